/- The walks of the reference that reads: whole numbers, texts, a flag, a list's number. -/
import Derived.Test.YteohhgkehkmgcaaCu1
namespace Go.Proofs.Yteohhgkehkmgcaa
open Go.RowKit Le
set_option maxRecDepth 100000
set_option linter.unusedVariables false
set_option maxHeartbeats 1600000 in
theorem C_whole (base g : Nat) (o : Option (List UInt8)) (w : World) (h : CutAt w base g o) :
    Calls Try.prog 154 #[.pointer (some ⟨g, 0, none⟩)] w fun e w' => (∃ v : Int, e = .returned (.int .i64 v) ∧ ∀ l, o = some l → v = (rdInt l).1) ∧ CutAt w' base g (stepO .whole o) ∧ Cuts base w w' := by
  obtain ⟨r, A, n, c, i, lb, hB, hCt, hR, hn, hd, hbr, hbg⟩ := h
  have hc0 : w.cell? ⟨g, 0, none⟩ = some (.pointer (some ⟨r, 0, none⟩)) := hB.cell 0
  have hne := cut_ne hB hCt
  have hlb : lb.length = n := reads_length hR
  have C := Lib.hid (cint_all r A n c i lb w hCt base hR hn.2.2.2 hn.1 hn.2.1)
  obtain ⟨E, hE⟩ : ∃ E, (rdInt (lb.drop i)).2.1 = E := ⟨_, rfl⟩
  obtain ⟨V, hV⟩ : ∃ V, (rdInt (lb.drop i)).1 = V := ⟨_, rfl⟩
  obtain ⟨K, hK⟩ : ∃ K, (rdInt (lb.drop i)).2.2 = K := ⟨_, rfl⟩
  have hKle : K ≤ n - i := by have := rdInt_le (lb.drop i); rw [hK, List.length_drop, hlb] at this; exact this
  rw [hE, hV, hK] at C
  have hok : ∀ l, o = some l → E = 0 → stepO .whole o = some (lb.drop (i + K)) := fun l ho h0 => by
    have := hd l ho
    subst this
    subst ho
    simp only [stepO, Option.bind_some, rd_whole_ok (hE.trans h0), Option.map_some, hK, List.drop_drop]
  have hbad : ∀ l, o = some l → E ≠ 0 → stepO .whole o = none := fun l ho h0 => by
    have := hd l ho
    subst this
    subst ho
    simp only [stepO, Option.bind_some, rd_whole_no (hE ▸ h0), Option.map_none]
  have hv : ∀ l, o = some l → V = (rdInt l).1 := fun l ho => by rw [← hd l ho, hV]
  have HB := Lib.hid hB
  have HR := Lib.hid hR
  have HCt := Lib.hid hCt
  have HOK := Lib.hid hok
  have HBAD := Lib.hid hbad
  have HV := Lib.hid hv
  have hgo := hB.lt
  clear hB hR hCt hd hE hV hK hok hbad hv hlb
  have STEP : ∀ w1 : World, Ct w1 r A n c (i + K) → w.grownBy w1 (some r) → Blk w1 g 144 [.pointer (some ⟨r, 0, none⟩), .bool o.isNone] ∧ Reads w1 base A n (u8s lb) ∧ Cuts base w w1 := fun w1 h1 hg => by
    have hc := Cuts.of_grown HCt.out hbr hg
    exact ⟨HB.out.grown hg (by intro e; injection e with e; exact hne e), HR.out.below hc.below, hc⟩
  have HST := Lib.hid STEP
  clear STEP
  cases o with
  | none =>
    go_enter Try.func154, Try.ntmps154
    go_wp2_with fail
    refine (unhide C).mono ?_
    rintro e w1 ⟨rfl, hct, hg⟩
    obtain ⟨hB1, hR1, hcu⟩ := unhide HST w1 hct hg
    have hc1 : w1.cell? ⟨g, 1, none⟩ = some (.bool true) := hB1.cell 1
    have hf1 : w1.frozen? ⟨g, 1, none⟩ = false := hB1.frozen 1
    have h2 := Lib.hid (cut_stored (o := none) (b := true) hB1 hct hR1 ⟨hn.1, hn.2.1, hn.2.2.1, by omega⟩ hbr hbg rfl (fun l h => by cases h))
    have HCU := Lib.hid hcu
    clear hct hg hB1 hR1 hcu C
    go_wp2
    go_ret
    exact ⟨⟨V, rfl, HV.out⟩, h2.out.1, HCU.out.trans h2.out.2⟩
  | some l =>
    by_cases h0 : E = 0
    · subst h0
      go_enter Try.func154, Try.ntmps154
      go_wp2_with fail
      refine (unhide C).mono ?_
      rintro e w1 ⟨rfl, hct, hg⟩
      obtain ⟨hB1, hR1, hcu⟩ := unhide HST w1 hct hg
      have hc1 : w1.cell? ⟨g, 1, none⟩ = some (.bool false) := hB1.cell 1
      have hf1 : w1.frozen? ⟨g, 1, none⟩ = false := hB1.frozen 1
      have h2 := Lib.hid (cut_stored (o := some (lb.drop (i + K))) (b := false) hB1 hct hR1 ⟨hn.1, hn.2.1, hn.2.2.1, by omega⟩ hbr hbg rfl (fun l h => by injection h))
      have HCU := Lib.hid hcu
      clear hct hg hB1 hR1 hcu C
      go_wp2
      go_ret
      exact ⟨⟨V, rfl, HV.out⟩, by rw [HOK.out l rfl (by simp)]; exact h2.out.1, HCU.out.trans h2.out.2⟩
    · have t1 : (E == 0) = false := by simpa using h0
      have t2 : (E != 0) = true := by simpa using h0
      go_enter Try.func154, Try.ntmps154
      go_wp2_with fail
      refine (unhide C).mono ?_
      rintro e w1 ⟨rfl, hct, hg⟩
      obtain ⟨hB1, hR1, hcu⟩ := unhide HST w1 hct hg
      have hc1 : w1.cell? ⟨g, 1, none⟩ = some (.bool false) := hB1.cell 1
      have hf1 : w1.frozen? ⟨g, 1, none⟩ = false := hB1.frozen 1
      have h2 := Lib.hid (cut_stored (o := none) (b := true) hB1 hct hR1 ⟨hn.1, hn.2.1, hn.2.2.1, by omega⟩ hbr hbg rfl (fun l h => by cases h))
      have HCU := Lib.hid hcu
      clear hct hg hB1 hR1 hcu C
      go_wp2
      go_ret
      exact ⟨⟨V, rfl, HV.out⟩, by rw [HBAD.out l rfl h0]; exact h2.out.1, HCU.out.trans h2.out.2⟩
set_option maxHeartbeats 1600000 in
theorem C_text (base g : Nat) (o : Option (List UInt8)) (w : World) (h : CutAt w base g o) :
    Calls Try.prog 98 #[.pointer (some ⟨g, 0, none⟩)] w fun e w' => (∃ v : ByteArray, e = .returned (.string v) ∧ ∀ l, o = some l → v = (rdText l).1) ∧ CutAt w' base g (stepO .text o) ∧ Cuts base w w' := by
  obtain ⟨r, A, n, c, i, lb, hB, hCt, hR, hn, hd, hbr, hbg⟩ := h
  have hc0 : w.cell? ⟨g, 0, none⟩ = some (.pointer (some ⟨r, 0, none⟩)) := hB.cell 0
  have hne := cut_ne hB hCt
  have hlb : lb.length = n := reads_length hR
  have C := Lib.hid (ctext_all r A n c i lb w hCt base hR hn.2.2.2 hn.1 hn.2.1)
  obtain ⟨E, hE⟩ : ∃ E, (rdText (lb.drop i)).2.1 = E := ⟨_, rfl⟩
  obtain ⟨V, hV⟩ : ∃ V, (rdText (lb.drop i)).1 = V := ⟨_, rfl⟩
  obtain ⟨K, hK⟩ : ∃ K, (rdText (lb.drop i)).2.2 = K := ⟨_, rfl⟩
  have hKle : K ≤ n - i := by have := rdText_le (lb.drop i); rw [hK, List.length_drop, hlb] at this; exact this
  rw [hE, hV, hK] at C
  have hok : ∀ l, o = some l → E = 0 → stepO .text o = some (lb.drop (i + K)) := fun l ho h0 => by
    have := hd l ho
    subst this
    subst ho
    obtain ⟨b, hb1, hb2⟩ := rd_text_ok (hE.trans h0)
    simp only [stepO, Option.bind_some, hb2, Option.map_some, hK, List.drop_drop]
  have hbad : ∀ l, o = some l → E ≠ 0 → stepO .text o = none := fun l ho h0 => by
    have := hd l ho
    subst this
    subst ho
    simp only [stepO, Option.bind_some, rd_text_no (hE ▸ h0), Option.map_none]
  have hv : ∀ l, o = some l → V = (rdText l).1 := fun l ho => by rw [← hd l ho, hV]
  have HB := Lib.hid hB
  have HR := Lib.hid hR
  have HCt := Lib.hid hCt
  have HOK := Lib.hid hok
  have HBAD := Lib.hid hbad
  have HV := Lib.hid hv
  have hgo := hB.lt
  clear hB hR hCt hd hE hV hK hok hbad hv hlb
  have STEP : ∀ w1 : World, Ct w1 r A n c (i + K) → w.grownBy w1 (some r) → Blk w1 g 144 [.pointer (some ⟨r, 0, none⟩), .bool o.isNone] ∧ Reads w1 base A n (u8s lb) ∧ Cuts base w w1 := fun w1 h1 hg => by
    have hc := Cuts.of_grown HCt.out hbr hg
    exact ⟨HB.out.grown hg (by intro e; injection e with e; exact hne e), HR.out.below hc.below, hc⟩
  have HST := Lib.hid STEP
  clear STEP
  cases o with
  | none =>
    go_enter Try.func98, Try.ntmps98
    go_wp2_with fail
    refine (unhide C).mono ?_
    rintro e w1 ⟨rfl, hct, hg⟩
    obtain ⟨hB1, hR1, hcu⟩ := unhide HST w1 hct hg
    have hc1 : w1.cell? ⟨g, 1, none⟩ = some (.bool true) := hB1.cell 1
    have hf1 : w1.frozen? ⟨g, 1, none⟩ = false := hB1.frozen 1
    have h2 := Lib.hid (cut_stored (o := none) (b := true) hB1 hct hR1 ⟨hn.1, hn.2.1, hn.2.2.1, by omega⟩ hbr hbg rfl (fun l h => by cases h))
    have HCU := Lib.hid hcu
    clear hct hg hB1 hR1 hcu C
    go_wp2
    go_ret
    exact ⟨⟨V, rfl, HV.out⟩, h2.out.1, HCU.out.trans h2.out.2⟩
  | some l =>
    by_cases h0 : E = 0
    · subst h0
      go_enter Try.func98, Try.ntmps98
      go_wp2_with fail
      refine (unhide C).mono ?_
      rintro e w1 ⟨rfl, hct, hg⟩
      obtain ⟨hB1, hR1, hcu⟩ := unhide HST w1 hct hg
      have hc1 : w1.cell? ⟨g, 1, none⟩ = some (.bool false) := hB1.cell 1
      have hf1 : w1.frozen? ⟨g, 1, none⟩ = false := hB1.frozen 1
      have h2 := Lib.hid (cut_stored (o := some (lb.drop (i + K))) (b := false) hB1 hct hR1 ⟨hn.1, hn.2.1, hn.2.2.1, by omega⟩ hbr hbg rfl (fun l h => by injection h))
      have HCU := Lib.hid hcu
      clear hct hg hB1 hR1 hcu C
      go_wp2
      go_ret
      exact ⟨⟨V, rfl, HV.out⟩, by rw [HOK.out l rfl (by simp)]; exact h2.out.1, HCU.out.trans h2.out.2⟩
    · have t1 : (E == 0) = false := by simpa using h0
      have t2 : (E != 0) = true := by simpa using h0
      go_enter Try.func98, Try.ntmps98
      go_wp2_with fail
      refine (unhide C).mono ?_
      rintro e w1 ⟨rfl, hct, hg⟩
      obtain ⟨hB1, hR1, hcu⟩ := unhide HST w1 hct hg
      have hc1 : w1.cell? ⟨g, 1, none⟩ = some (.bool false) := hB1.cell 1
      have hf1 : w1.frozen? ⟨g, 1, none⟩ = false := hB1.frozen 1
      have h2 := Lib.hid (cut_stored (o := none) (b := true) hB1 hct hR1 ⟨hn.1, hn.2.1, hn.2.2.1, by omega⟩ hbr hbg rfl (fun l h => by cases h))
      have HCU := Lib.hid hcu
      clear hct hg hB1 hR1 hcu C
      go_wp2
      go_ret
      exact ⟨⟨V, rfl, HV.out⟩, by rw [HBAD.out l rfl h0]; exact h2.out.1, HCU.out.trans h2.out.2⟩

set_option maxHeartbeats 3200000 in
theorem C_flag (base g : Nat) (o : Option (List UInt8)) (w : World) (h : CutAt w base g o) :
    Calls Try.prog 101 #[.pointer (some ⟨g, 0, none⟩)] w fun e w' => (∃ v : Bool, e = .returned (.bool v)) ∧ CutAt w' base g (stepO .flag o) ∧ Cuts base w w' := by
  obtain ⟨r, A, n, c, i, lb, hB, hCt, hR, hn, hd, hbr, hbg⟩ := h
  have hne := cut_ne hB hCt
  have hc0 : w.cell? ⟨g, 0, none⟩ = some (.pointer (some ⟨r, 0, none⟩)) := hB.cell 0
  have hf1 : w.frozen? ⟨g, 1, none⟩ = false := hB.frozen 1
  have hc1 : w.cell? ⟨g, 1, none⟩ = some (.bool o.isNone) := hB.cell 1
  have hlb : lb.length = n := reads_length hR
  have C := Lib.hid (cleft_any r A n c i w hCt hn.2.2.2 hn.2.1)
  by_cases hin : i < n
  rotate_left
  · have hz : ((n - i : Nat) : Int) < 1 := by omega
    have HF : ∀ m, CutAt ((w.drewN m).setCell ⟨g, 1, none⟩ (.bool true)) base g (stepO .flag o) ∧ Cuts base (w.drewN m) ((w.drewN m).setCell ⟨g, 1, none⟩ (.bool true)) := fun m => by
      have hs : stepO .flag o = none := by
        cases o with
        | none => rfl
        | some l =>
          have := hd l rfl
          rw [List.drop_eq_nil_of_le (by omega)] at this
          subst this
          simp [stepO, rd, rdFlag]
      rw [hs]
      exact cut_stored (o := none) (hB.drewN m) (Blk.drewN hCt m) (hR.drewN m) hn hbr hbg rfl (fun l h => by cases h)
    have HFH := Lib.hid HF
    clear HF hB hCt hR hd hlb
    go_enter Try.func101, Try.ntmps101
    go_wp2_with fail
    refine (unhide C).mono ?_
    rintro e w1 ⟨rfl, m, rfl⟩
    go_wp2
    go_ret
    have h2 := HFH.out m
    have hdn : Cuts base w (w.drewN m) := ⟨by constructor <;> first | rfl | exact Nat.le_refl _ | (intros; rfl), ⟨Nat.le_refl _, fun _ _ _ _ => rfl⟩⟩
    exact ⟨⟨false, rfl⟩, h2.1, hdn.trans h2.2⟩
  · have hz : 1 ≤ ((n - i : Nat) : Int) := by omega
    obtain ⟨ad, rfl, hab, hcells⟩ := hR.2 (by omega)
    obtain ⟨c0, hc00⟩ : ∃ c0, lb[i]? = some c0 := ⟨lb[i]'(by omega), List.getElem?_eq_getElem (by omega)⟩
    have hcb : w.cell? (ad.add i) = some (.int .u8 (c0.toNat : Int)) := hcells i _ (by simp [u8s, hc00])
    have hr0 : w.cell? ⟨r, 0, none⟩ = some (.slice (some ad) n c) := Blk.cell hCt 0
    have hr1 : w.cell? ⟨r, 1, none⟩ = some (.int .i64 i) := Blk.cell hCt 1
    have hfr : w.frozen? ⟨r, 1, none⟩ = false := Blk.frozen hCt 1
    have hBs : ∀ m, Blk ((w.drewN m).setCell ⟨r, 1, none⟩ (.int .i64 ((i : Int) + 1))) g 144 [.pointer (some ⟨r, 0, none⟩), .bool o.isNone] := fun m => (hB.drewN m).far hne _
    have hq0 : ∀ m, ((w.drewN m).setCell ⟨r, 1, none⟩ (.int .i64 ((i : Int) + 1))).cell? ⟨g, 1, none⟩ = some (.bool o.isNone) := fun m => (hBs m).cell 1
    have hqf : ∀ m, ((w.drewN m).setCell ⟨r, 1, none⟩ (.int .i64 ((i : Int) + 1))).frozen? ⟨g, 1, none⟩ = false := fun m => (hBs m).frozen 1
    have HF : ∀ m (b : Bool), b = (stepO .flag o).isNone → CutAt (((w.drewN m).setCell ⟨r, 1, none⟩ (.int .i64 ((i : Int) + 1))).setCell ⟨g, 1, none⟩ (.bool b)) base g (stepO .flag o) ∧ Cuts base w (((w.drewN m).setCell ⟨r, 1, none⟩ (.int .i64 ((i : Int) + 1))).setCell ⟨g, 1, none⟩ (.bool b)) := fun m b hb => by
      have hct2 : Ct ((w.drewN m).setCell ⟨r, 1, none⟩ (.int .i64 ((i : Int) + 1))) r (some ad) n c (i + 1) := by have := ct_set (j := i + 1) hCt m; simpa using this
      have hbel : Below base (w.drewN m) ((w.drewN m).setCell ⟨r, 1, none⟩ (.int .i64 ((i : Int) + 1))) := (Below.refl _ _).setCell hbr _
      have hR2 := (hR.drewN m).below hbel
      have hK2 : Keeps [142] (w.drewN m) ((w.drewN m).setCell ⟨r, 1, none⟩ (.int .i64 ((i : Int) + 1))) := Keeps.set_ (Blk.typ (Blk.drewN hCt m)) (by simp) _
      have h3 := cut_stored (o := stepO .flag o) (b := b) (hBs m) hct2 hR2 ⟨hn.1, hn.2.1, hn.2.2.1, by omega⟩ hbr hbg hb (fun l hl => by
        cases o with
        | none => cases hl
        | some l0 =>
          have h4 := hd l0 rfl
          have h5 : l0 = c0 :: lb.drop (i + 1) := by
            rw [← h4, List.drop_eq_getElem_cons (by omega)]
            congr 1
            rw [List.getElem?_eq_getElem (by omega)] at hc00
            injection hc00
          subst h5
          simp only [stepO, Option.bind_some, rd, rdFlag] at hl
          split at hl
          · simpa using hl
          · simp at hl)
      have hdn : Cuts base w (w.drewN m) := ⟨by constructor <;> first | rfl | exact Nat.le_refl _ | (intros; rfl), ⟨Nat.le_refl _, fun _ _ _ _ => rfl⟩⟩
      exact ⟨h3.1, hdn.trans (Cuts.trans ⟨hbel, hK2.more (by simp)⟩ h3.2)⟩
    have HFH := Lib.hid HF
    have HS : (o.isNone = true → (stepO .flag o).isNone = true) ∧ (o.isNone = false → (c0.toNat ≤ 1 → (stepO .flag o).isNone = false) ∧ (1 < c0.toNat → (stepO .flag o).isNone = true)) := by
      cases o with
      | none => exact ⟨fun _ => rfl, fun h => (by simp at h)⟩
      | some l0 =>
        refine ⟨fun h => (by simp at h), fun _ => ?_⟩
        have h4 := hd l0 rfl
        have h5 : l0 = c0 :: lb.drop (i + 1) := by
          rw [← h4, List.drop_eq_getElem_cons (by omega)]
          congr 1
          rw [List.getElem?_eq_getElem (by omega)] at hc00
          injection hc00
        subst h5
        constructor
        · intro h
          simp only [stepO, Option.bind_some, rd, rdFlag]
          rw [if_pos h]
          rfl
        · intro h
          simp only [stepO, Option.bind_some, rd, rdFlag]
          rw [if_neg (by omega)]
          rfl
    have HSH := Lib.hid HS
    clear HF HS hB hCt hR hd hlb hcells hc00 hBs
    obtain ⟨nb, hnb⟩ : ∃ nb, o.isNone = nb := ⟨_, rfl⟩
    rw [hnb] at hc1 hq0
    cases nb with
    | true =>
      have HN := Lib.hid hnb
      clear hnb
      go_enter Try.func101, Try.ntmps101
      go_wp2_with fail
      refine (unhide C).mono ?_
      rintro e w1 ⟨rfl, m, rfl⟩
      go_wp2
      go_quiet (fail)
      go_wp2
      go_ret
      exact ⟨⟨_, rfl⟩, (HFH.out _ true (HSH.out.1 HN.out).symm).1, (HFH.out _ true (HSH.out.1 HN.out).symm).2⟩
    | false =>
      have HN := Lib.hid hnb
      clear hnb
      by_cases h01 : c0.toNat ≤ 1
      · have hdv : decide ((1 : Int) < (c0.toNat : Int)) = false := decide_eq_false (by omega)
        go_enter Try.func101, Try.ntmps101
        go_wp2_with fail
        refine (unhide C).mono ?_
        rintro e w1 ⟨rfl, m, rfl⟩
        go_wp2
        go_quiet (fail)
        go_wp2
        go_ret
        exact ⟨⟨_, rfl⟩, (HFH.out _ false ((HSH.out.2 HN.out).1 h01).symm).1, (HFH.out _ false ((HSH.out.2 HN.out).1 h01).symm).2⟩
      · have hdv : decide ((1 : Int) < (c0.toNat : Int)) = true := decide_eq_true (by omega)
        go_enter Try.func101, Try.ntmps101
        go_wp2_with fail
        refine (unhide C).mono ?_
        rintro e w1 ⟨rfl, m, rfl⟩
        go_wp2
        go_quiet (fail)
        go_wp2
        go_ret
        exact ⟨⟨_, rfl⟩, (HFH.out _ true ((HSH.out.2 HN.out).2 (by omega)).symm).1, (HFH.out _ true ((HSH.out.2 HN.out).2 (by omega)).symm).2⟩
/-- What is left behind a list's number; none: it is too long, or something was wrong. -/
def stepM (o : Option (List UInt8)) : Option (List UInt8) := o.bind fun l => (rdNum l).bind fun x => if x.1 ≤ 4096 then some x.2 else none
set_option maxHeartbeats 3200000 in
theorem C_many (base g : Nat) (o : Option (List UInt8)) (w : World) (h : CutAt w base g o) :
    Calls Try.prog 130 #[.pointer (some ⟨g, 0, none⟩)] w fun e w' => (∃ N : Nat, e = .returned (.int .i64 N) ∧ N ≤ 4096 ∧ ∀ l x, o = some l → rdNum l = some x → x.1 ≤ 4096 → N = x.1) ∧ CutAt w' base g (stepM o) ∧ Cuts base w w' := by
  have C := Lib.hid (C_num base g o w h)
  clear h
  go_enter Try.func130, Try.ntmps130
  go_wp2_with fail
  refine (unhide C).mono ?_
  rintro e w1 ⟨⟨V, rfl, hv⟩, hA, hK⟩
  have HA := Lib.hid hA
  obtain ⟨r, A, n, c, i, lb, hB, hCt, hR, hn, hd, hbr, hbg⟩ := hA
  have HK := Lib.hid hK
  have HB := Lib.hid hB
  have HR := Lib.hid hR
  have HCt := Lib.hid hCt
  have HD := Lib.hid hd
  have HV := Lib.hid hv
  clear hB hR hCt hd hv hK C
  have HF : ∀ (b : Bool) (o' : Option (List UInt8)), b = o'.isNone → (∀ l, o' = some l → lb.drop i = l) → CutAt (w1.setCell ⟨g, 1, none⟩ (.bool b)) base g o' ∧ Cuts base w1 (w1.setCell ⟨g, 1, none⟩ (.bool b)) := fun b o' hb hd' => cut_stored HB.out HCt.out HR.out hn hbr hbg hb hd'
  have HFH := Lib.hid HF
  clear HF
  cases hs : stepO .num o with
  | none =>
    rw [hs] at HB HD HA
    have hc1 : w1.cell? ⟨g, 1, none⟩ = some (.bool true) := HB.out.cell 1
    have hf1 : w1.frozen? ⟨g, 1, none⟩ = false := HB.out.frozen 1
    have HB2 := Lib.hid (HB.out.set_ 1 (.bool true))
    have hq1 : (w1.setCell ⟨g, 1, none⟩ (.bool true)).cell? ⟨g, 1, none⟩ = some (.bool true) := HB2.out.cell 1
    have HM : Hid (stepM o = none) := Lib.hid (by
      cases o with
      | none => rfl
      | some l =>
        simp only [stepO, Option.bind_some, Option.map_eq_none_iff] at hs
        simp only [stepM, Option.bind_some, rd_num_none hs, Option.bind_none])
    have HNO : Hid (∀ l x, o = some l → rdNum l = some x → False) := Lib.hid (fun l x ho hx => by
      subst ho
      simp only [stepO, Option.bind_some, Option.map_eq_none_iff] at hs
      rw [rd_num_none hs] at hx
      cases hx)
    have h2 := Lib.hid (unhide HFH true none rfl (fun l h => by cases h))
    clear hs
    go_wp2
    go_ret
    refine ⟨⟨0, rfl, by omega, fun l x ho hx _ => absurd (HNO.out l x ho hx) id⟩, ?_, HK.out.trans h2.out.2⟩
    rw [HM.out]
    exact h2.out.1
  | some l1 =>
    rw [hs] at HB HD HA
    have hc1 : w1.cell? ⟨g, 1, none⟩ = some (.bool false) := HB.out.cell 1
    have hf1 : w1.frozen? ⟨g, 1, none⟩ = false := HB.out.frozen 1
    obtain ⟨l, rfl⟩ : ∃ l, o = some l := by
      cases o with
      | none => simp [stepO] at hs
      | some l => exact ⟨l, rfl⟩
    obtain ⟨N, hN1, hN2⟩ : ∃ N, rdNum l = some (N, l1) ∧ V = (N : Int) := by
      simp only [stepO, Option.bind_some, Option.map_eq_some_iff] at hs
      obtain ⟨⟨d, l2⟩, h1, h2⟩ := hs
      dsimp only at h2
      subst h2
      obtain ⟨N, rfl, h3, _⟩ := rd_num_inv h1
      refine ⟨N, h3, ?_⟩
      rw [HV.out l rfl]
      have h4 : (rdNumber l).2.1 = 0 := by
        by_cases h : (rdNumber l).2.1 = 0
        · exact h
        · rw [rd_num_no h] at h1; cases h1
      rw [rd_num_ok h4] at h1
      injection h1 with h1
      injection h1 with h1 _
      injection h1
    subst hN2
    have HN := Lib.hid hN1
    clear hs hN1 HV
    by_cases h4 : N ≤ 4096
    · have HM : Hid (stepM (some l) = some l1) := Lib.hid (by simp only [stepM, Option.bind_some, HN.out]; rw [if_pos h4])
      have hdv : decide ((4096 : Int) < (N : Int)) = false := decide_eq_false (by omega)
      have hq1 : (w1.setCell ⟨g, 1, none⟩ (.bool false)).cell? ⟨g, 1, none⟩ = some (.bool false) := (HB.out.set_ 1 (.bool false)).cell 1
      have h2 := Lib.hid (unhide HFH false (some l1) rfl HD.out)
      go_wp2
      go_ret
      refine ⟨⟨N, rfl, h4, fun l' x ho hx _ => ?_⟩, ?_, HK.out.trans h2.out.2⟩
      · injection ho with ho
        subst ho
        rw [HN.out] at hx
        injection hx with hx
        rw [← hx]
      · rw [HM.out]
        exact h2.out.1
    · have HM : Hid (stepM (some l) = none) := Lib.hid (by simp only [stepM, Option.bind_some, HN.out]; rw [if_neg h4])
      have hdv : decide ((4096 : Int) < (N : Int)) = true := decide_eq_true (by omega)
      have hq1 : (w1.setCell ⟨g, 1, none⟩ (.bool true)).cell? ⟨g, 1, none⟩ = some (.bool true) := (HB.out.set_ 1 (.bool true)).cell 1
      have h2 := Lib.hid (unhide HFH true none rfl (fun l h => by cases h))
      go_wp2
      go_ret
      refine ⟨⟨0, rfl, by omega, fun l' x ho hx h5 => ?_⟩, ?_, HK.out.trans h2.out.2⟩
      · injection ho with ho
        subst ho
        rw [HN.out] at hx
        injection hx with hx
        rw [← hx] at h5
        exact absurd h5 h4
      · rw [HM.out]
        exact h2.out.1
end Go.Proofs.Yteohhgkehkmgcaa
