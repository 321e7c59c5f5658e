/- The walks of the reference that reads: its small methods. Once something is wrong, only the kinds of what comes out are told. -/
import Derived.Test.YteohhgkehkmgcaaBoth
import Derived.Test.YteohhgkehkmgcaaRe3
import Derived.BigQuiet
namespace Go.Proofs.Yteohhgkehkmgcaa
open Go.RowKit Le
set_option maxRecDepth 100000
set_option linter.unusedVariables false

/-! ### Plain: what is left. -/
/-- What is left behind a field; none: something was wrong. -/
def stepO (a : Sh) (o : Option (List UInt8)) : Option (List UInt8) := o.bind fun l => (rd a l).map (·.2)
def stepS (sh : List Sh) (o : Option (List UInt8)) : Option (List UInt8) := o.bind fun l => (rds sh l).map (·.2)
theorem stepO_none (a : Sh) : stepO a none = none := rfl
theorem stepS_nil (o : Option (List UInt8)) : stepS [] o = o := by
  cases o with
  | none => rfl
  | some l => simp [stepS, rds]
theorem stepS_cons (a : Sh) (sh : List Sh) (o : Option (List UInt8)) : stepS (a :: sh) o = stepS sh (stepO a o) := by
  cases o with
  | none => rfl
  | some l =>
    simp only [stepS, stepO, Option.bind_some, rds]
    cases h : rd a l with
    | none => rfl
    | some x =>
      simp only [Option.bind_some, Option.map_some]
      cases rds sh x.2 <;> rfl
/-- What kind of value. -/
def Kind1 : Sh → Value → Prop
  | .num, v => ∃ n, v = .int .i64 n
  | .whole, v => ∃ n, v = .int .i64 n
  | .text, v => ∃ s, v = .string s
  | .flag, v => ∃ b, v = .bool b
  | .rows _, v => ∃ A n c, v = .slice A n c
def Kinds : List Sh → List Value → Prop
  | [], vs => vs = []
  | a :: l, vs => ∃ v vs', vs = v :: vs' ∧ Kind1 a v ∧ Kinds l vs'
theorem Kind1.oneCell {a : Sh} {v : Value} (h : Kind1 a v) : v.oneCell' = true := by
  cases a with
  | num => obtain ⟨_, rfl⟩ := h; rfl
  | whole => obtain ⟨_, rfl⟩ := h; rfl
  | text => obtain ⟨_, rfl⟩ := h; rfl
  | flag => obtain ⟨_, rfl⟩ := h; rfl
  | rows l => obtain ⟨_, _, _, rfl⟩ := h; rfl
theorem Kinds.oneCell : ∀ {l : List Sh} {vs : List Value}, Kinds l vs → ∀ u ∈ vs, u.oneCell' = true
  | [], vs, h => by
    simp only [Kinds] at h
    subst h
    intro u hu
    cases hu
  | a :: l, vs, h => by
    obtain ⟨v, vs', rfl, h1, h2⟩ := h
    intro u hu
    rcases List.mem_cons.1 hu with rfl | hu
    · exact h1.oneCell
    · exact h2.oneCell u hu
theorem Kinds.len : ∀ {l : List Sh} {vs : List Value}, Kinds l vs → vs.length = l.length
  | [], vs, h => by
    simp only [Kinds] at h
    subst h
    rfl
  | a :: l, vs, h => by
    obtain ⟨v, vs', rfl, h1, h2⟩ := h
    simp [h2.len]

/-! ### The reference's Cut in memory. -/
/-- The reference's Cut at block g: some l: l is left; none: something was wrong. -/
def CutAt (w : World) (base g : Nat) (o : Option (List UInt8)) : Prop :=
  ∃ r A n c i lb, Blk w g 144 [.pointer (some ⟨r, 0, none⟩), .bool o.isNone] ∧ Ct w r A n c i ∧ Reads w base A n (u8s lb) ∧ (n ≤ c ∧ n ≤ 1099511627776 ∧ c ≤ 9223372036854775807 ∧ i ≤ n) ∧ (∀ l, o = some l → lb.drop i = l) ∧ base ≤ r ∧ base ≤ g
structure Cuts (base : Nat) (w w' : World) : Prop where
  below : Below base w w'
  keeps : Keeps [144, 142] w w'
theorem Cuts.trans {base : Nat} {w w' w'' : World} (h : Cuts base w w') (g : Cuts base w' w'') : Cuts base w w'' := ⟨h.below.trans g.below, h.keeps.trans g.keeps⟩
theorem Cuts.refl (base : Nat) (w : World) : Cuts base w w := ⟨Below.refl _ _, Keeps.refl _ _⟩
theorem CutAt.lt {w : World} {base g : Nat} {o : Option (List UInt8)} (h : CutAt w base g o) : base ≤ w.heap.size := by
  obtain ⟨r, A, n, c, i, lb, hB, _, _, _, _, _, hg⟩ := h
  have := hB.lt
  omega
theorem CutAt.keeps {ts : List TypeId} {w w' : World} {base g : Nat} {o : Option (List UInt8)} (h : CutAt w base g o) (hk : Keeps ts w w') (hb : Below base w w') (h1 : 144 ∉ ts) (h2 : 142 ∉ ts) : CutAt w' base g o := by
  obtain ⟨r, A, n, c, i, lb, hB, hC, hR, hn, hd, hr, hg⟩ := h
  exact ⟨r, A, n, c, i, lb, hB.keeps hk h1, Blk.keeps hC hk h2, hR.below hb, hn, hd, hr, hg⟩
theorem CutAt.below_ {w w' : World} {base g : Nat} {o : Option (List UInt8)} (h : CutAt w base g o) (hb : Below w.heap.size w w') : CutAt w' base g o :=
  h.keeps (ts := []) (Keeps.of_below hb (Nat.le_refl _)) (hb.mono h.lt) (by simp) (by simp)
theorem Cuts.of_grown {base r : Nat} {w w' : World} {cs : List Value} (hB : Blk w r 142 cs) (hr : base ≤ r) (hg : w.grownBy w' (some r)) : Cuts base w w' := by
  have hlt := hB.lt
  refine ⟨(Below.refl base w).grown hg (by omega) (by intro k hk; injection hk with hk; omega), hg.size, fun k t ht hn => hg.block k ht.lt ?_⟩
  intro e
  injection e with e
  subst e
  exact hn (by rw [ht.same hB.typ]; simp)
theorem cut_ne {w : World} {g r : Nat} {cs ds : List Value} (hB : Blk w g 144 cs) (hC : Blk w r 142 ds) : g ≠ r := by
  intro e
  subst e
  exact absurd (hB.typ.same hC.typ) (by decide)
/-- How a field's reading ends. -/
def CEnd (a : Sh) (o : Option (List UInt8)) (w w' : World) (base g : Nat) (e : Ending) : Prop :=
  (∃ v, e = .returned v ∧ Kind1 a v) ∧ CutAt w' base g (stepO a o) ∧ Cuts base w w'
theorem cut_stored {w : World} {base g r n c i : Nat} {A : Option Addr} {lb : List UInt8} {x : Value} {o : Option (List UInt8)} {b : Bool} (hB : Blk w g 144 [.pointer (some ⟨r, 0, none⟩), x]) (hC : Ct w r A n c i) (hR : Reads w base A n (u8s lb)) (hn : n ≤ c ∧ n ≤ 1099511627776 ∧ c ≤ 9223372036854775807 ∧ i ≤ n)
    (hr : base ≤ r) (hg : base ≤ g) (hb : b = o.isNone) (hd : ∀ l, o = some l → lb.drop i = l) : CutAt (w.setCell ⟨g, 1, none⟩ (.bool b)) base g o ∧ Cuts base w (w.setCell ⟨g, 1, none⟩ (.bool b)) := by
  subst hb
  have hk : Keeps [144] w (w.setCell ⟨g, 1, none⟩ (.bool o.isNone)) := Keeps.set_ hB.typ (by simp) _
  have hb : Below base w (w.setCell ⟨g, 1, none⟩ (.bool o.isNone)) := (Below.refl _ _).setCell hg _
  exact ⟨⟨r, A, n, c, i, lb, hB.set_ 1 _, Blk.keeps hC hk (by decide), hR.below hb, hn, hd, hr, hg⟩, hb, hk.more (by simp)⟩

set_option maxHeartbeats 1600000 in
theorem C_num (base g : Nat) (o : Option (List UInt8)) (w : World) (h : CutAt w base g o) :
    Calls Try.prog 82 #[.pointer (some ⟨g, 0, none⟩)] w fun e w' => (∃ v : Int, e = .returned (.int .i64 v) ∧ ∀ l, o = some l → v = (rdNumber l).1) ∧ CutAt w' base g (stepO .num o) ∧ Cuts base w w' := by
  obtain ⟨r, A, n, c, i, lb, hB, hCt, hR, hn, hd, hbr, hbg⟩ := h
  have hc0 : w.cell? ⟨g, 0, none⟩ = some (.pointer (some ⟨r, 0, none⟩)) := hB.cell 0
  have hne := cut_ne hB hCt
  have hlb : lb.length = n := reads_length hR
  have C := Lib.hid (cnumber_all r A n c i lb w hCt base hR hn.2.2.2 hn.1 hn.2.1)
  obtain ⟨E, hE⟩ : ∃ E, (rdNumber (lb.drop i)).2.1 = E := ⟨_, rfl⟩
  obtain ⟨V, hV⟩ : ∃ V, (rdNumber (lb.drop i)).1 = V := ⟨_, rfl⟩
  obtain ⟨K, hK⟩ : ∃ K, (rdNumber (lb.drop i)).2.2 = K := ⟨_, rfl⟩
  have hKle : K ≤ n - i := by have := rdNumber_le (lb.drop i); rw [hK, List.length_drop, hlb] at this; exact this
  rw [hE, hV, hK] at C
  have hok : ∀ l, o = some l → E = 0 → stepO .num o = some (lb.drop (i + K)) := fun l ho h0 => by
    have := hd l ho
    subst this
    subst ho
    simp only [stepO, Option.bind_some, rd_num_ok (hE.trans h0), Option.map_some, hK, List.drop_drop]
  have hbad : ∀ l, o = some l → E ≠ 0 → stepO .num o = none := fun l ho h0 => by
    have := hd l ho
    subst this
    subst ho
    simp only [stepO, Option.bind_some, rd_num_no (hE ▸ h0), Option.map_none]
  have hv : ∀ l, o = some l → V = (rdNumber l).1 := fun l ho => by rw [← hd l ho, hV]
  have HB := Lib.hid hB
  have HR := Lib.hid hR
  have HCt := Lib.hid hCt
  have HOK := Lib.hid hok
  have HBAD := Lib.hid hbad
  have HV := Lib.hid hv
  have hgo := hB.lt
  clear hB hR hCt hd hE hV hK hok hbad hv hlb
  have STEP : ∀ w1 : World, Ct w1 r A n c (i + K) → w.grownBy w1 (some r) → Blk w1 g 144 [.pointer (some ⟨r, 0, none⟩), .bool o.isNone] ∧ Reads w1 base A n (u8s lb) ∧ Cuts base w w1 := fun w1 h1 hg => by
    have hc := Cuts.of_grown HCt.out hbr hg
    exact ⟨HB.out.grown hg (by intro e; injection e with e; exact hne e), HR.out.below hc.below, hc⟩
  have HST := Lib.hid STEP
  clear STEP
  cases o with
  | none =>
    go_enter Try.func82, Try.ntmps82
    go_wp2_with fail
    refine (unhide C).mono ?_
    rintro e w1 ⟨rfl, hct, hg⟩
    obtain ⟨hB1, hR1, hcu⟩ := unhide HST w1 hct hg
    have hc1 : w1.cell? ⟨g, 1, none⟩ = some (.bool true) := hB1.cell 1
    have hf1 : w1.frozen? ⟨g, 1, none⟩ = false := hB1.frozen 1
    have h2 := Lib.hid (cut_stored (o := none) (b := true) hB1 hct hR1 ⟨hn.1, hn.2.1, hn.2.2.1, by omega⟩ hbr hbg rfl (fun l h => by cases h))
    have HCU := Lib.hid hcu
    clear hct hg hB1 hR1 hcu C
    go_wp2
    go_ret
    exact ⟨⟨V, rfl, HV.out⟩, h2.out.1, HCU.out.trans h2.out.2⟩
  | some l =>
    by_cases h0 : E = 0
    · subst h0
      go_enter Try.func82, Try.ntmps82
      go_wp2_with fail
      refine (unhide C).mono ?_
      rintro e w1 ⟨rfl, hct, hg⟩
      obtain ⟨hB1, hR1, hcu⟩ := unhide HST w1 hct hg
      have hc1 : w1.cell? ⟨g, 1, none⟩ = some (.bool false) := hB1.cell 1
      have hf1 : w1.frozen? ⟨g, 1, none⟩ = false := hB1.frozen 1
      have h2 := Lib.hid (cut_stored (o := some (lb.drop (i + K))) (b := false) hB1 hct hR1 ⟨hn.1, hn.2.1, hn.2.2.1, by omega⟩ hbr hbg rfl (fun l h => by injection h))
      have HCU := Lib.hid hcu
      clear hct hg hB1 hR1 hcu C
      go_wp2
      go_ret
      exact ⟨⟨V, rfl, HV.out⟩, by rw [HOK.out l rfl (by simp)]; exact h2.out.1, HCU.out.trans h2.out.2⟩
    · have t1 : (E == 0) = false := by simpa using h0
      have t2 : (E != 0) = true := by simpa using h0
      go_enter Try.func82, Try.ntmps82
      go_wp2_with fail
      refine (unhide C).mono ?_
      rintro e w1 ⟨rfl, hct, hg⟩
      obtain ⟨hB1, hR1, hcu⟩ := unhide HST w1 hct hg
      have hc1 : w1.cell? ⟨g, 1, none⟩ = some (.bool false) := hB1.cell 1
      have hf1 : w1.frozen? ⟨g, 1, none⟩ = false := hB1.frozen 1
      have h2 := Lib.hid (cut_stored (o := none) (b := true) hB1 hct hR1 ⟨hn.1, hn.2.1, hn.2.2.1, by omega⟩ hbr hbg rfl (fun l h => by cases h))
      have HCU := Lib.hid hcu
      clear hct hg hB1 hR1 hcu C
      go_wp2
      go_ret
      exact ⟨⟨V, rfl, HV.out⟩, by rw [HBAD.out l rfl h0]; exact h2.out.1, HCU.out.trans h2.out.2⟩
end Go.Proofs.Yteohhgkehkmgcaa
