/- Joined by mkmerge.py from the proof's texts Re1, Re2. Conditions: each theorem's own hypotheses. -/
import Derived.Test.YtkdmfjpfanmgmaaGreatDoorM06
import Derived.Test.YtkdmfjpfanmgmaaGreatDoorM08
import Derived.Test.YtkdmfjpfanmgmaaGreatDoorM01
import Derived.BigQuiet
namespace Go.Proofs.YtkdmfjpfanmgmaaGreatDoor
open Go.RowKit Le
set_option maxRecDepth 100000
/-! ### Plain: what is read. -/
theorem rd_num_ok {l : List UInt8} (h : (rdNumber l).2.1 = 0) : rd .num l = some (.int (rdNumber l).1, l.drop (rdNumber l).2.2) := by
  unfold rdNumber at h ⊢
  simp only [rd, rdNum]
  split at h
  · cases h
  · split at h
    · cases h
    · rename_i h1 h2
      rw [if_neg h1, if_neg h2, if_neg h1, if_neg h2]
      rfl
theorem rd_num_no {l : List UInt8} (h : (rdNumber l).2.1 ≠ 0) : rd .num l = none := by
  unfold rdNumber at h
  simp only [rd, rdNum]
  split at h
  · rename_i h1
    rw [if_pos h1]
    rfl
  · split at h
    · rename_i h1 h2
      rw [if_neg h1, if_pos h2]
      rfl
    · exact absurd rfl h
theorem rd_text_ok {l : List UInt8} (h : (rdText l).2.1 = 0) : ∃ b, (rdText l).1 = text b ∧ rd .text l = some (.text b, l.drop (rdText l).2.2) := by
  unfold rdText at h ⊢
  simp only [rd, rdTx]
  split at h
  · cases h
  · split at h
    · cases h
    · split at h
      · cases h
      · rename_i h1 h2 h3
        rw [if_neg h1, if_neg h2, if_neg h3, if_neg h1, if_neg h2, if_neg h3]
        exact ⟨_, rfl, rfl⟩
theorem rd_text_no {l : List UInt8} (h : (rdText l).2.1 ≠ 0) : rd .text l = none := by
  unfold rdText at h
  simp only [rd, rdTx]
  split at h
  · rename_i h1
    rw [if_pos h1]
    rfl
  · split at h
    · rename_i h1 h2
      rw [if_neg h1, if_pos h2]
      rfl
    · split at h
      · rename_i h1 h2 h3
        rw [if_neg h1, if_neg h2, if_pos h3]
        rfl
      · exact absurd rfl h
theorem rds_some {a : Sh} {sh : List Sh} {l l' : List UInt8} {d : Da} (h : rd a l = some (d, l')) : rds (a :: sh) l = (rds sh l').bind fun y => some (d :: y.1, y.2) := by
  simp only [rds, h, Option.bind_some]
theorem rds_none {a : Sh} {sh : List Sh} {l : List UInt8} (h : rd a l = none) : rds (a :: sh) l = none := by
  simp only [rds, h, Option.bind_none]
theorem rds_nil (l : List UInt8) : rds [] l = some ([], l) := by simp only [rds]
theorem rds_append (s1 s2 : List Sh) (l : List UInt8) : rds (s1 ++ s2) l = (rds s1 l).bind fun x => (rds s2 x.2).bind fun y => some (x.1 ++ y.1, y.2) := by
  induction s1 generalizing l with
  | nil =>
    simp only [List.nil_append, rds, Option.bind_some]
    cases rds s2 l <;> rfl
  | cons a s1 ih =>
    simp only [List.cons_append, rds]
    cases h : rd a l with
    | none => rfl
    | some x =>
      simp only [Option.bind_some]
      rw [ih]
      cases h2 : rds s1 x.2 with
      | none => rfl
      | some y =>
        simp only [Option.bind_some]
        cases rds s2 y.2 <;> rfl
theorem rds_append_some {s1 : List Sh} (s2 : List Sh) {l l' : List UInt8} {d : List Da} (h : rds s1 l = some (d, l')) : rds (s1 ++ s2) l = (rds s2 l').bind fun y => some (d ++ y.1, y.2) := by
  rw [rds_append, h]
  rfl
theorem rds_append_none {s1 : List Sh} (s2 : List Sh) {l : List UInt8} (h : rds s1 l = none) : rds (s1 ++ s2) l = none := by
  rw [rds_append, h]
  rfl
/-! ### The reader in memory. -/
theorem reads_keeps {ts us : List TypeId} {w w' : World} {B n : Nat} {A : Option Addr} {xs : List Value} (h : Reads w B A n xs) (hk : Keeps ts w w') (ht : ∀ ad, 0 < n → A = some ad → InT w us ad.block) (hd : ∀ t, t ∈ us → t ∉ ts) : Reads w' B A n xs :=
  ⟨h.1, fun hn => by
    obtain ⟨ad, e, hb, hc⟩ := h.2 hn
    exact ⟨ad, e, hb, fun j u hu => (hk.cell hd (by rw [block_of_add]; exact ht ad hn e)).trans (hc j u hu)⟩⟩
theorem Rd.keeps {ts : List TypeId} {w w' : World} {r : Nat} {l : List UInt8} (h : Rd w r l) (hk : Keeps ts w w') (h1 : 189 ∉ ts) (h2 : 5 ∉ ts) : Rd w' r l := by
  obtain ⟨A, n, c, hB, hr, hn, hc⟩ := h
  refine ⟨A, n, c, hB.keeps hk h1, reads_keeps (us := [5]) hr hk (fun ad h0 e => ⟨_, by simp, hc.2 h0 ad e⟩) (by simpa using h2), hn, hc.1, fun h0 ad e => hk.typ (hc.2 h0 ad e) h2⟩
/-- The program's reader at block g: l is left. -/
def RdAt (w : World) (base g : Nat) (l : List UInt8) : Prop :=
  ∃ r A n c lb, Blk w g 171 [.pointer (some ⟨r, 0, none⟩), .slice A n c] ∧ Reads w base A n (u8s lb) ∧ n ≤ c ∧ (n ≤ 1099511627776 ∧ c ≤ 9223372036854775807) ∧ Rd w r l ∧ l.length ≤ lb.length ∧ lb.drop (lb.length - l.length) = l ∧ base ≤ r ∧ base ≤ g
/-- What the reader leaves. -/
structure Rds (base : Nat) (w w' : World) : Prop where
  below : Below base w w'
  keeps : Keeps [171, 189] w w'
theorem Rds.trans {base : Nat} {w w' w'' : World} (h : Rds base w w') (g : Rds base w' w'') : Rds base w w'' := ⟨h.below.trans g.below, h.keeps.trans g.keeps⟩
theorem Rds.refl (base : Nat) (w : World) : Rds base w w := ⟨Below.refl _ _, Keeps.refl _ _⟩
theorem RdAt.lt {w : World} {base g : Nat} {l : List UInt8} (h : RdAt w base g l) : base ≤ w.heap.size := by
  obtain ⟨r, A, n, c, lb, hB, _, _, _, _, _, _, _, hg⟩ := h
  have := hB.lt
  omega
theorem RdAt.keeps {ts : List TypeId} {w w' : World} {base g : Nat} {l : List UInt8} (h : RdAt w base g l) (hk : Keeps ts w w') (hb : Below base w w') (h1 : 171 ∉ ts) (h2 : 189 ∉ ts) (h3 : 5 ∉ ts) : RdAt w' base g l := by
  obtain ⟨r, A, n, c, lb, hB, hR, hn, hc, hr, hl, hd, hbr, hbg⟩ := h
  exact ⟨r, A, n, c, lb, hB.keeps hk h1, hR.below hb, hn, hc, hr.keeps hk h2 h3, hl, hd, hbr, hbg⟩
theorem RdAt.below_ {w w' : World} {base g : Nat} {l : List UInt8} (h : RdAt w base g l) (hb : Below w.heap.size w w') : RdAt w' base g l :=
  h.keeps (ts := []) (Keeps.of_below hb (Nat.le_refl _)) (hb.mono h.lt) (by simp) (by simp) (by simp)
theorem drop_suffix {lb l : List UInt8} (h1 : l.length ≤ lb.length) (h2 : lb.drop (lb.length - l.length) = l) (k : Nat) (hk : k ≤ l.length) : (l.drop k).length ≤ lb.length ∧ lb.drop (lb.length - (l.drop k).length) = l.drop k := by
  refine ⟨by rw [List.length_drop]; omega, ?_⟩
  conv => rhs; rw [← h2, List.drop_drop]
  congr 1
  rw [List.length_drop]
  omega
/-- One of the codec's readers has read. -/
theorem rdAt_read {w w' : World} {base g r n c k : Nat} {A : Option Addr} {lb l : List UInt8} (hB : Blk w g 171 [.pointer (some ⟨r, 0, none⟩), .slice A n c]) (hR : Reads w base A n (u8s lb)) (hn : n ≤ c) (hc : n ≤ 1099511627776 ∧ c ≤ 9223372036854775807)
    (hr : Rd w r l) (hl : l.length ≤ lb.length) (hd : lb.drop (lb.length - l.length) = l) (hbr : base ≤ r) (hbg : base ≤ g) (hr' : Rd w' r (l.drop k)) (hg : w.grownBy w' (some r)) (hk : k ≤ l.length) :
    RdAt w' base g (l.drop k) ∧ Rds base w w' := by
  obtain ⟨A1, n1, c1, hB1, _⟩ := hr
  have hne : g ≠ r := by
    intro e
    subst e
    have := hB.typ.same hB1.typ
    exact absurd this (by decide)
  have hlt := hB1.lt
  have hbel : Below base w w' := (Below.refl base w).grown hg (by omega) (by intro k hk; injection hk with hk; omega)
  obtain ⟨h1, h2⟩ := drop_suffix hl hd k hk
  refine ⟨⟨r, A, n, c, lb, hB.grown hg (by intro h; injection h with h; exact hne h), hR.below hbel, hn, hc, hr', h1, h2, hbr, hbg⟩, hbel, hg.size, fun k t ht hnt => hg.block k ht.lt ?_⟩
  intro e
  injection e with e
  subst e
  exact hnt (by rw [ht.same hB1.typ]; simp)
theorem is_true (w : World) : Calls Tryz.prog 108 #[.bool true] w fun e w' => e = .returned (.tuple #[]) ∧ w' = w := by
  go_enter Tryz.func108, Tryz.ntmps108
  go_wp2
  go_end0
  exact ⟨rfl, rfl⟩
theorem is_false (w : World) : Calls Tryz.prog 108 #[.bool false] w fun e w' => e = .panicked (thrown 11) ∧ w' = w := by
  go_enter Tryz.func108, Tryz.ntmps108
  go_wp2
  exact ⟨rfl, rfl, rfl⟩
/-- How a reading of one field ends. -/
def FEnd (a : Sh) (l : List UInt8) (us : List TypeId) (w' : World) (base g : Nat) (e : Ending) : Prop :=
  (∃ d l' v, rd a l = some (d, l') ∧ e = .returned v ∧ Cel w' (InT w' us) a d v ∧ RdAt w' base g l') ∨ (rd a l = none ∧ e = .panicked (thrown 11))
set_option maxHeartbeats 800000 in
theorem R_num (base g : Nat) (l : List UInt8) (w : World) (h : RdAt w base g l) :
    Calls Tryz.prog 109 #[.pointer (some ⟨g, 0, none⟩)] w fun e w' => FEnd .num l [] w' base g e ∧ Rds base w w' := by
  obtain ⟨r, A, n, c, lb, hB, hR, hn, hc, hr, hl, hd, hbr, hbg⟩ := h
  have hc0 : w.cell? ⟨g, 0, none⟩ = some (.pointer (some ⟨r, 0, none⟩)) := hB.cell 0
  have HB := Lib.hid hB
  have HD := Lib.hid hd
  have C := Lib.hid (number_all r l w hr)
  obtain ⟨E, hE⟩ : ∃ E, (rdNumber l).2.1 = E := ⟨_, rfl⟩
  obtain ⟨V, hV⟩ : ∃ V, (rdNumber l).1 = V := ⟨_, rfl⟩
  rw [hE, hV] at C
  have HE := Lib.hid hE
  have HV := Lib.hid hV
  clear hB hd hE hV
  by_cases h0 : E = 0
  · subst h0
    go_enter Tryz.func109, Tryz.ntmps109
    go_wp2_with fail
    refine (unhide C).mono ?_
    rintro e w1 ⟨rfl, hr1, hg⟩
    have HR1 := Lib.hid hr1
    have HG := Lib.hid hg
    clear hr1 hg C
    go_wp2_with fail
    refine (is_true w1).mono ?_
    rintro e w' ⟨rfl, rfl⟩
    go_wp2
    go_ret
    have h2 := rdAt_read HB.out hR hn hc hr hl HD.out hbr hbg HR1.out HG.out (rdNumber_le l)
    refine ⟨.inl ⟨.int V, _, _, ?_, rfl, Cel.mk_num _, h2.1⟩, h2.2⟩
    rw [rd_num_ok HE.out, HV.out]
  · have t1 : (E == 0) = false := by simpa using h0
    go_enter Tryz.func109, Tryz.ntmps109
    go_wp2_with fail
    refine (unhide C).mono ?_
    rintro e w1 ⟨rfl, hr1, hg⟩
    have HR1 := Lib.hid hr1
    have HG := Lib.hid hg
    clear hr1 hg C
    go_wp2_with fail
    refine (is_false w1).mono ?_
    rintro e w' ⟨rfl, rfl⟩
    refine ⟨rfl, .inr ⟨rd_num_no (by rw [HE.out]; exact h0), rfl⟩, (rdAt_read HB.out hR hn hc hr hl HD.out hbr hbg HR1.out HG.out (rdNumber_le l)).2⟩
set_option maxHeartbeats 800000 in
theorem R_text (base g : Nat) (l : List UInt8) (w : World) (h : RdAt w base g l) :
    Calls Tryz.prog 111 #[.pointer (some ⟨g, 0, none⟩)] w fun e w' => FEnd .text l [] w' base g e ∧ Rds base w w' := by
  obtain ⟨r, A, n, c, lb, hB, hR, hn, hc, hr, hl, hd, hbr, hbg⟩ := h
  have hc0 : w.cell? ⟨g, 0, none⟩ = some (.pointer (some ⟨r, 0, none⟩)) := hB.cell 0
  have HB := Lib.hid hB
  have HD := Lib.hid hd
  have C := Lib.hid (text_all r l w hr)
  obtain ⟨E, hE⟩ : ∃ E, (rdText l).2.1 = E := ⟨_, rfl⟩
  obtain ⟨V, hV⟩ : ∃ V, (rdText l).1 = V := ⟨_, rfl⟩
  rw [hE, hV] at C
  have HE := Lib.hid hE
  have HV := Lib.hid hV
  clear hB hd hE hV
  by_cases h0 : E = 0
  · subst h0
    go_enter Tryz.func111, Tryz.ntmps111
    go_wp2_with fail
    refine (unhide C).mono ?_
    rintro e w1 ⟨rfl, hr1, hg⟩
    have HR1 := Lib.hid hr1
    have HG := Lib.hid hg
    clear hr1 hg C
    go_wp2_with fail
    refine (is_true w1).mono ?_
    rintro e w' ⟨rfl, rfl⟩
    go_wp2
    go_ret
    have h2 := rdAt_read HB.out hR hn hc hr hl HD.out hbr hbg HR1.out HG.out (rdText_le l)
    obtain ⟨b, hb1, hb2⟩ := rd_text_ok HE.out
    refine ⟨.inl ⟨.text b, _, _, hb2, rfl, ?_, h2.1⟩, h2.2⟩
    have hb3 : V = text b := HV.out.symm.trans hb1
    subst hb3
    exact Cel.mk_text b
  · have t1 : (E == 0) = false := by simpa using h0
    go_enter Tryz.func111, Tryz.ntmps111
    go_wp2_with fail
    refine (unhide C).mono ?_
    rintro e w1 ⟨rfl, hr1, hg⟩
    have HR1 := Lib.hid hr1
    have HG := Lib.hid hg
    clear hr1 hg C
    go_wp2_with fail
    refine (is_false w1).mono ?_
    rintro e w' ⟨rfl, rfl⟩
    refine ⟨rfl, .inr ⟨rd_text_no (by rw [HE.out]; exact h0), rfl⟩, (rdAt_read HB.out hR hn hc hr hl HD.out hbr hbg HR1.out HG.out (rdText_le l)).2⟩
end Go.Proofs.YtkdmfjpfanmgmaaGreatDoor
namespace Go.Proofs.YtkdmfjpfanmgmaaGreatDoor
open Go.RowKit Le
set_option maxRecDepth 100000
theorem Rds.drewN (base : Nat) (w : World) (m : Nat) : Rds base w (w.drewN m) := ⟨by constructor <;> first | rfl | exact Nat.le_refl _ | (intros; rfl), ⟨Nat.le_refl _, fun _ _ _ _ => rfl⟩⟩
theorem Rd.drewN {w : World} {r : Nat} {l : List UInt8} (h : Rd w r l) (m : Nat) : Rd (w.drewN m) r l := h.keeps (ts := []) ⟨Nat.le_refl _, fun _ _ _ _ => rfl⟩ (by simp) (by simp)
end Go.Proofs.YtkdmfjpfanmgmaaGreatDoor
