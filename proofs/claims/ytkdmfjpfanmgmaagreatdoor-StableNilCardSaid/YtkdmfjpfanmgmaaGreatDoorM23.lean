/- Joined by mkmerge.py from the proof's texts Fold12, Fold14, Fold25. Conditions: each theorem's own hypotheses. -/
import Derived.Test.YtkdmfjpfanmgmaaGreatDoorM19
import Derived.Test.YtkdmfjpfanmgmaaGreatDoorM22
import Derived.IntWalk
import Derived.Test.YtkdmfjpfanmgmaaGreatDoorM08
import Derived.Deep.RegionLaw
namespace Go.Proofs.YtkdmfjpfanmgmaaGreatDoor
open Go.RowKit Le
set_option maxRecDepth 100000
set_option linter.unusedSimpArgs false
set_option linter.unusedVariables false
/-- A record's cells, whatever they are. -/
def RcdAt (w : World) (S : Nat → Prop) (r : Rcd) (vs : List Value) : Prop := Cels w S shRecord r.da vs
/-- The first j entries stand in a row. -/
def okRow (s : Int) (l : List Ent) (j : Nat) : Prop := ∀ (i : Nat) (e : Ent), (l.take j)[i]? = some e → e.idx = wrap64 (wrap64 (s + 1) + (i : Int))
end Go.Proofs.YtkdmfjpfanmgmaaGreatDoor
namespace Go.Proofs.YtkdmfjpfanmgmaaGreatDoor
open Go.RowKit Le
set_option maxRecDepth 100000
set_option linter.unusedSimpArgs false
set_option linter.unusedVariables false
structure Rcd.Small (r : Rcd) : Prop where
  e : r.ent.Small
  s : r.snp.Small
/-- A record's cells. -/
def Rcd.cs (r : Rcd) (A : Option Addr) (c : Nat) (B : Option Addr) (d : Nat) (A' : Option Addr) (c' : Nat) (B' : Option Addr) (d' : Nat) : List Value :=
  [.int .i64 r.kind, .int .i64 r.term, .int .i64 r.vote, .int .i64 r.ent.idx, .int .i64 r.ent.term, .int .i64 r.ent.kind, .slice A r.ent.v.length c, .slice B r.ent.l.length d, .string (text r.ent.b), .int .i64 r.at_, .int .i64 r.snp.idx, .int .i64 r.snp.term, .slice A' r.snp.v.length c', .slice B' r.snp.l.length d', .string (text r.snp.b)]
structure RcdAt' (w : World) (S : Nat → Prop) (r : Rcd) (A B A' B' : Option Addr) : Prop where
  ev : RowsAt w S [.num] (nums r.ent.v) A
  el : RowsAt w S [.num] (nums r.ent.l) B
  sv : RowsAt w S [.num] (nums r.snp.v) A'
  sl : RowsAt w S [.num] (nums r.snp.l) B'
theorem RcdAt'.below {w w' : World} {B0 : Nat} {r : Rcd} {A B A' B' : Option Addr} (h : RcdAt' w (· < B0) r A B A' B') (hb : Below B0 w w') : RcdAt' w' (· < B0) r A B A' B' := ⟨h.ev.below hb, h.el.below hb, h.sv.below hb, h.sl.below hb⟩
theorem RcdAt'.more {w : World} {B0 B1 : Nat} {r : Rcd} {A B A' B' : Option Addr} (h : RcdAt' w (· < B0) r A B A' B') (hb : B0 ≤ B1) : RcdAt' w (· < B1) r A B A' B' := ⟨h.ev.more hb, h.el.more hb, h.sv.more hb, h.sl.more hb⟩
theorem RcdAt'.cels {w : World} {S : Nat → Prop} {r : Rcd} {A B A' B' : Option Addr} (h : RcdAt' w S r A B A' B') (c d c' d' : Nat) : Cels w S shRecord r.da (r.cs A c B d A' c' B' d') := Rcd.mk_ r c d c' d' h.ev h.el h.sv h.sl
def bareB (kind : Int) (v e c s : Bool) : Bool :=
  if kind = 1 then e && c && s else if kind = 2 then v && c && s else if kind = 3 then v && e && s else if kind = 4 then v && e && c else false
theorem mayP_eq (r : Rcd) : mayP r = (putE r == 0 && bareB r.kind (decide (r.term = 0 ∧ r.vote = 0)) (decide (r.ent = .zero)) (r.at_ == 0) (decide (r.snp = .zero))) := by
  unfold mayP bareB
  congr 1
  by_cases h1 : r.kind = 1
  · rw [if_pos h1]; simp [h1]
  by_cases h2 : r.kind = 2
  · rw [if_neg h1, if_pos h2]; simp [h2, Bool.decide_and]; rfl
  by_cases h3 : r.kind = 3
  · rw [if_neg h1, if_neg h2, if_pos h3]; simp [h3, Bool.decide_and]; rfl
  by_cases h4 : r.kind = 4
  · rw [if_neg h1, if_neg h2, if_neg h3, if_pos h4]; simp [h4, Bool.decide_and]; rfl
  rw [if_neg h1, if_neg h2, if_neg h3, if_neg h4]
  simp [h1, h2, h3, h4]
theorem bareB_none {k : Int} {v e c s : Bool} (h1 : ¬ k = 1) (h2 : ¬ k = 2) (h3 : ¬ k = 3) (h4 : ¬ k = 4) : bareB k v e c s = false := by
  unfold bareB
  rw [if_neg h1, if_neg h2, if_neg h3, if_neg h4]
theorem bareB_1 {k : Int} {v e c s : Bool} (h : k = 1) : bareB k v e c s = (e && c && s) := by subst h; rfl
theorem bareB_2 {k : Int} {v e c s : Bool} (h : k = 2) : bareB k v e c s = (v && c && s) := by subst h; rfl
theorem bareB_3 {k : Int} {v e c s : Bool} (h : k = 3) : bareB k v e c s = (v && e && s) := by subst h; rfl
theorem bareB_4 {k : Int} {v e c s : Bool} (h : k = 4) : bareB k v e c s = (v && e && c) := by subst h; rfl
theorem noEntry_lit (x : Ent) (A : Option Addr) (c : Nat) (B : Option Addr) (d : Nat) (w : World) (hs : x.Small) :
    Calls Tryz.prog 86 #[.agg #[.int .i64 x.idx, .int .i64 x.term, .int .i64 x.kind, .slice A x.v.length c, .slice B x.l.length d, .string (text x.b)]] w (TestEnd w (decide (x = .zero))) := noEntry_any x A c B d w hs
theorem noSnap_lit (x : Snp) (A : Option Addr) (c : Nat) (B : Option Addr) (d : Nat) (w : World) (hs : x.Small) :
    Calls Tryz.prog 71 #[.agg #[.int .i64 x.idx, .int .i64 x.term, .slice A x.v.length c, .slice B x.l.length d, .string (text x.b)]] w (TestEnd w (decide (x = .zero))) := noSnap_any x A c B d w hs
theorem kS15 {w : World} {b : Nat} {t : TypeId} {c0 c1 c2 c3 c4 c5 c6 c7 c8 c9 c10 c11 c12 c13 c14 : Value} (h : Blk w b t [c0, c1, c2, c3, c4, c5, c6, c7, c8, c9, c10, c11, c12, c13, c14]) : w.cell? ⟨b, 0, none⟩ = some c0 ∧ w.cell? ⟨b, 1, none⟩ = some c1 ∧ w.cell? ⟨b, 2, none⟩ = some c2 ∧ w.cell? ⟨b, 3, none⟩ = some c3 ∧ w.cell? ⟨b, 4, none⟩ = some c4 ∧ w.cell? ⟨b, 5, none⟩ = some c5 ∧ w.cell? ⟨b, 6, none⟩ = some c6 ∧ w.cell? ⟨b, 7, none⟩ = some c7 ∧ w.cell? ⟨b, 8, none⟩ = some c8 ∧ w.cell? ⟨b, 9, none⟩ = some c9 ∧ w.cell? ⟨b, 10, none⟩ = some c10 ∧ w.cell? ⟨b, 11, none⟩ = some c11 ∧ w.cell? ⟨b, 12, none⟩ = some c12 ∧ w.cell? ⟨b, 13, none⟩ = some c13 ∧ w.cell? ⟨b, 14, none⟩ = some c14 :=
  ⟨h.cell 0, h.cell 1, h.cell 2, h.cell 3, h.cell 4, h.cell 5, h.cell 6, h.cell 7, h.cell 8, h.cell 9, h.cell 10, h.cell 11, h.cell 12, h.cell 13, h.cell 14⟩
set_option maxHeartbeats 3200000 in
theorem bare_any (r : Rcd) (A : Option Addr) (c : Nat) (B : Option Addr) (d : Nat) (A' : Option Addr) (c' : Nat) (B' : Option Addr) (d' : Nat) (w : World) (hs : r.Small) :
    Calls Tryz.prog 50 #[.agg (r.cs A c B d A' c' B' d').toArray] w (TestEnd w (bareB r.kind (decide (r.term = 0 ∧ r.vote = 0)) (decide (r.ent = .zero)) (r.at_ == 0) (decide (r.snp = .zero)))) := by
  unfold Rcd.cs
  have P0 := Lib.hid (Blk.new w 33 [.int .i64 r.kind, .int .i64 r.term, .int .i64 r.vote, .int .i64 r.ent.idx, .int .i64 r.ent.term, .int .i64 r.ent.kind, .slice A r.ent.v.length c, .slice B r.ent.l.length d, .string (text r.ent.b), .int .i64 r.at_, .int .i64 r.snp.idx, .int .i64 r.snp.term, .slice A' r.snp.v.length c', .slice B' r.snp.l.length d', .string (text r.snp.b)])
  have HS := Lib.hid hs
  clear hs
  obtain ⟨bE, hbE⟩ : ∃ b, decide (r.ent = .zero) = b := ⟨_, rfl⟩
  obtain ⟨bS, hbS⟩ : ∃ b, decide (r.snp = .zero) = b := ⟨_, rfl⟩
  obtain ⟨bC, hbC⟩ : ∃ b, (r.at_ == 0) = b := ⟨_, rfl⟩
  rw [hbE, hbS, hbC]
  have HbE := Lib.hid hbE
  have HbS := Lib.hid hbS
  clear hbE hbS
  by_cases h1 : r.term = 0
  · obtain ⟨bV, hbV⟩ : ∃ b, (r.vote == 0) = b := ⟨_, rfl⟩
    have hv : decide (r.term = 0 ∧ r.vote = 0) = bV := by rw [← hbV]; simp [h1]; rfl
    rw [hv]
    have t1 : (r.term == 0) = true := by simpa using h1
    clear hv h1
    go_enter Tryz.func50, Tryz.ntmps50
    go_wp2_with fail
    go_region_held3 (fun w' => w'.cell? ⟨w.heap.size, 0, none⟩ = some (.int .i64 r.kind) ∧ w'.cell? ⟨w.heap.size, 1, none⟩ = some (.int .i64 r.term) ∧ w'.cell? ⟨w.heap.size, 2, none⟩ = some (.int .i64 r.vote) ∧ w'.cell? ⟨w.heap.size, 3, none⟩ = some (.int .i64 r.ent.idx) ∧ w'.cell? ⟨w.heap.size, 4, none⟩ = some (.int .i64 r.ent.term) ∧ w'.cell? ⟨w.heap.size, 5, none⟩ = some (.int .i64 r.ent.kind) ∧ w'.cell? ⟨w.heap.size, 6, none⟩ = some (.slice A r.ent.v.length c) ∧ w'.cell? ⟨w.heap.size, 7, none⟩ = some (.slice B r.ent.l.length d) ∧ w'.cell? ⟨w.heap.size, 8, none⟩ = some (.string (text r.ent.b)) ∧ w'.cell? ⟨w.heap.size, 9, none⟩ = some (.int .i64 r.at_) ∧ w'.cell? ⟨w.heap.size, 10, none⟩ = some (.int .i64 r.snp.idx) ∧ w'.cell? ⟨w.heap.size, 11, none⟩ = some (.int .i64 r.snp.term) ∧ w'.cell? ⟨w.heap.size, 12, none⟩ = some (.slice A' r.snp.v.length c') ∧ w'.cell? ⟨w.heap.size, 13, none⟩ = some (.slice B' r.snp.l.length d') ∧ w'.cell? ⟨w.heap.size, 14, none⟩ = some (.string (text r.snp.b)))
      (first
        | (refine kS15 (t := 33) ?_; repeat (first | with_reducible exact R1.out | with_reducible exact R0.out | with_reducible exact P0.out | with_reducible refine Blk.drew ?_)))
      (first
        | (go_at_call 86
           refine (noEntry_lit r.ent A c B d _ HS.out.e).mono ?_
           rw [HbE.out]
           rintro e w1 ⟨rfl, hb⟩
           have R0 : Hid (Blk w1 w.heap.size 33 [.int .i64 r.kind, .int .i64 r.term, .int .i64 r.vote, .int .i64 r.ent.idx, .int .i64 r.ent.term, .int .i64 r.ent.kind, .slice A r.ent.v.length c, .slice B r.ent.l.length d, .string (text r.ent.b), .int .i64 r.at_, .int .i64 r.snp.idx, .int .i64 r.snp.term, .slice A' r.snp.v.length c', .slice B' r.snp.l.length d', .string (text r.snp.b)]) := Lib.hid (Blk.below (by repeat (first | with_reducible exact P0.out | (with_reducible refine Blk.far ?_ (by dsimp only; (first | omega | (simp; done) | (simp; omega))) _) | with_reducible refine Blk.alloc ?_ _ | with_reducible refine Blk.drew ?_)) hb (by (first | omega | (simp; done) | (simp; omega))))
           have HB1 : Hid (Below w.heap.size w w1) := Lib.hid (Below.trans (by repeat (first | with_reducible exact Below.refl _ _ | with_reducible assumption | (with_reducible refine Below.setCell ?_ (by dsimp only; (first | omega | (simp; done) | (simp; omega))) _) | (with_reducible refine Below.alloc ?_ (by (first | omega | (simp; done) | (simp; omega))) _) | with_reducible refine Below.drew ?_)) (hb.mono (by (first | omega | (simp; done) | (simp; omega)))))
           clear hb)
        | (go_at_call 71
           refine (noSnap_lit r.snp A' c' B' d' _ HS.out.s).mono ?_
           rw [HbS.out]
           rintro e w2 ⟨rfl, hb⟩
           have R1 : Hid (Blk w2 w.heap.size 33 [.int .i64 r.kind, .int .i64 r.term, .int .i64 r.vote, .int .i64 r.ent.idx, .int .i64 r.ent.term, .int .i64 r.ent.kind, .slice A r.ent.v.length c, .slice B r.ent.l.length d, .string (text r.ent.b), .int .i64 r.at_, .int .i64 r.snp.idx, .int .i64 r.snp.term, .slice A' r.snp.v.length c', .slice B' r.snp.l.length d', .string (text r.snp.b)]) := Lib.hid (Blk.below R0.out hb R0.out.lt)
           have HB2 : Hid (Below w.heap.size w w2) := Lib.hid (HB1.out.trans (hb.mono HB1.out.size))
           clear hb))
    clear hbV hbC t1
    have a0 : w2.cell? ⟨w.heap.size, 0, none⟩ = some (.int .i64 r.kind) := R1.out.cell 0
    clear P0 R0 HB1 HbE HbS
    by_cases k1 : r.kind = 1
    · have HK := Lib.hid k1
      have u1 : (r.kind == 1) = true := by simpa using k1
      clear k1
      cases bE <;> cases bC <;> cases bS
      all_goals
        go_wp2
        go_ret
        exact ⟨by rw [bareB_1 HK.out]; rfl, HB2.out⟩
    by_cases k2 : r.kind = 2
    · have HK := Lib.hid k2
      have u1 : (r.kind == 1) = false := by simpa using k1
      have u2 : (r.kind == 2) = true := by simpa using k2
      clear k1 k2
      cases bV <;> cases bC <;> cases bS
      all_goals
        go_wp2
        go_ret
        exact ⟨by rw [bareB_2 HK.out]; rfl, HB2.out⟩
    by_cases k3 : r.kind = 3
    · have HK := Lib.hid k3
      have u1 : (r.kind == 1) = false := by simpa using k1
      have u2 : (r.kind == 2) = false := by simpa using k2
      have u3 : (r.kind == 3) = true := by simpa using k3
      clear k1 k2 k3
      cases bV <;> cases bE <;> cases bS
      all_goals
        go_wp2
        go_ret
        exact ⟨by rw [bareB_3 HK.out]; rfl, HB2.out⟩
    by_cases k4 : r.kind = 4
    · have HK := Lib.hid k4
      have u1 : (r.kind == 1) = false := by simpa using k1
      have u2 : (r.kind == 2) = false := by simpa using k2
      have u3 : (r.kind == 3) = false := by simpa using k3
      have u4 : (r.kind == 4) = true := by simpa using k4
      clear k1 k2 k3 k4
      cases bV <;> cases bE <;> cases bC
      all_goals
        go_wp2
        go_ret
        exact ⟨by rw [bareB_4 HK.out]; rfl, HB2.out⟩
    have HK := Lib.hid (bareB_none (v := bV) (e := bE) (c := bC) (s := bS) k1 k2 k3 k4)
    have u1 : (r.kind == 1) = false := by simpa using k1
    have u2 : (r.kind == 2) = false := by simpa using k2
    have u3 : (r.kind == 3) = false := by simpa using k3
    have u4 : (r.kind == 4) = false := by simpa using k4
    clear k1 k2 k3 k4
    go_wp2
    go_ret
    exact ⟨by rw [HK.out]; rfl, HB2.out⟩
  · have hv : decide (r.term = 0 ∧ r.vote = 0) = false := by simp [h1]
    rw [hv]
    have t1 : (r.term == 0) = false := by simpa using h1
    clear hv h1
    go_enter Tryz.func50, Tryz.ntmps50
    go_wp2_with fail
    refine wp_region_noPanic ?_
    refine wp_region_held_drew (S := fun w' => w'.cell? ⟨w.heap.size, 0, none⟩ = some (.int .i64 r.kind) ∧ w'.cell? ⟨w.heap.size, 1, none⟩ = some (.int .i64 r.term) ∧ w'.cell? ⟨w.heap.size, 2, none⟩ = some (.int .i64 r.vote) ∧ w'.cell? ⟨w.heap.size, 3, none⟩ = some (.int .i64 r.ent.idx) ∧ w'.cell? ⟨w.heap.size, 4, none⟩ = some (.int .i64 r.ent.term) ∧ w'.cell? ⟨w.heap.size, 5, none⟩ = some (.int .i64 r.ent.kind) ∧ w'.cell? ⟨w.heap.size, 6, none⟩ = some (.slice A r.ent.v.length c) ∧ w'.cell? ⟨w.heap.size, 7, none⟩ = some (.slice B r.ent.l.length d) ∧ w'.cell? ⟨w.heap.size, 8, none⟩ = some (.string (text r.ent.b)) ∧ w'.cell? ⟨w.heap.size, 9, none⟩ = some (.int .i64 r.at_) ∧ w'.cell? ⟨w.heap.size, 10, none⟩ = some (.int .i64 r.snp.idx) ∧ w'.cell? ⟨w.heap.size, 11, none⟩ = some (.int .i64 r.snp.term) ∧ w'.cell? ⟨w.heap.size, 12, none⟩ = some (.slice A' r.snp.v.length c') ∧ w'.cell? ⟨w.heap.size, 13, none⟩ = some (.slice B' r.snp.l.length d') ∧ w'.cell? ⟨w.heap.size, 14, none⟩ = some (.string (text r.snp.b))) (by kernel_rfl) (kS15 (Blk.drew P0.out)) (fun HD => ?_)
    refine wpAnyH_take (i := 0) (oi := ⟨some 7, _, _, _, _, _⟩) (v := ?_) rfl (by kernel_rfl) (by kernel_rfl) (by kernel_rfl) (fun _ _ _ h => h) (Or.inl ⟨by rfl, ?_⟩) HD ?_
    rotate_left
    · intro w hSw
      (try dsimp only at hSw)
      go_simp <;> with_reducible rfl
    (try simp only [Act.put, List.setIfInBounds_toArray, List.set_cons_zero, List.set_cons_succ])
    refine wpAnyH_take (i := 1) (oi := ⟨some 8, _, _, _, _, _⟩) (v := ?_) rfl (by kernel_rfl) (by kernel_rfl) (by kernel_rfl) (fun _ _ _ h => h) (Or.inl ⟨by rfl, ?_⟩) HD ?_
    rotate_left
    · intro w hSw
      (try dsimp only at hSw)
      go_simp <;> with_reducible rfl
    (try simp only [Act.put, List.setIfInBounds_toArray, List.set_cons_zero, List.set_cons_succ])
    refine wpAnyH_take (i := 2) (oi := ⟨some 9, _, _, _, _, _⟩) (v := ?_) rfl (by kernel_rfl) (by kernel_rfl) (by kernel_rfl) (fun _ _ _ h => h) (Or.inl ⟨by rfl, ?_⟩) HD ?_
    rotate_left
    · intro w hSw
      (try dsimp only at hSw)
      go_simp <;> with_reducible rfl
    (try simp only [Act.put, List.setIfInBounds_toArray, List.set_cons_zero, List.set_cons_succ])
    refine wpAnyH_take (i := 3) (oi := ⟨some 10, _, _, _, _, _⟩) (v := ?_) rfl (by kernel_rfl) (by kernel_rfl) (by kernel_rfl) (fun _ _ _ h => h) (Or.inl ⟨by rfl, ?_⟩) HD ?_
    rotate_left
    · intro w hSw
      (try dsimp only at hSw)
      go_simp <;> with_reducible rfl
    (try simp only [Act.put, List.setIfInBounds_toArray, List.set_cons_zero, List.set_cons_succ])
    refine wpAnyH_take (i := 4) (oi := ⟨some 11, _, _, _, _, _⟩) (v := undef) rfl (by kernel_rfl) (by kernel_rfl) (by kernel_rfl) (fun _ _ _ h => h) (Or.inr ⟨by rfl, rfl⟩) HD ?_
    (try simp only [Act.put, List.setIfInBounds_toArray, List.set_cons_zero, List.set_cons_succ])
    refine wpAnyH_take (i := 5) (oi := ⟨some 12, _, _, _, _, _⟩) (v := undef) rfl (by kernel_rfl) (by kernel_rfl) (by kernel_rfl) (fun _ _ _ h => h) (Or.inr ⟨by rfl, rfl⟩) HD ?_
    (try simp only [Act.put, List.setIfInBounds_toArray, List.set_cons_zero, List.set_cons_succ])
    refine wpAnyH_take (i := 6) (oi := ⟨some 13, _, _, _, _, _⟩) (v := undef) rfl (by kernel_rfl) (by kernel_rfl) (by kernel_rfl) (fun _ _ _ h => h) (Or.inr ⟨by rfl, rfl⟩) HD ?_
    (try simp only [Act.put, List.setIfInBounds_toArray, List.set_cons_zero, List.set_cons_succ])
    refine wpAnyH_take (i := 7) (oi := ⟨some 14, _, _, _, _, _⟩) (v := ?_) rfl (by kernel_rfl) (by kernel_rfl) (by kernel_rfl) (fun _ _ _ h => h) (Or.inl ⟨by rfl, ?_⟩) HD ?_
    rotate_left
    · intro w hSw
      (try dsimp only at hSw)
      go_simp <;> with_reducible rfl
    (try simp only [Act.put, List.setIfInBounds_toArray, List.set_cons_zero, List.set_cons_succ])
    refine wpAnyH_take (i := 8) (oi := ⟨some 15, _, _, _, _, _⟩) (v := ?_) rfl (by kernel_rfl) (by kernel_rfl) (by kernel_rfl) (fun _ _ _ h => h) (Or.inl ⟨by rfl, ?_⟩) HD ?_
    rotate_left
    · intro w hSw
      (try dsimp only at hSw)
      go_simp <;> with_reducible rfl
    (try simp only [Act.put, List.setIfInBounds_toArray, List.set_cons_zero, List.set_cons_succ])
    refine wpAnyH_take (i := 9) (oi := ⟨some 16, _, _, _, _, _⟩) (v := ?_) rfl (by kernel_rfl) (by kernel_rfl) (by kernel_rfl) (fun _ _ _ h => h) (Or.inl ⟨by rfl, ?_⟩) HD ?_
    rotate_left
    · intro w hSw
      (try dsimp only at hSw)
      go_simp <;> with_reducible rfl
    (try simp only [Act.put, List.setIfInBounds_toArray, List.set_cons_zero, List.set_cons_succ])
    refine wpAnyH_take (i := 11) (oi := ⟨some 18, _, _, _, _, _⟩) (v := ?_) rfl (by kernel_rfl) (by kernel_rfl) (by kernel_rfl) (fun _ _ _ h => h) (Or.inl ⟨by rfl, ?_⟩) HD ?_
    rotate_left
    · intro w hSw
      (try dsimp only at hSw)
      go_simp <;> with_reducible rfl
    (try simp only [Act.put, List.setIfInBounds_toArray, List.set_cons_zero, List.set_cons_succ])
    refine wpAnyH_take (i := 12) (oi := ⟨some 19, _, _, _, _, _⟩) (v := ?_) rfl (by kernel_rfl) (by kernel_rfl) (by kernel_rfl) (fun _ _ _ h => h) (Or.inl ⟨by rfl, ?_⟩) HD ?_
    rotate_left
    · intro w hSw
      (try dsimp only at hSw)
      go_simp <;> with_reducible rfl
    (try simp only [Act.put, List.setIfInBounds_toArray, List.set_cons_zero, List.set_cons_succ])
    refine wpAnyH_take (i := 13) (oi := ⟨some 20, _, _, _, _, _⟩) (v := ?_) rfl (by kernel_rfl) (by kernel_rfl) (by kernel_rfl) (fun _ _ _ h => h) (Or.inl ⟨by rfl, ?_⟩) HD ?_
    rotate_left
    · intro w hSw
      (try dsimp only at hSw)
      go_simp <;> with_reducible rfl
    (try simp only [Act.put, List.setIfInBounds_toArray, List.set_cons_zero, List.set_cons_succ])
    refine wpAnyH_take (i := 14) (oi := ⟨some 21, _, _, _, _, _⟩) (v := ?_) rfl (by kernel_rfl) (by kernel_rfl) (by kernel_rfl) (fun _ _ _ h => h) (Or.inl ⟨by rfl, ?_⟩) HD ?_
    rotate_left
    · intro w hSw
      (try dsimp only at hSw)
      go_simp <;> with_reducible rfl
    (try simp only [Act.put, List.setIfInBounds_toArray, List.set_cons_zero, List.set_cons_succ])
    refine wpAnyH_take (i := 15) (oi := ⟨some 22, _, _, _, _, _⟩) (v := ?_) rfl (by kernel_rfl) (by kernel_rfl) (by kernel_rfl) (fun _ _ _ h => h) (Or.inl ⟨by rfl, ?_⟩) HD ?_
    rotate_left
    · intro w hSw
      (try dsimp only at hSw)
      go_simp <;> with_reducible rfl
    (try simp only [Act.put, List.setIfInBounds_toArray, List.set_cons_zero, List.set_cons_succ])
    refine wpAnyH_ready (rs := [10]) (by kernel_rfl) (by simp) ?_
    refine AllReadyH.cons (o := ⟨some 17, _, _, _, _, _⟩) rfl (fun K hK => ?_) AllReadyH.nil
    go_simp
    go_at_call 86
    refine (noEntry_lit r.ent A c B d _ HS.out.e).mono ?_
    rw [HbE.out]
    rintro e w1 ⟨rfl, hb⟩
    have R0 : Hid (Blk w1 w.heap.size 33 [.int .i64 r.kind, .int .i64 r.term, .int .i64 r.vote, .int .i64 r.ent.idx, .int .i64 r.ent.term, .int .i64 r.ent.kind, .slice A r.ent.v.length c, .slice B r.ent.l.length d, .string (text r.ent.b), .int .i64 r.at_, .int .i64 r.snp.idx, .int .i64 r.snp.term, .slice A' r.snp.v.length c', .slice B' r.snp.l.length d', .string (text r.snp.b)]) := Lib.hid (Blk.below (by repeat (first | with_reducible exact P0.out | (with_reducible refine Blk.far ?_ (by dsimp only; (first | omega | (simp; done) | (simp; omega))) _) | with_reducible refine Blk.alloc ?_ _ | with_reducible refine Blk.drew ?_)) hb (by (first | omega | (simp; done) | (simp; omega))))
    have HB1 : Hid (Below w.heap.size w w1) := Lib.hid (Below.trans (by repeat (first | with_reducible exact Below.refl _ _ | with_reducible assumption | (with_reducible refine Below.setCell ?_ (by dsimp only; (first | omega | (simp; done) | (simp; omega))) _) | (with_reducible refine Below.alloc ?_ (by (first | omega | (simp; done) | (simp; omega))) _) | with_reducible refine Below.drew ?_)) (hb.mono (by (first | omega | (simp; done) | (simp; omega)))))
    clear hb HD
    dsimp only
    refine hK.out _ _ (kS15 R0.out) (fun HD => ?_)
    clear hK K
    (try simp only [Act.put, List.setIfInBounds_toArray, List.set_cons_zero, List.set_cons_succ])
    refine wpAnyH_ready (rs := [16]) (by kernel_rfl) (by simp) ?_
    refine AllReadyH.cons (o := ⟨some 23, _, _, _, _, _⟩) rfl (fun K hK => ?_) AllReadyH.nil
    go_simp
    go_at_call 71
    refine (noSnap_lit r.snp A' c' B' d' _ HS.out.s).mono ?_
    rw [HbS.out]
    rintro e w2 ⟨rfl, hb⟩
    have R1 : Hid (Blk w2 w.heap.size 33 [.int .i64 r.kind, .int .i64 r.term, .int .i64 r.vote, .int .i64 r.ent.idx, .int .i64 r.ent.term, .int .i64 r.ent.kind, .slice A r.ent.v.length c, .slice B r.ent.l.length d, .string (text r.ent.b), .int .i64 r.at_, .int .i64 r.snp.idx, .int .i64 r.snp.term, .slice A' r.snp.v.length c', .slice B' r.snp.l.length d', .string (text r.snp.b)]) := Lib.hid (Blk.below R0.out hb R0.out.lt)
    have HB2 : Hid (Below w.heap.size w w2) := Lib.hid (HB1.out.trans (hb.mono HB1.out.size))
    clear hb HD
    dsimp only
    refine hK.out _ _ (kS15 R1.out) (fun HD => ?_)
    clear hK K
    (try simp only [Act.put, List.setIfInBounds_toArray, List.set_cons_zero, List.set_cons_succ])
    refine wpAnyH_take (i := 17) (oi := ⟨some 3, _, _, _, _, _⟩) (v := ?_) rfl (by kernel_rfl) (by kernel_rfl) (by kernel_rfl) (fun _ _ _ h => h) (Or.inl ⟨by rfl, ?_⟩) HD ?_
    rotate_left
    · intro w hSw
      (try dsimp only at hSw)
      go_simp <;> with_reducible rfl
    (try simp only [Act.put, List.setIfInBounds_toArray, List.set_cons_zero, List.set_cons_succ])
    refine wpAnyH_take (i := 18) (oi := ⟨some 4, _, _, _, _, _⟩) (v := ?_) rfl (by kernel_rfl) (by kernel_rfl) (by kernel_rfl) (fun _ _ _ h => h) (Or.inl ⟨by rfl, ?_⟩) HD ?_
    rotate_left
    · intro w hSw
      (try dsimp only at hSw)
      go_simp <;> with_reducible rfl
    (try simp only [Act.put, List.setIfInBounds_toArray, List.set_cons_zero, List.set_cons_succ])
    refine wpAnyH_take (i := 19) (oi := ⟨some 5, _, _, _, _, _⟩) (v := ?_) rfl (by kernel_rfl) (by kernel_rfl) (by kernel_rfl) (fun _ _ _ h => h) (Or.inl ⟨by rfl, ?_⟩) HD ?_
    rotate_left
    · intro w hSw
      (try dsimp only at hSw)
      go_simp <;> with_reducible rfl
    (try simp only [Act.put, List.setIfInBounds_toArray, List.set_cons_zero, List.set_cons_succ])
    refine wpAnyH_take (i := 20) (oi := ⟨some 6, _, _, _, _, _⟩) (v := ?_) rfl (by kernel_rfl) (by kernel_rfl) (by kernel_rfl) (fun _ _ _ h => h) (Or.inl ⟨by rfl, ?_⟩) HD ?_
    rotate_left
    · intro w hSw
      (try dsimp only at hSw)
      go_simp <;> with_reducible rfl
    (try simp only [Act.put, List.setIfInBounds_toArray, List.set_cons_zero, List.set_cons_succ])
    refine wpAnyH_done (by kernel_rfl) ?_ _
    refine NoPanic.normal ?_
    clear hbC t1
    have a0 : w2.cell? ⟨w.heap.size, 0, none⟩ = some (.int .i64 r.kind) := R1.out.cell 0
    clear P0 R0 HB1 HbE HbS
    by_cases k1 : r.kind = 1
    · have HK := Lib.hid k1
      have u1 : (r.kind == 1) = true := by simpa using k1
      clear k1
      cases bE <;> cases bC <;> cases bS
      all_goals
        go_wp2
        go_ret
        exact ⟨by rw [bareB_1 HK.out]; rfl, HB2.out⟩
    by_cases k2 : r.kind = 2
    · have HK := Lib.hid k2
      have u1 : (r.kind == 1) = false := by simpa using k1
      have u2 : (r.kind == 2) = true := by simpa using k2
      clear k1 k2
      cases bC <;> cases bS
      all_goals
        go_wp2
        go_ret
        exact ⟨by rw [bareB_2 HK.out]; rfl, HB2.out⟩
    by_cases k3 : r.kind = 3
    · have HK := Lib.hid k3
      have u1 : (r.kind == 1) = false := by simpa using k1
      have u2 : (r.kind == 2) = false := by simpa using k2
      have u3 : (r.kind == 3) = true := by simpa using k3
      clear k1 k2 k3
      cases bE <;> cases bS
      all_goals
        go_wp2
        go_ret
        exact ⟨by rw [bareB_3 HK.out]; rfl, HB2.out⟩
    by_cases k4 : r.kind = 4
    · have HK := Lib.hid k4
      have u1 : (r.kind == 1) = false := by simpa using k1
      have u2 : (r.kind == 2) = false := by simpa using k2
      have u3 : (r.kind == 3) = false := by simpa using k3
      have u4 : (r.kind == 4) = true := by simpa using k4
      clear k1 k2 k3 k4
      cases bE <;> cases bC
      all_goals
        go_wp2
        go_ret
        exact ⟨by rw [bareB_4 HK.out]; rfl, HB2.out⟩
    have HK := Lib.hid (bareB_none (v := false) (e := bE) (c := bC) (s := bS) k1 k2 k3 k4)
    have u1 : (r.kind == 1) = false := by simpa using k1
    have u2 : (r.kind == 2) = false := by simpa using k2
    have u3 : (r.kind == 3) = false := by simpa using k3
    have u4 : (r.kind == 4) = false := by simpa using k4
    clear k1 k2 k3 k4
    go_wp2
    go_ret
    exact ⟨by rw [HK.out]; rfl, HB2.out⟩
end Go.Proofs.YtkdmfjpfanmgmaaGreatDoor
namespace Go.Proofs.YtkdmfjpfanmgmaaGreatDoor
open Go.RowKit Le
set_option maxRecDepth 100000
set_option linter.unusedSimpArgs false
set_option linter.unusedVariables false
/-- Lists and texts that a machine can hold. -/
structure Snp.Tame (s : Snp) : Prop where
  v : s.v.length ≤ 140737488355328
  l : s.l.length ≤ 140737488355328
  b : s.b.length ≤ 140737488355328
structure Ent.Tame (e : Ent) : Prop where
  v : e.v.length ≤ 140737488355328
  l : e.l.length ≤ 140737488355328
  b : e.b.length ≤ 140737488355328
structure Rcd.Tame (r : Rcd) : Prop where
  e : r.ent.Tame
  s : r.snp.Tame
structure Kep.Tame (k : Kep) : Prop where
  s : k.snp.Tame
  n : k.ents.length ≤ 140737488355328
  e : ∀ x ∈ k.ents, x.Tame
def Snp.size (s : Snp) : Nat := s.b.length + s.v.length + s.l.length
def Ent.size (e : Ent) : Nat := e.b.length + e.v.length + e.l.length
def Rcd.size (r : Rcd) : Nat := 8 + (r.ent.b.length + r.snp.b.length + r.ent.v.length + r.ent.l.length + r.snp.v.length + r.snp.l.length)
theorem at_worldC {P : Program} {c : Code} {Q : Exit → Act → World → Prop} {a : Act} (wX : World) (k : ∀ W, W = wX → c.wp P Q a W) : c.wp P Q a wX := k _ rfl
/-- What large has met so far. -/
structure SmallTo (k : Kep) (r : Rcd) (j : Nat) (n : Int) : Prop where
  ge : 8 * (j : Int) ≤ n
  r : (r.size : Int) ≤ n
  s : (k.snp.size : Int) ≤ n
  e : ∀ i x, i < j → k.ents[i]? = some x → (x.size : Int) ≤ n
  le : n ≤ 8589934592 * 1099511627776
/-- The law's large: nothing large is passed. -/
def LargeEnd (w : World) (k : Kep) (r : Rcd) (e : Ending) (w' : World) : Prop := ∃ b, e = .returned (.bool b) ∧ (b = false → k.ents.length ≤ 100000 ∧ r.size ≤ 100000 ∧ k.snp.size ≤ 100000 ∧ ∀ x ∈ k.ents, x.size ≤ 100000) ∧ Below w.heap.size w w'
end Go.Proofs.YtkdmfjpfanmgmaaGreatDoor
