/- Joined by mkmerge.py from the proof's texts Fold3, Fold4, Fold5, Fold7, Fold8, Fold10. Conditions: each theorem's own hypotheses. -/
import Derived.Test.YtkdmfjpfanmgmaaGreatDoorM10
import Derived.Deep.RegionLaw
import Derived.BigQuiet
import Derived.Deep.QuietTactic
namespace Go.Proofs.YtkdmfjpfanmgmaaGreatDoor
open Go.RowKit Le
set_option maxRecDepth 100000
set_option linter.unusedSimpArgs false
set_option linter.unusedVariables false
/-- A configuration copied to new memory. -/
def ConfEnd (w : World) (l1 l2 : List Int) (e : Ending) (w' : World) : Prop :=
  ∃ A c B d, e = .returned (.agg #[.slice A l1.length c, .slice B l2.length d]) ∧ RowsAt w' (Nw w' w.heap.size [3]) [.num] (nums l1) A ∧ RowsAt w' (Nw w' w.heap.size [3]) [.num] (nums l2) B ∧ Below w.heap.size w w'
/-- Within ownConfig: the world below is as it was; the result's box is there. -/
structure CfS (w w' : World) : Prop where
  below : Below w.heap.size w w'
  size : w.heap.size + 2 ≤ w'.heap.size
  there : ∃ x y, Blk w' (w.heap.size + 1) 27 [x, y]
theorem CfS.next {w w1 w2 : World} (h : CfS w w1) (hb : Below w1.heap.size w1 w2) : CfS w w2 := by
  obtain ⟨x, y, hB⟩ := h.there
  have := h.size
  have := hb.size
  exact ⟨h.below.trans (hb.mono (by omega)), by omega, x, y, hB.below hb hB.lt⟩
theorem CfS.set_ {w w1 : World} (h : CfS w w1) (u v : Value) : CfS w ((w1.setCell ⟨w.heap.size + 1, 0, none⟩ u).setCell ⟨w.heap.size + 1, 1, none⟩ v) := by
  obtain ⟨x, y, hB⟩ := h.there
  have := h.size
  exact ⟨(h.below.setCell (by simp) _).setCell (by simp) _, by simpa [World.setCell] using h.size, u, v, by simpa using (hB.set_ 0 u).set_ 1 v⟩
theorem CfS.cells {w w' : World} (h : CfS w w') : ∃ x y, w'.cell? ⟨w.heap.size + 1, 0, none⟩ = some x ∧ w'.cell? ⟨w.heap.size + 1, 1, none⟩ = some y ∧ w'.frozen? ⟨w.heap.size + 1, 0, none⟩ = false ∧ w'.frozen? ⟨w.heap.size + 1, 1, none⟩ = false := by
  obtain ⟨x, y, hB⟩ := h.there
  exact ⟨x, y, hB.cell 0, hB.cell 1, hB.frozen 0, hB.frozen 1⟩
theorem rows_at {w w1 : World} {l : List Sh} {ds : List (List Da)} {A : Option Addr} (H : Hid (RowsAt w (· < w.heap.size) l ds A)) {p q : Prop} (h : p ∧ q ∧ CfS w w1) : RowsAt w1 (· < w1.heap.size) l ds A :=
  (H.out.below h.2.2.below).more (by have := h.2.2.size; omega)
theorem cf_start (w : World) (u v : Value) : ((w.alloc (.cells #[u, v] 27)).alloc (.cells #[.slice none 0 0, .slice none 0 0] 27)).drew.cell? ⟨w.heap.size, 0, none⟩ = some u ∧
    ((w.alloc (.cells #[u, v] 27)).alloc (.cells #[.slice none 0 0, .slice none 0 0] 27)).drew.cell? ⟨w.heap.size, 1, none⟩ = some v ∧ CfS w ((w.alloc (.cells #[u, v] 27)).alloc (.cells #[.slice none 0 0, .slice none 0 0] 27)).drew := by
  have h := ((Blk.new w 27 [u, v]).alloc (.cells #[.slice none 0 0, .slice none 0 0] 27)).drew
  have h2 := (Blk.new (w.alloc (.cells #[u, v] 27)) 27 [.slice none 0 0, .slice none 0 0]).drew
  rw [show (w.alloc (.cells #[u, v] 27)).heap.size = w.heap.size + 1 by simp] at h2
  exact ⟨h.cell 0, h.cell 1, (((Below.refl _ _).alloc (Nat.le_refl _) _).alloc (by simp) _).drew, by simp, _, _, h2⟩
theorem cf_next {w w1 w2 : World} {u v : Value} (h : w1.cell? ⟨w.heap.size, 0, none⟩ = some u ∧ w1.cell? ⟨w.heap.size, 1, none⟩ = some v ∧ CfS w w1) (hb : Below w1.heap.size w1 w2) :
    w2.cell? ⟨w.heap.size, 0, none⟩ = some u ∧ w2.cell? ⟨w.heap.size, 1, none⟩ = some v ∧ CfS w w2 := by
  have := h.2.2.size
  exact ⟨(hb.cell (by dsimp only; omega)).trans h.1, (hb.cell (by dsimp only; omega)).trans h.2.1, h.2.2.next hb⟩
theorem cf_set {w w1 : World} {u v x y : Value} (h : w1.cell? ⟨w.heap.size, 0, none⟩ = some u ∧ w1.cell? ⟨w.heap.size, 1, none⟩ = some v ∧ CfS w w1) :
    ((w1.setCell ⟨w.heap.size + 1, 0, none⟩ x).setCell ⟨w.heap.size + 1, 1, none⟩ y).cell? ⟨w.heap.size, 0, none⟩ = some u ∧ ((w1.setCell ⟨w.heap.size + 1, 0, none⟩ x).setCell ⟨w.heap.size + 1, 1, none⟩ y).cell? ⟨w.heap.size, 1, none⟩ = some v ∧ CfS w ((w1.setCell ⟨w.heap.size + 1, 0, none⟩ x).setCell ⟨w.heap.size + 1, 1, none⟩ y) := by
  refine ⟨?_, ?_, h.2.2.set_ x y⟩
  · rw [World.cell?_setCell_other _ _ _ _ (by simp), World.cell?_setCell_other _ _ _ _ (by simp)]; exact h.1
  · rw [World.cell?_setCell_other _ _ _ _ (by simp), World.cell?_setCell_other _ _ _ _ (by simp)]; exact h.2.1
set_option maxHeartbeats 1600000 in
theorem ownConfig_any (l1 l2 : List Int) (A : Option Addr) (c : Nat) (B : Option Addr) (d : Nat) (w : World) (h1 : RowsAt w (· < w.heap.size) [.num] (nums l1) A) (h2 : RowsAt w (· < w.heap.size) [.num] (nums l2) B)
    (hl1 : l1.length ≤ 1099511627776) (hl2 : l2.length ≤ 1099511627776) :
    Calls Tryz.prog 81 #[.agg #[.slice A l1.length c, .slice B l2.length d]] w (ConfEnd w l1 l2) := by
  have H1 := Lib.hid h1
  have H2 := Lib.hid h2
  clear h1 h2
  go_enter Tryz.func81, Tryz.ntmps81
  go_wp2
  go_region_held3 (fun w' => w'.cell? ⟨w.heap.size, 0, none⟩ = some (.slice A l1.length c) ∧ w'.cell? ⟨w.heap.size, 1, none⟩ = some (.slice B l2.length d) ∧ CfS w w')
    (first
      | exact cf_start _ _ _
      | exact hb1.out
      | exact hb2.out
      | exact cf_set hb2.out)
    (first
      | (go_at_call 116
         (with_reducible refine (cloneSet_any A c l1 _ ?_ hl1).mono ?_)
         · exact rows_at H1 (by assumption)
         rintro e w1 ⟨A1, c1, rfl, hr1, hb⟩
         have hb1 := Lib.hid (cf_next (w := w) (u := .slice A l1.length c) (v := .slice B l2.length d) (by assumption) hb))
      | (go_at_call 116
         (with_reducible refine (cloneSet_any B d l2 _ ?_ hl2).mono ?_)
         · exact rows_at H2 (by assumption)
         rintro e w2 ⟨A2, c2, rfl, hr2, hb⟩
         have hb2 := Lib.hid (cf_next (w := w) (u := .slice A l1.length c) (v := .slice B l2.length d) (by assumption) hb)
         have hr1 := hr1.nw_below hb
         obtain ⟨x, y, f0, f1, g0, g1⟩ := hb2.out.2.2.cells))
  go_wp2
  have HB : Hid (Blk ((w2.setCell ⟨w.heap.size + 1, 0, none⟩ (.slice A1 l1.length c1)).setCell ⟨w.heap.size + 1, 1, none⟩ (.slice A2 l2.length c2)) (w.heap.size + 1) 27 [.slice A1 l1.length c1, .slice A2 l2.length c2]) := by
    obtain ⟨x, y, hB⟩ := hb2.out.2.2.there
    have := (hB.set_ 0 (.slice A1 l1.length c1)).set_ 1 (.slice A2 l2.length c2)
    exact Lib.hid (by simpa using this)
  have HK : Hid (Keeps [27] w2 ((w2.setCell ⟨w.heap.size + 1, 0, none⟩ (.slice A1 l1.length c1)).setCell ⟨w.heap.size + 1, 1, none⟩ (.slice A2 l2.length c2))) := by
    obtain ⟨x, y, hB⟩ := hb2.out.2.2.there
    exact Lib.hid ((Keeps.set_ hB.typ (by simp) _).trans (Keeps.set_ (hB.set_ 0 _).typ (by simp) _))
  refine bodyPost_ret (results_cell rfl _ _ (w.heap.size + 1) rfl [.slice A1 l1.length c1, .slice A2 l2.length c2] _ HB.out.range0 Tryz.underlying27 rfl (by kernel_rfl)) rfl ?_
  refine ⟨A1, c1, A2, c2, rfl, ?_, ?_, hb2.out.2.2.below.setCell (by simp) _ |>.setCell (by simp) _⟩
  · exact (hr1.nw_mono (by simp; omega) fun _ h => h).nw_keeps HK.out (by decide)
  · exact (hr2.nw_mono (by have := hb1.out.2.2.size; omega) fun _ h => h).nw_keeps HK.out (by decide)
end Go.Proofs.YtkdmfjpfanmgmaaGreatDoor
namespace Go.Proofs.YtkdmfjpfanmgmaaGreatDoor
open Go.RowKit Le
set_option maxRecDepth 100000
set_option linter.unusedSimpArgs false
set_option linter.unusedVariables false
theorem blk2 (w : World) (t0 t1 : TypeId) (c0 c1 : List Value) : Blk ((w.alloc (.cells c0.toArray t0)).alloc (.cells c1.toArray t1)) w.heap.size t0 c0 ∧
    Blk ((w.alloc (.cells c0.toArray t0)).alloc (.cells c1.toArray t1)) (w.heap.size + 1) t1 c1 := by
  refine ⟨(Blk.new w t0 c0).alloc _, ?_⟩
  have h := Blk.new (w.alloc (.cells c0.toArray t0)) t1 c1
  simpa using h
/-- An entry copied to new memory. -/
def EntEnd (w : World) (x : Ent) (e : Ending) (w' : World) : Prop :=
  ∃ A c B d, e = .returned (.agg (x.cs A c B d).toArray) ∧ RowsAt w' (Nw w' w.heap.size [3]) [.num] (nums x.v) A ∧ RowsAt w' (Nw w' w.heap.size [3]) [.num] (nums x.l) B ∧ Below w.heap.size w w'
/-- A snapshot copied to new memory. -/
def SnpEnd (w : World) (x : Snp) (e : Ending) (w' : World) : Prop :=
  ∃ A c B d, e = .returned (.agg (x.cs A c B d).toArray) ∧ RowsAt w' (Nw w' w.heap.size [3]) [.num] (nums x.v) A ∧ RowsAt w' (Nw w' w.heap.size [3]) [.num] (nums x.l) B ∧ Below w.heap.size w w'
set_option maxHeartbeats 1600000 in
theorem ownEntry_any (x : Ent) (A : Option Addr) (c : Nat) (B : Option Addr) (d : Nat) (w : World) (h1 : RowsAt w (· < w.heap.size) [.num] (nums x.v) A) (h2 : RowsAt w (· < w.heap.size) [.num] (nums x.l) B)
    (hl1 : x.v.length ≤ 1099511627776) (hl2 : x.l.length ≤ 1099511627776) :
    Calls Tryz.prog 43 #[.agg (x.cs A c B d).toArray] w (EntEnd w x) := by
  unfold Ent.cs
  have P := blk2 w 29 29 [.int .i64 x.idx, .int .i64 x.term, .int .i64 x.kind, .slice A x.v.length c, .slice B x.l.length d, .string (text x.b)] [.int .i64 0, .int .i64 0, .int .i64 0, .slice none 0 0, .slice none 0 0, .string ⟨#[]⟩]
  have P0 := Lib.hid P.1
  have P1 := Lib.hid P.2
  have H1 := Lib.hid h1
  have H2 := Lib.hid h2
  clear P h1 h2
  go_enter Tryz.func43, Tryz.ntmps43
  go_wp2_with fail
  refine at_below w _ (by repeat (first | with_reducible exact Below.refl _ _ | with_reducible assumption | (with_reducible refine Below.setCell ?_ (by dsimp only; (first | omega | (simp; done) | (simp; omega))) _) | (with_reducible refine Below.alloc ?_ (by (first | omega | (simp; done) | (simp; omega))) _) | with_reducible refine Below.drew ?_)) fun HBx => ?_
  refine (ownConfig_any x.v x.l A c B d _ ((H1.out.below HBx).more (by (first | omega | (simp; done) | (simp; omega)))) ((H2.out.below HBx).more (by (first | omega | (simp; done) | (simp; omega)))) hl1 hl2).mono ?_
  rintro e w1 ⟨A1, c1, B1, d1, rfl, hr1, hr2, hb⟩
  have z1 := hb.size
  have R0 := Lib.hid (P0.out.below hb P0.out.lt)
  have R1 := Lib.hid (P1.out.below hb P1.out.lt)
  have HB1 := Lib.hid (HBx.trans (hb.mono (by (first | omega | (simp; done) | (simp; omega)))))
  have r1 := Lib.hid (hr1.nw_mono (base' := w.heap.size) (by (first | omega | (simp; done) | (simp; omega))) fun _ h => h)
  have r2 := Lib.hid (hr2.nw_mono (base' := w.heap.size) (by (first | omega | (simp; done) | (simp; omega))) fun _ h => h)
  clear hr1 hr2 hb HBx P0 P1 H1 H2
  have a0 : w1.cell? ⟨w.heap.size, 0, none⟩ = some (.int .i64 x.idx) := R0.out.cell 0
  have p0 : w1.frozen? ⟨w.heap.size, 0, none⟩ = false := R0.out.frozen 0
  have a1 : w1.cell? ⟨w.heap.size, 1, none⟩ = some (.int .i64 x.term) := R0.out.cell 1
  have p1 : w1.frozen? ⟨w.heap.size, 1, none⟩ = false := R0.out.frozen 1
  have a2 : w1.cell? ⟨w.heap.size, 2, none⟩ = some (.int .i64 x.kind) := R0.out.cell 2
  have p2 : w1.frozen? ⟨w.heap.size, 2, none⟩ = false := R0.out.frozen 2
  have a3 : w1.cell? ⟨w.heap.size, 3, none⟩ = some (.slice A x.v.length c) := R0.out.cell 3
  have p3 : w1.frozen? ⟨w.heap.size, 3, none⟩ = false := R0.out.frozen 3
  have a4 : w1.cell? ⟨w.heap.size, 4, none⟩ = some (.slice B x.l.length d) := R0.out.cell 4
  have p4 : w1.frozen? ⟨w.heap.size, 4, none⟩ = false := R0.out.frozen 4
  have a5 : w1.cell? ⟨w.heap.size, 5, none⟩ = some (.string (text x.b)) := R0.out.cell 5
  have p5 : w1.frozen? ⟨w.heap.size, 5, none⟩ = false := R0.out.frozen 5
  have b0 : w1.cell? ⟨w.heap.size + 1, 0, none⟩ = some (.int .i64 0) := R1.out.cell 0
  have q0 : w1.frozen? ⟨w.heap.size + 1, 0, none⟩ = false := R1.out.frozen 0
  have b1 : w1.cell? ⟨w.heap.size + 1, 1, none⟩ = some (.int .i64 0) := R1.out.cell 1
  have q1 : w1.frozen? ⟨w.heap.size + 1, 1, none⟩ = false := R1.out.frozen 1
  have b2 : w1.cell? ⟨w.heap.size + 1, 2, none⟩ = some (.int .i64 0) := R1.out.cell 2
  have q2 : w1.frozen? ⟨w.heap.size + 1, 2, none⟩ = false := R1.out.frozen 2
  have b3 : w1.cell? ⟨w.heap.size + 1, 3, none⟩ = some (.slice none 0 0) := R1.out.cell 3
  have q3 : w1.frozen? ⟨w.heap.size + 1, 3, none⟩ = false := R1.out.frozen 3
  have b4 : w1.cell? ⟨w.heap.size + 1, 4, none⟩ = some (.slice none 0 0) := R1.out.cell 4
  have q4 : w1.frozen? ⟨w.heap.size + 1, 4, none⟩ = false := R1.out.frozen 4
  have b5 : w1.cell? ⟨w.heap.size + 1, 5, none⟩ = some (.string ⟨#[]⟩) := R1.out.cell 5
  have q5 : w1.frozen? ⟨w.heap.size + 1, 5, none⟩ = false := R1.out.frozen 5
  go_wp2
  have HB : Hid (Blk ((((((((w1.setCell ⟨w.heap.size, 3, none⟩ (.slice A1 x.v.length c1)).setCell ⟨w.heap.size, 4, none⟩ (.slice B1 x.l.length d1)).setCell ⟨w.heap.size + 1, 0, none⟩ (.int .i64 x.idx)).setCell ⟨w.heap.size + 1, 1, none⟩ (.int .i64 x.term)).setCell ⟨w.heap.size + 1, 2, none⟩ (.int .i64 x.kind)).setCell ⟨w.heap.size + 1, 3, none⟩ (.slice A1 x.v.length c1)).setCell ⟨w.heap.size + 1, 4, none⟩ (.slice B1 x.l.length d1)).setCell ⟨w.heap.size + 1, 5, none⟩ (.string (text x.b))) (w.heap.size + 1) 29 [.int .i64 x.idx, .int .i64 x.term, .int .i64 x.kind, .slice A1 x.v.length c1, .slice B1 x.l.length d1, .string (text x.b)]) := by
    have := R1.out.far (p := ⟨w.heap.size, 3, none⟩) (by dsimp only; omega) (.slice A1 x.v.length c1) |>.far (p := ⟨w.heap.size, 4, none⟩) (by dsimp only; omega) (.slice B1 x.l.length d1) |>.set_ 0 (.int .i64 x.idx) |>.set_ 1 (.int .i64 x.term) |>.set_ 2 (.int .i64 x.kind) |>.set_ 3 (.slice A1 x.v.length c1) |>.set_ 4 (.slice B1 x.l.length d1) |>.set_ 5 (.string (text x.b))
    exact Lib.hid (by simpa using this)
  have HK : Hid (Keeps [29] w1 ((((((((w1.setCell ⟨w.heap.size, 3, none⟩ (.slice A1 x.v.length c1)).setCell ⟨w.heap.size, 4, none⟩ (.slice B1 x.l.length d1)).setCell ⟨w.heap.size + 1, 0, none⟩ (.int .i64 x.idx)).setCell ⟨w.heap.size + 1, 1, none⟩ (.int .i64 x.term)).setCell ⟨w.heap.size + 1, 2, none⟩ (.int .i64 x.kind)).setCell ⟨w.heap.size + 1, 3, none⟩ (.slice A1 x.v.length c1)).setCell ⟨w.heap.size + 1, 4, none⟩ (.slice B1 x.l.length d1)).setCell ⟨w.heap.size + 1, 5, none⟩ (.string (text x.b)))) := by
    refine Lib.hid ?_
    have K0 : TypeAt w1 w.heap.size 29 := R0.out.typ
    have K1 : TypeAt w1 (w.heap.size + 1) 29 := R1.out.typ
    exact (Keeps.trans (Keeps.trans (Keeps.trans (Keeps.trans (Keeps.trans (Keeps.trans (Keeps.trans (Keeps.set_ (i := 3) K0 (by simp) (.slice A1 x.v.length c1)) (Keeps.set_ (i := 4) (K0.setCell ⟨w.heap.size, 3, none⟩ (.slice A1 x.v.length c1)) (by simp) (.slice B1 x.l.length d1))) (Keeps.set_ (i := 0) ((K1.setCell ⟨w.heap.size, 3, none⟩ (.slice A1 x.v.length c1)).setCell ⟨w.heap.size, 4, none⟩ (.slice B1 x.l.length d1)) (by simp) (.int .i64 x.idx))) (Keeps.set_ (i := 1) (((K1.setCell ⟨w.heap.size, 3, none⟩ (.slice A1 x.v.length c1)).setCell ⟨w.heap.size, 4, none⟩ (.slice B1 x.l.length d1)).setCell ⟨w.heap.size + 1, 0, none⟩ (.int .i64 x.idx)) (by simp) (.int .i64 x.term))) (Keeps.set_ (i := 2) ((((K1.setCell ⟨w.heap.size, 3, none⟩ (.slice A1 x.v.length c1)).setCell ⟨w.heap.size, 4, none⟩ (.slice B1 x.l.length d1)).setCell ⟨w.heap.size + 1, 0, none⟩ (.int .i64 x.idx)).setCell ⟨w.heap.size + 1, 1, none⟩ (.int .i64 x.term)) (by simp) (.int .i64 x.kind))) (Keeps.set_ (i := 3) (((((K1.setCell ⟨w.heap.size, 3, none⟩ (.slice A1 x.v.length c1)).setCell ⟨w.heap.size, 4, none⟩ (.slice B1 x.l.length d1)).setCell ⟨w.heap.size + 1, 0, none⟩ (.int .i64 x.idx)).setCell ⟨w.heap.size + 1, 1, none⟩ (.int .i64 x.term)).setCell ⟨w.heap.size + 1, 2, none⟩ (.int .i64 x.kind)) (by simp) (.slice A1 x.v.length c1))) (Keeps.set_ (i := 4) ((((((K1.setCell ⟨w.heap.size, 3, none⟩ (.slice A1 x.v.length c1)).setCell ⟨w.heap.size, 4, none⟩ (.slice B1 x.l.length d1)).setCell ⟨w.heap.size + 1, 0, none⟩ (.int .i64 x.idx)).setCell ⟨w.heap.size + 1, 1, none⟩ (.int .i64 x.term)).setCell ⟨w.heap.size + 1, 2, none⟩ (.int .i64 x.kind)).setCell ⟨w.heap.size + 1, 3, none⟩ (.slice A1 x.v.length c1)) (by simp) (.slice B1 x.l.length d1))) (Keeps.set_ (i := 5) (((((((K1.setCell ⟨w.heap.size, 3, none⟩ (.slice A1 x.v.length c1)).setCell ⟨w.heap.size, 4, none⟩ (.slice B1 x.l.length d1)).setCell ⟨w.heap.size + 1, 0, none⟩ (.int .i64 x.idx)).setCell ⟨w.heap.size + 1, 1, none⟩ (.int .i64 x.term)).setCell ⟨w.heap.size + 1, 2, none⟩ (.int .i64 x.kind)).setCell ⟨w.heap.size + 1, 3, none⟩ (.slice A1 x.v.length c1)).setCell ⟨w.heap.size + 1, 4, none⟩ (.slice B1 x.l.length d1)) (by simp) (.string (text x.b))))
  refine bodyPost_ret (results_cell rfl _ _ (w.heap.size + 1) rfl [.int .i64 x.idx, .int .i64 x.term, .int .i64 x.kind, .slice A1 x.v.length c1, .slice B1 x.l.length d1, .string (text x.b)] _ HB.out.range0 Tryz.underlying29 rfl (by kernel_rfl)) rfl ?_
  exact ⟨A1, c1, B1, d1, rfl, r1.out.nw_keeps HK.out (by decide), r2.out.nw_keeps HK.out (by decide), (Below.setCell (Below.setCell (Below.setCell (Below.setCell (Below.setCell (Below.setCell (Below.setCell (Below.setCell HB1.out (by (first | omega | (simp; done) | (simp; omega))) _) (by (first | omega | (simp; done) | (simp; omega))) _) (by (first | omega | (simp; done) | (simp; omega))) _) (by (first | omega | (simp; done) | (simp; omega))) _) (by (first | omega | (simp; done) | (simp; omega))) _) (by (first | omega | (simp; done) | (simp; omega))) _) (by (first | omega | (simp; done) | (simp; omega))) _) (by (first | omega | (simp; done) | (simp; omega))) _)⟩
set_option maxHeartbeats 1600000 in
theorem ownSnap_any (x : Snp) (A : Option Addr) (c : Nat) (B : Option Addr) (d : Nat) (w : World) (h1 : RowsAt w (· < w.heap.size) [.num] (nums x.v) A) (h2 : RowsAt w (· < w.heap.size) [.num] (nums x.l) B)
    (hl1 : x.v.length ≤ 1099511627776) (hl2 : x.l.length ≤ 1099511627776) :
    Calls Tryz.prog 42 #[.agg (x.cs A c B d).toArray] w (SnpEnd w x) := by
  unfold Snp.cs
  have P := blk2 w 31 31 [.int .i64 x.idx, .int .i64 x.term, .slice A x.v.length c, .slice B x.l.length d, .string (text x.b)] [.int .i64 0, .int .i64 0, .slice none 0 0, .slice none 0 0, .string ⟨#[]⟩]
  have P0 := Lib.hid P.1
  have P1 := Lib.hid P.2
  have H1 := Lib.hid h1
  have H2 := Lib.hid h2
  clear P h1 h2
  go_enter Tryz.func42, Tryz.ntmps42
  go_wp2_with fail
  refine at_below w _ (by repeat (first | with_reducible exact Below.refl _ _ | with_reducible assumption | (with_reducible refine Below.setCell ?_ (by dsimp only; (first | omega | (simp; done) | (simp; omega))) _) | (with_reducible refine Below.alloc ?_ (by (first | omega | (simp; done) | (simp; omega))) _) | with_reducible refine Below.drew ?_)) fun HBx => ?_
  refine (ownConfig_any x.v x.l A c B d _ ((H1.out.below HBx).more (by (first | omega | (simp; done) | (simp; omega)))) ((H2.out.below HBx).more (by (first | omega | (simp; done) | (simp; omega)))) hl1 hl2).mono ?_
  rintro e w1 ⟨A1, c1, B1, d1, rfl, hr1, hr2, hb⟩
  have z1 := hb.size
  have R0 := Lib.hid (P0.out.below hb P0.out.lt)
  have R1 := Lib.hid (P1.out.below hb P1.out.lt)
  have HB1 := Lib.hid (HBx.trans (hb.mono (by (first | omega | (simp; done) | (simp; omega)))))
  have r1 := Lib.hid (hr1.nw_mono (base' := w.heap.size) (by (first | omega | (simp; done) | (simp; omega))) fun _ h => h)
  have r2 := Lib.hid (hr2.nw_mono (base' := w.heap.size) (by (first | omega | (simp; done) | (simp; omega))) fun _ h => h)
  clear hr1 hr2 hb HBx P0 P1 H1 H2
  have a0 : w1.cell? ⟨w.heap.size, 0, none⟩ = some (.int .i64 x.idx) := R0.out.cell 0
  have p0 : w1.frozen? ⟨w.heap.size, 0, none⟩ = false := R0.out.frozen 0
  have a1 : w1.cell? ⟨w.heap.size, 1, none⟩ = some (.int .i64 x.term) := R0.out.cell 1
  have p1 : w1.frozen? ⟨w.heap.size, 1, none⟩ = false := R0.out.frozen 1
  have a2 : w1.cell? ⟨w.heap.size, 2, none⟩ = some (.slice A x.v.length c) := R0.out.cell 2
  have p2 : w1.frozen? ⟨w.heap.size, 2, none⟩ = false := R0.out.frozen 2
  have a3 : w1.cell? ⟨w.heap.size, 3, none⟩ = some (.slice B x.l.length d) := R0.out.cell 3
  have p3 : w1.frozen? ⟨w.heap.size, 3, none⟩ = false := R0.out.frozen 3
  have a4 : w1.cell? ⟨w.heap.size, 4, none⟩ = some (.string (text x.b)) := R0.out.cell 4
  have p4 : w1.frozen? ⟨w.heap.size, 4, none⟩ = false := R0.out.frozen 4
  have b0 : w1.cell? ⟨w.heap.size + 1, 0, none⟩ = some (.int .i64 0) := R1.out.cell 0
  have q0 : w1.frozen? ⟨w.heap.size + 1, 0, none⟩ = false := R1.out.frozen 0
  have b1 : w1.cell? ⟨w.heap.size + 1, 1, none⟩ = some (.int .i64 0) := R1.out.cell 1
  have q1 : w1.frozen? ⟨w.heap.size + 1, 1, none⟩ = false := R1.out.frozen 1
  have b2 : w1.cell? ⟨w.heap.size + 1, 2, none⟩ = some (.slice none 0 0) := R1.out.cell 2
  have q2 : w1.frozen? ⟨w.heap.size + 1, 2, none⟩ = false := R1.out.frozen 2
  have b3 : w1.cell? ⟨w.heap.size + 1, 3, none⟩ = some (.slice none 0 0) := R1.out.cell 3
  have q3 : w1.frozen? ⟨w.heap.size + 1, 3, none⟩ = false := R1.out.frozen 3
  have b4 : w1.cell? ⟨w.heap.size + 1, 4, none⟩ = some (.string ⟨#[]⟩) := R1.out.cell 4
  have q4 : w1.frozen? ⟨w.heap.size + 1, 4, none⟩ = false := R1.out.frozen 4
  go_wp2
  have HB : Hid (Blk (((((((w1.setCell ⟨w.heap.size, 2, none⟩ (.slice A1 x.v.length c1)).setCell ⟨w.heap.size, 3, none⟩ (.slice B1 x.l.length d1)).setCell ⟨w.heap.size + 1, 0, none⟩ (.int .i64 x.idx)).setCell ⟨w.heap.size + 1, 1, none⟩ (.int .i64 x.term)).setCell ⟨w.heap.size + 1, 2, none⟩ (.slice A1 x.v.length c1)).setCell ⟨w.heap.size + 1, 3, none⟩ (.slice B1 x.l.length d1)).setCell ⟨w.heap.size + 1, 4, none⟩ (.string (text x.b))) (w.heap.size + 1) 31 [.int .i64 x.idx, .int .i64 x.term, .slice A1 x.v.length c1, .slice B1 x.l.length d1, .string (text x.b)]) := by
    have := R1.out.far (p := ⟨w.heap.size, 2, none⟩) (by dsimp only; omega) (.slice A1 x.v.length c1) |>.far (p := ⟨w.heap.size, 3, none⟩) (by dsimp only; omega) (.slice B1 x.l.length d1) |>.set_ 0 (.int .i64 x.idx) |>.set_ 1 (.int .i64 x.term) |>.set_ 2 (.slice A1 x.v.length c1) |>.set_ 3 (.slice B1 x.l.length d1) |>.set_ 4 (.string (text x.b))
    exact Lib.hid (by simpa using this)
  have HK : Hid (Keeps [31] w1 (((((((w1.setCell ⟨w.heap.size, 2, none⟩ (.slice A1 x.v.length c1)).setCell ⟨w.heap.size, 3, none⟩ (.slice B1 x.l.length d1)).setCell ⟨w.heap.size + 1, 0, none⟩ (.int .i64 x.idx)).setCell ⟨w.heap.size + 1, 1, none⟩ (.int .i64 x.term)).setCell ⟨w.heap.size + 1, 2, none⟩ (.slice A1 x.v.length c1)).setCell ⟨w.heap.size + 1, 3, none⟩ (.slice B1 x.l.length d1)).setCell ⟨w.heap.size + 1, 4, none⟩ (.string (text x.b)))) := by
    refine Lib.hid ?_
    have K0 : TypeAt w1 w.heap.size 31 := R0.out.typ
    have K1 : TypeAt w1 (w.heap.size + 1) 31 := R1.out.typ
    exact (Keeps.trans (Keeps.trans (Keeps.trans (Keeps.trans (Keeps.trans (Keeps.trans (Keeps.set_ (i := 2) K0 (by simp) (.slice A1 x.v.length c1)) (Keeps.set_ (i := 3) (K0.setCell ⟨w.heap.size, 2, none⟩ (.slice A1 x.v.length c1)) (by simp) (.slice B1 x.l.length d1))) (Keeps.set_ (i := 0) ((K1.setCell ⟨w.heap.size, 2, none⟩ (.slice A1 x.v.length c1)).setCell ⟨w.heap.size, 3, none⟩ (.slice B1 x.l.length d1)) (by simp) (.int .i64 x.idx))) (Keeps.set_ (i := 1) (((K1.setCell ⟨w.heap.size, 2, none⟩ (.slice A1 x.v.length c1)).setCell ⟨w.heap.size, 3, none⟩ (.slice B1 x.l.length d1)).setCell ⟨w.heap.size + 1, 0, none⟩ (.int .i64 x.idx)) (by simp) (.int .i64 x.term))) (Keeps.set_ (i := 2) ((((K1.setCell ⟨w.heap.size, 2, none⟩ (.slice A1 x.v.length c1)).setCell ⟨w.heap.size, 3, none⟩ (.slice B1 x.l.length d1)).setCell ⟨w.heap.size + 1, 0, none⟩ (.int .i64 x.idx)).setCell ⟨w.heap.size + 1, 1, none⟩ (.int .i64 x.term)) (by simp) (.slice A1 x.v.length c1))) (Keeps.set_ (i := 3) (((((K1.setCell ⟨w.heap.size, 2, none⟩ (.slice A1 x.v.length c1)).setCell ⟨w.heap.size, 3, none⟩ (.slice B1 x.l.length d1)).setCell ⟨w.heap.size + 1, 0, none⟩ (.int .i64 x.idx)).setCell ⟨w.heap.size + 1, 1, none⟩ (.int .i64 x.term)).setCell ⟨w.heap.size + 1, 2, none⟩ (.slice A1 x.v.length c1)) (by simp) (.slice B1 x.l.length d1))) (Keeps.set_ (i := 4) ((((((K1.setCell ⟨w.heap.size, 2, none⟩ (.slice A1 x.v.length c1)).setCell ⟨w.heap.size, 3, none⟩ (.slice B1 x.l.length d1)).setCell ⟨w.heap.size + 1, 0, none⟩ (.int .i64 x.idx)).setCell ⟨w.heap.size + 1, 1, none⟩ (.int .i64 x.term)).setCell ⟨w.heap.size + 1, 2, none⟩ (.slice A1 x.v.length c1)).setCell ⟨w.heap.size + 1, 3, none⟩ (.slice B1 x.l.length d1)) (by simp) (.string (text x.b))))
  refine bodyPost_ret (results_cell rfl _ _ (w.heap.size + 1) rfl [.int .i64 x.idx, .int .i64 x.term, .slice A1 x.v.length c1, .slice B1 x.l.length d1, .string (text x.b)] _ HB.out.range0 Tryz.underlying31 rfl (by kernel_rfl)) rfl ?_
  exact ⟨A1, c1, B1, d1, rfl, r1.out.nw_keeps HK.out (by decide), r2.out.nw_keeps HK.out (by decide), (Below.setCell (Below.setCell (Below.setCell (Below.setCell (Below.setCell (Below.setCell (Below.setCell HB1.out (by (first | omega | (simp; done) | (simp; omega))) _) (by (first | omega | (simp; done) | (simp; omega))) _) (by (first | omega | (simp; done) | (simp; omega))) _) (by (first | omega | (simp; done) | (simp; omega))) _) (by (first | omega | (simp; done) | (simp; omega))) _) (by (first | omega | (simp; done) | (simp; omega))) _) (by (first | omega | (simp; done) | (simp; omega))) _)⟩
end Go.Proofs.YtkdmfjpfanmgmaaGreatDoor
namespace Go.Proofs.YtkdmfjpfanmgmaaGreatDoor
open Go.RowKit Le
set_option maxRecDepth 100000
set_option linter.unusedSimpArgs false
set_option linter.unusedVariables false
/-! ### Things of many cells in new rows. -/
/-- The things in a row's cells; what they lead to lies in new blocks of the types us. -/
def ThingsN (w : World) (base : Nat) (us : List TypeId) (sh : List Sh) (ds : List (List Da)) (xs : List Value) : Prop :=
  ∀ (j : Nat) (d : List Da), ds[j]? = some d → ∃ vs, Cels w (Nw w base us) sh d vs ∧ ∀ (i : Nat) (u : Value), vs[i]? = some u → xs[j * sh.length + i]? = some u
section
variable {w w' : World} {base : Nat} {us : List TypeId} {sh : List Sh} {ds : List (List Da)} {xs vs : List Value}
theorem ThingsN.nil : ThingsN w base us sh [] xs := fun j d h => by simp at h
theorem ThingsN.keeps {ts : List TypeId} (h : ThingsN w base us sh ds xs) (hk : Keeps ts w w') (hd : ∀ t, t ∈ us → t ∉ ts) : ThingsN w' base us sh ds xs := fun j d hj => by
  obtain ⟨vs, h1, h2⟩ := h j d hj
  exact ⟨vs, h1.nw_keeps hk hd, h2⟩
theorem ThingsN.snoc {d : List Da} (h : ThingsN w base us sh ds xs) (hx : xs.length = ds.length * sh.length) (hv : Cels w (Nw w base us) sh d vs) : ThingsN w base us sh (ds ++ [d]) (xs ++ vs) := fun j d' hj => by
  by_cases hlt : j < ds.length
  · rw [List.getElem?_append_left hlt] at hj
    obtain ⟨vs', h1, h2⟩ := h j d' hj
    refine ⟨vs', h1, fun i u hu => ?_⟩
    have h3 := h2 i u hu
    have h4 : j * sh.length + i < xs.length := by
      rcases Nat.lt_or_ge (j * sh.length + i) xs.length with h4 | h4
      · exact h4
      · rw [List.getElem?_eq_none h4] at h3; cases h3
    rw [List.getElem?_append_left h4]
    exact h3
  · have hje : j = ds.length := by
      rcases Nat.lt_or_ge j (ds.length + 1) with h4 | h4
      · omega
      · rw [List.getElem?_eq_none (by simp; omega)] at hj; cases hj
    subst hje
    rw [List.getElem?_append_right (Nat.le_refl _), Nat.sub_self] at hj
    simp only [List.getElem?_cons_zero, Option.some.injEq] at hj
    subst hj
    refine ⟨vs, hv, fun i u hu => ?_⟩
    rw [List.getElem?_append_right (by omega), hx, Nat.add_sub_cancel_left]
    exact hu
/-- A row of the call's own as a list of things. -/
theorem rowsAt_ownN {base n c : Nat} {e : TypeId} {A : Option Addr} (h : w.ownsRow base e sh.length (.slice A n c) n xs) (hn : ds.length = n) (hd : ThingsN w base us sh ds xs) : RowsAt w (Nw w base (e :: us)) sh ds A := by
  intro h0
  obtain ⟨g, cap, hv, _, hlt⟩ := h.form (by omega)
  have hA : A = some ⟨g, 0, none⟩ := by injection hv
  subst hA
  refine ⟨_, rfl, ?_, fun j d hj => ?_⟩
  · rcases h.2 with ⟨h0, _⟩ | ⟨g', cap', cur, hv', hg, hh, _⟩
    · cases h0
    · injection hv' with hv'
      injection hv' with hv'
      injection hv' with hv'
      subst hv'
      exact ⟨hg, e, by simp, cur, hh⟩
  · obtain ⟨vs, h1, h2⟩ := hd j d hj
    exact ⟨vs, h1.nw_mono (Nat.le_refl _) (fun t ht => List.mem_cons_of_mem _ ht), fun i u hu => h.cells (g := g) rfl _ u (h2 i u hu)⟩
end
/-- append of one thing of many cells, as one step of a region that draws. -/
theorem step_appN {P : Program} {w : World} {ops : Array Oper} {o : Oper} {a : Act} {K : Act → World → Prop} {Q : Exit → Act → World → Prop} {E : Prop} (hgd : o.guard = none) (s x : Operand) (t : TypeId)
    (ho : o.op = .call { callee := .builtin .append, args := #[s, x], argTypes := #[t, t] })
    (base : Nat) (e : TypeId) (i : TypeInfo) (z : Value) (size bytes : Nat) (ht : P.underlying t = some (.slice e)) (hi : P.info? e = some i) (hz : i.zero = some z)
    (hsize : i.size = size) (hby : i.bytes = bytes) (hzs : z.cells.size = size) (hsz : 0 < size)
    (v : Value) (n : Nat) (xs : List Value) (hs : a.eval s = v) (hown : w.ownsRow base e size v n xs)
    (ad : Addr) (c : Nat) (news : List Value) (hx : a.eval x = .slice (some ad) 1 c) (hl : news.length = size) (hnews : ∀ j u, news[j]? = some u → w.cell? (ad.add j) = some u) (h1 : ∀ u ∈ news, u.oneCell' = true)
    (h63 : n + 1 ≤ maxLen) (hbytes : (n + 1) * bytes ≤ 140737488355328) (hbase : base ≤ w.heap.size)
    (hK : ∀ A' c' w', Hid (w'.ownsRow base e size (.slice A' (n + 1) c') (n + 1) (xs ++ news)) → Hid (w.grownBy w' v.ownBlock) → K (a.put o.dst (.slice A' (n + 1) c')) w') :
    if Region.wanted o (yielded ops a.tmps) = true then Oper.wp P o a w K Q else E := by
  have hw : Region.wanted o (yielded ops a.tmps) = true := by simp [Region.wanted, hgd]
  rw [if_pos hw]
  obtain ⟨v', w', hrun, h2, h3, _⟩ := run_append_own (P := P) w base t o.type e i z size bytes ht hi hz hsize hby hzs hsz v n xs hown ad 1 c news (by rw [hl, Nat.one_mul]) hnews h1 h63 hbytes hbase
  unfold Oper.wp execOp
  simp only [ho, resolve, invoke, builtin, Sem.run_bind, Sem.run_pure, Result.andThen_ok, List.map_toArray, List.map_cons, List.map_nil, hs, hx, hrun]
  obtain ⟨A', c', rfl⟩ := own_slice h2
  exact hK A' c' w' h2 h3
/-! ### What is kept. -/
def Kep.cs (k : Kep) (A : Option Addr) (c : Nat) (B : Option Addr) (d : Nat) (E : Option Addr) (n : Nat) : List Value :=
  [.int .i64 k.term, .int .i64 k.vote, .int .i64 k.snp.idx, .int .i64 k.snp.term, .slice A k.snp.v.length c, .slice B k.snp.l.length d, .string (text k.snp.b), .slice E k.ents.length n]
/-- What it leads to. -/
structure KepAt (w : World) (S : Nat → Prop) (k : Kep) (A B E : Option Addr) : Prop where
  v : RowsAt w S [.num] (nums k.snp.v) A
  l : RowsAt w S [.num] (nums k.snp.l) B
  e : RowsAt w S shEntry (k.ents.map Ent.da) E
theorem KepAt.turn {w w' : World} {S S' : Nat → Prop} {k : Kep} {A B E : Option Addr} (h : KepAt w S k A B E) (hs : ∀ k, S k → S' k) (hc : ∀ p : Addr, S p.block → w'.cell? p = w.cell? p) : KepAt w' S' k A B E :=
  ⟨h.v.turn hs hc, h.l.turn hs hc, h.e.turn hs hc⟩
theorem KepAt.below {w w' : World} {B0 : Nat} {k : Kep} {A B E : Option Addr} (h : KepAt w (· < B0) k A B E) (hb : Below B0 w w') : KepAt w' (· < B0) k A B E := ⟨h.v.below hb, h.l.below hb, h.e.below hb⟩
theorem KepAt.more {w : World} {B0 B1 : Nat} {k : Kep} {A B E : Option Addr} (h : KepAt w (· < B0) k A B E) (hb : B0 ≤ B1) : KepAt w (· < B1) k A B E := ⟨h.v.more hb, h.l.more hb, h.e.more hb⟩
/-- Lists are short. -/
structure Snp.Small (s : Snp) : Prop where
  v : s.v.length ≤ 1048576
  l : s.l.length ≤ 1048576
structure Ent.Small (e : Ent) : Prop where
  v : e.v.length ≤ 1048576
  l : e.l.length ≤ 1048576
structure Kep.Small (k : Kep) : Prop where
  s : k.snp.Small
  n : k.ents.length ≤ 1048576
  e : ∀ x ∈ k.ents, x.Small
theorem nums_inj {a b : List Int} (h : nums a = nums b) : a = b := by
  induction a generalizing b with
  | nil => cases b with
    | nil => rfl
    | cons c b => simp [nums] at h
  | cons c a ih => cases b with
    | nil => simp [nums] at h
    | cons d b =>
      simp only [nums, List.map_cons, List.cons.injEq, Da.int.injEq, and_true] at h
      rw [h.1, ih h.2]
theorem Ent.da_inj {a b : Ent} (h : a.da = b.da) : a = b := by
  simp only [Ent.da, List.cons.injEq, Da.int.injEq, Da.rows.injEq, Da.text.injEq, and_true] at h
  obtain ⟨h1, h2, h3, h4, h5, h6⟩ := h
  cases a; cases b
  simp only [Ent.mk.injEq]
  exact ⟨h1, h2, h3, nums_inj h4, nums_inj h5, h6⟩
theorem Snp.da_inj {a b : Snp} (h : a.da = b.da) : a = b := by
  simp only [Snp.da, List.cons.injEq, Da.int.injEq, Da.rows.injEq, Da.text.injEq, and_true] at h
  obtain ⟨h1, h2, h4, h5, h6⟩ := h
  cases a; cases b
  simp only [Snp.mk.injEq]
  exact ⟨h1, h2, nums_inj h4, nums_inj h5, h6⟩
/-- One entry of a list. -/
theorem ents_at {w : World} {S : Nat → Prop} {l : List Ent} {E : Option Addr} (h : RowsAt w S shEntry (l.map Ent.da) E) {j : Nat} (hj : j < l.length) :
    ∃ ad A c B d, E = some ad ∧ S ad.block ∧ RowsAt w S [.num] (nums l[j].v) A ∧ RowsAt w S [.num] (nums l[j].l) B ∧ ∀ i u, (l[j].cs A c B d)[i]? = some u → w.cell? (ad.add (j * 6 + i)) = some u := by
  obtain ⟨ad, e, hS, h⟩ := h (by rw [List.length_map]; omega)
  obtain ⟨vs, h1, h2⟩ := h j l[j].da (by simp [hj])
  obtain ⟨x, A, c, B, d, e1, rfl, r1, r2⟩ := Ent.open_ h1
  have := Ent.da_inj e1
  subst this
  exact ⟨ad, A, c, B, d, e, hS, r1, r2, h2⟩
/-- What is kept lies in new memory: the entries in a row of the call's own. -/
structure KepOwn (w : World) (base : Nat) (k : Kep) (A B E : Option Addr) (n : Nat) : Prop where
  v : RowsAt w (Nw w base [3]) [.num] (nums k.snp.v) A
  l : RowsAt w (Nw w base [3]) [.num] (nums k.snp.l) B
  e : ∃ xs, w.ownsRow base 29 6 (.slice E k.ents.length n) k.ents.length xs ∧ ThingsN w base [3] shEntry (k.ents.map Ent.da) xs
theorem KepOwn.at_ {w : World} {base : Nat} {k : Kep} {A B E : Option Addr} {n : Nat} (h : KepOwn w base k A B E n) : KepAt w (Nw w base [29, 3]) k A B E := by
  obtain ⟨xs, ho, ht⟩ := h.e
  exact ⟨h.v.nw_mono (Nat.le_refl _) (by simp), h.l.nw_mono (Nat.le_refl _) (by simp), rowsAt_ownN ho (by simp) ht⟩
theorem KepOwn.keeps {ts : List TypeId} {w w' : World} {base : Nat} {k : Kep} {A B E : Option Addr} {n : Nat} (h : KepOwn w base k A B E n) (hk : Keeps ts w w') (h1 : 3 ∉ ts) (h2 : 29 ∉ ts) : KepOwn w' base k A B E n := by
  obtain ⟨xs, ho, ht⟩ := h.e
  exact ⟨h.v.nw_keeps hk (by simpa using h1), h.l.nw_keeps hk (by simpa using h1), xs, ho.keeps hk h2, ht.keeps hk (by simpa using h1)⟩
/-- What is kept, copied to new memory. -/
def KepEnd (w : World) (k : Kep) (e : Ending) (w' : World) : Prop :=
  ∃ A c B d E n, e = .returned (.agg (k.cs A c B d E n).toArray) ∧ KepOwn w' w.heap.size k A B E n ∧ Below w.heap.size w w'
theorem info_entry : (Tryz.prog.info? 29).map (fun i => (i.zero, i.size, i.bytes)) = some (some (.agg #[.int .i64 0, .int .i64 0, .int .i64 0, .slice none 0 0, .slice none 0 0, .string ⟨#[]⟩]), 6, 88) := by kernel_rfl
set_option maxHeartbeats 1600000 in
theorem own_any (k : Kep) (A : Option Addr) (c : Nat) (B : Option Addr) (d : Nat) (E : Option Addr) (n : Nat) (w : World) (h : KepAt w (· < w.heap.size) k A B E) (hs : k.Small) :
    Calls Tryz.prog 20 #[.agg (k.cs A c B d E n).toArray] w (KepEnd w k) := by
  obtain ⟨i0, hi0, hz0, hz1, hz2⟩ := info_parts info_entry
  unfold Kep.cs
  have P := blk2 w 38 38 [.int .i64 k.term, .int .i64 k.vote, .int .i64 k.snp.idx, .int .i64 k.snp.term, .slice A k.snp.v.length c, .slice B k.snp.l.length d, .string (text k.snp.b), .slice E k.ents.length n] [.int .i64 0, .int .i64 0, .int .i64 0, .int .i64 0, .slice none 0 0, .slice none 0 0, .string ⟨#[]⟩, .slice none 0 0]
  have P0 := Lib.hid P.1
  have P1 := Lib.hid P.2
  have HA := Lib.hid h
  have HS := Lib.hid hs
  have hn := hs.n
  clear P h hs
  go_enter Tryz.func20, Tryz.ntmps20
  go_wp2_with fail
  refine at_below w _ (by repeat (first | with_reducible exact Below.refl _ _ | with_reducible assumption | (with_reducible refine Below.setCell ?_ (by dsimp only; (first | omega | (simp; done) | (simp; omega))) _) | (with_reducible refine Below.alloc ?_ (by (first | omega | (simp; done) | (simp; omega))) _) | with_reducible refine Below.drew ?_)) fun HBx => ?_
  refine (ownSnap_any k.snp A c B d _ ((HA.out.v.below HBx).more (by (first | omega | (simp; done) | (simp; omega)))) ((HA.out.l.below HBx).more (by (first | omega | (simp; done) | (simp; omega)))) (by have := HS.out.s.v; omega) (by have := HS.out.s.l; omega)).mono ?_
  rintro e w1 ⟨A1, c1, B1, d1, rfl, hr1, hr2, hb⟩
  have z1 := hb.size
  have R0 := Lib.hid (P0.out.below hb P0.out.lt)
  have R1 := Lib.hid (P1.out.below hb P1.out.lt)
  have HB1 := Lib.hid (HBx.trans (hb.mono (by (first | omega | (simp; done) | (simp; omega)))))
  have r1 := Lib.hid (hr1.nw_mono (base' := w.heap.size) (by (first | omega | (simp; done) | (simp; omega))) fun _ h => h)
  have r2 := Lib.hid (hr2.nw_mono (base' := w.heap.size) (by (first | omega | (simp; done) | (simp; omega))) fun _ h => h)
  clear hr1 hr2 hb HBx P0 P1
  unfold Snp.cs
  have a2 : w1.cell? ⟨w.heap.size, 2, none⟩ = some (.int .i64 k.snp.idx) := R0.out.cell 2
  have p2 : w1.frozen? ⟨w.heap.size, 2, none⟩ = false := R0.out.frozen 2
  have a3 : w1.cell? ⟨w.heap.size, 3, none⟩ = some (.int .i64 k.snp.term) := R0.out.cell 3
  have p3 : w1.frozen? ⟨w.heap.size, 3, none⟩ = false := R0.out.frozen 3
  have a4 : w1.cell? ⟨w.heap.size, 4, none⟩ = some (.slice A k.snp.v.length c) := R0.out.cell 4
  have p4 : w1.frozen? ⟨w.heap.size, 4, none⟩ = false := R0.out.frozen 4
  have a5 : w1.cell? ⟨w.heap.size, 5, none⟩ = some (.slice B k.snp.l.length d) := R0.out.cell 5
  have p5 : w1.frozen? ⟨w.heap.size, 5, none⟩ = false := R0.out.frozen 5
  have a6 : w1.cell? ⟨w.heap.size, 6, none⟩ = some (.string (text k.snp.b)) := R0.out.cell 6
  have p6 : w1.frozen? ⟨w.heap.size, 6, none⟩ = false := R0.out.frozen 6
  have a7 : w1.cell? ⟨w.heap.size, 7, none⟩ = some (.slice E k.ents.length n) := R0.out.cell 7
  have p7 : w1.frozen? ⟨w.heap.size, 7, none⟩ = false := R0.out.frozen 7
  go_wp2
  clear a2 a3 a4 a5 a6 a7 p2 p3 p4 p5 p6 p7
  go_loopw [15] (fun i wr => ∃ (j : Nat) (E' : Option Addr) (c' : Nat) (xs : List Value), j ≤ k.ents.length ∧ i = .int .i64 j ∧ Hid (Blk wr w.heap.size 38 [.int .i64 k.term, .int .i64 k.vote, .int .i64 k.snp.idx, .int .i64 k.snp.term, .slice A1 k.snp.v.length c1, .slice B1 k.snp.l.length d1, .string (text k.snp.b), .slice E' j c']) ∧ Hid (Blk wr (w.heap.size + 1) 38 [.int .i64 0, .int .i64 0, .int .i64 0, .int .i64 0, .slice none 0 0, .slice none 0 0, .string ⟨#[]⟩, .slice none 0 0]) ∧ Hid (wr.ownsRow w.heap.size 29 6 (.slice E' j c') j xs) ∧ Hid (ThingsN wr w.heap.size [3] shEntry ((k.ents.take j).map Ent.da) xs) ∧ Hid (Below w.heap.size w wr) ∧ Hid (RowsAt wr (Nw wr w.heap.size [3]) [.num] (nums k.snp.v) A1) ∧ Hid (RowsAt wr (Nw wr w.heap.size [3]) [.num] (nums k.snp.l) B1)) (fun i _ => k.ents.length - (intOf i).toNat)
  case atStart =>
    refine ⟨0, none, 0, [], Nat.zero_le _, rfl, Lib.hid ?_, Lib.hid (by repeat (first | with_reducible exact R1.out | (with_reducible refine Blk.far ?_ (by dsimp only; (first | omega | (simp; done) | (simp; omega))) _) | with_reducible refine Blk.alloc ?_ _ | with_reducible refine Blk.drew ?_)), Lib.hid (World.ownsRow_nil _ _ _ _), Lib.hid ThingsN.nil, Lib.hid (by repeat (first | with_reducible exact HB1.out | (with_reducible refine Below.setCell ?_ (by dsimp only; (first | omega | (simp; done) | (simp; omega))) _) | (with_reducible refine Below.alloc ?_ (by (first | omega | (simp; done) | (simp; omega))) _) | with_reducible refine Below.drew ?_)), Lib.hid (r1.out.nw_keeps (us := [38]) (by repeat (first | with_reducible exact Keeps.refl _ _ | (with_reducible refine Keeps.step1 ?_ (by repeat (first | with_reducible exact Blk.typ R0.out | with_reducible refine TypeAt.setCell ?_ _ _))))) (by decide)), Lib.hid (r2.out.nw_keeps (us := [38]) (by repeat (first | with_reducible exact Keeps.refl _ _ | (with_reducible refine Keeps.step1 ?_ (by repeat (first | with_reducible exact Blk.typ R0.out | with_reducible refine TypeAt.setCell ?_ _ _))))) (by decide))⟩
    have := R0.out.set_ 2 (.int .i64 k.snp.idx) |>.set_ 3 (.int .i64 k.snp.term) |>.set_ 4 (.slice A1 k.snp.v.length c1) |>.set_ 5 (.slice B1 k.snp.l.length d1) |>.set_ 6 (.string (text k.snp.b)) |>.set_ 7 (.slice none 0 0)
    simpa using this
  case round =>
    obtain ⟨j, E', c', xs, hj, rfl, Q0, Q1, HO, HT, HBw, q1, q2⟩ := hrel
    clear R0 R1 r1 r2 HB1 z1
    by_cases hlt : j < k.ents.length
    · have HT1 : Hid ((k.ents.take (j + 1)).map Ent.da = (k.ents.take j).map Ent.da ++ [(k.ents[j]).da]) := Lib.hid (by rw [List.take_succ_eq_append_getElem hlt, List.map_append]; rfl)
      obtain ⟨ad, A3, c3, B3, d3, rfl, _, e1, e2, hcell⟩ := ents_at (HA.out.e.below HBw.out) hlt
      have hsm := HS.out.e _ (List.getElem_mem hlt)
      generalize k.ents[j] = x at *
      have HC3 := Lib.hid e1
      have HC4 := Lib.hid e2
      have HSM := Lib.hid hsm
      unfold Ent.cs at hcell
      have hc0 : wr.cell? (ad.add (j * 6)) = some (.int .i64 x.idx) := hcell 0 _ rfl
      have hc1 : wr.cell? ⟨(ad.add (j * 6)).block, (ad.add (j * 6)).off + 1, none⟩ = some (.int .i64 x.term) := by rw [← add_field ad (j * 6) 1 (by decide)]; exact hcell 1 _ rfl
      have hc2 : wr.cell? ⟨(ad.add (j * 6)).block, (ad.add (j * 6)).off + 2, none⟩ = some (.int .i64 x.kind) := by rw [← add_field ad (j * 6) 2 (by decide)]; exact hcell 2 _ rfl
      have hc3 : wr.cell? ⟨(ad.add (j * 6)).block, (ad.add (j * 6)).off + 3, none⟩ = some (.slice A3 x.v.length c3) := by rw [← add_field ad (j * 6) 3 (by decide)]; exact hcell 3 _ rfl
      have hc4 : wr.cell? ⟨(ad.add (j * 6)).block, (ad.add (j * 6)).off + 4, none⟩ = some (.slice B3 x.l.length d3) := by rw [← add_field ad (j * 6) 4 (by decide)]; exact hcell 4 _ rfl
      have hc5 : wr.cell? ⟨(ad.add (j * 6)).block, (ad.add (j * 6)).off + 5, none⟩ = some (.string (text x.b)) := by rw [← add_field ad (j * 6) 5 (by decide)]; exact hcell 5 _ rfl
      have b7 : wr.cell? ⟨w.heap.size, 7, none⟩ = some (.slice E' j c') := Q0.out.cell 7
      have l0 := Q0.out.lt
      have l1 := Q1.out.lt
      clear hcell e1 e2 hsm
      have HX0 : Hid (Below wr.heap.size wr (wr.alloc (.cells #[.int .i64 x.idx, .int .i64 x.term, .int .i64 x.kind, .slice A3 x.v.length c3, .slice B3 x.l.length d3, .string (text x.b)] 29)).drew) := Lib.hid (by repeat (first | with_reducible exact Below.refl _ _ | with_reducible assumption | (with_reducible refine Below.setCell ?_ (by dsimp only; (first | omega | (simp; done) | (simp; omega))) _) | (with_reducible refine Below.alloc ?_ (by (first | omega | (simp; done) | (simp; omega))) _) | with_reducible refine Below.drew ?_))
      have C := Lib.hid (ownEntry_any x A3 c3 B3 d3 (wr.alloc (.cells #[.int .i64 x.idx, .int .i64 x.term, .int .i64 x.kind, .slice A3 x.v.length c3, .slice B3 x.l.length d3, .string (text x.b)] 29)).drew
        ((HC3.out.below (by repeat (first | with_reducible exact Below.refl _ _ | (with_reducible refine Below.setCell ?_ (by dsimp only; (first | omega | (simp; done) | (simp; omega))) _) | (with_reducible refine Below.alloc ?_ (by (first | omega | (simp; done) | (simp; omega))) _) | with_reducible refine Below.drew ?_))).more (by (first | omega | (simp; done) | (simp; omega)))) ((HC4.out.below (by repeat (first | with_reducible exact Below.refl _ _ | (with_reducible refine Below.setCell ?_ (by dsimp only; (first | omega | (simp; done) | (simp; omega))) _) | (with_reducible refine Below.alloc ?_ (by (first | omega | (simp; done) | (simp; omega))) _) | with_reducible refine Below.drew ?_))).more (by (first | omega | (simp; done) | (simp; omega)))) (by have := HSM.out.v; omega) (by have := HSM.out.l; omega))
      unfold Ent.cs at C
      have f7 : wr.frozen? ⟨w.heap.size, 7, none⟩ = false := Q0.out.frozen 7
      go_wp2_with fail
      go_region_law (first
        | (go_simp
           go_at_call 43
           refine (unhide C).mono ?_
           rintro e w3 ⟨A4, c4, B4, d4, rfl, hr3, hr4, hb⟩
           unfold Ent.cs
           have z3 : wr.heap.size + 1 ≤ w3.heap.size := by have := hb.size; simpa using this
           have z4 : w.heap.size < w3.heap.size := by omega
           have R0 := Lib.hid ((Q0.out.below HX0.out l0).below hb (by (first | omega | (simp; done) | (simp; omega))))
           have R1 := Lib.hid ((Q1.out.below HX0.out l1).below hb (by (first | omega | (simp; done) | (simp; omega))))
           have HO3 := Lib.hid ((HO.out.below_ HX0.out).below_ hb)
           have HB3 := Lib.hid ((HBw.out.trans (HX0.out.mono (by (first | omega | (simp; done) | (simp; omega))))).trans (hb.mono (by (first | omega | (simp; done) | (simp; omega)))))
           have HR3 := Lib.hid hr3
           have HR4 := Lib.hid hr4
           have HBB := Lib.hid hb
           have b9 : w3.cell? ⟨w.heap.size, 7, none⟩ = some (.slice E' j c') := R0.out.cell 7
           clear hr3 hr4 hb)
        | (refine step_appN rfl _ _ _ rfl w.heap.size 29 i0 _ 6 88 Tryz.underlying36 hi0 hz0 hz1 hz2 rfl (by decide) (.slice E' j c') j xs rfl (HO3.out.alloc _) ⟨w3.heap.size, 0, none⟩ 1 [.int .i64 x.idx, .int .i64 x.term, .int .i64 x.kind, .slice A4 x.v.length c4, .slice B4 x.l.length d4, .string (text x.b)] rfl rfl (Blk.news (Blk.new w3 29 [.int .i64 x.idx, .int .i64 x.term, .int .i64 x.kind, .slice A4 x.v.length c4, .slice B4 x.l.length d4, .string (text x.b)])) (by simp [Value.oneCell']) (by unfold maxLen; omega) (by omega) (by (first | omega | (simp; done) | (simp; omega))) ?_
           intro A5 c5 w5 HO5 HG5
           have S0 := Lib.hid ((R0.out.alloc (.cells #[.int .i64 x.idx, .int .i64 x.term, .int .i64 x.kind, .slice A4 x.v.length c4, .slice B4 x.l.length d4, .string (text x.b)] 29)).grown HG5.out (blk_own_ne R0.out HO3.out (by decide)))
           have S1 := Lib.hid ((R1.out.alloc (.cells #[.int .i64 x.idx, .int .i64 x.term, .int .i64 x.kind, .slice A4 x.v.length c4, .slice B4 x.l.length d4, .string (text x.b)] 29)).grown HG5.out (blk_own_ne R1.out HO3.out (by decide)))
           have b8 : w5.cell? ⟨w.heap.size, 7, none⟩ = some (.slice E' j c') := S0.out.cell 7
           have f8 : w5.frozen? ⟨w.heap.size, 7, none⟩ = false := S0.out.frozen 7))
      all_goals
        have T0 : Hid (Blk (w5.setCell ⟨w.heap.size, 7, none⟩ (.slice A5 (j + 1) c5)) w.heap.size 38 [.int .i64 k.term, .int .i64 k.vote, .int .i64 k.snp.idx, .int .i64 k.snp.term, .slice A1 k.snp.v.length c1, .slice B1 k.snp.l.length d1, .string (text k.snp.b), .slice A5 (j + 1) c5]) := Lib.hid (by have := S0.out.set_ 7 (.slice A5 (j + 1) c5); simpa using this)
        have T1 : Hid (Blk (w5.setCell ⟨w.heap.size, 7, none⟩ (.slice A5 (j + 1) c5)) (w.heap.size + 1) 38 _) := Lib.hid (S1.out.far (p := ⟨w.heap.size, 7, none⟩) (by dsimp only; omega) _)
        have K1 : Hid (Keeps [29, 38] w3 (w5.setCell ⟨w.heap.size, 7, none⟩ (.slice A5 (j + 1) c5))) := by
          have g1 := Keeps.alloc (ts := [29, 38]) w3 (.cells #[.int .i64 x.idx, .int .i64 x.term, .int .i64 x.kind, .slice A4 x.v.length c4, .slice B4 x.l.length d4, .string (text x.b)] 29)
          have g2 := Keeps.grown (ts := [29, 38]) (HO3.out.alloc (.cells #[.int .i64 x.idx, .int .i64 x.term, .int .i64 x.kind, .slice A4 x.v.length c4, .slice B4 x.l.length d4, .string (text x.b)] 29)) HG5.out (by simp) HG5.out.size
          exact Lib.hid ((g1.trans g2).trans (Keeps.set_ S0.out.typ (by simp) _))
        have K0 : Hid (Keeps [29, 38] wr (w5.setCell ⟨w.heap.size, 7, none⟩ (.slice A5 (j + 1) c5))) := Lib.hid (((Keeps.of_below HX0.out (Nat.le_refl _)).trans (Keeps.of_below HBB.out (Nat.le_refl _))).trans K1.out)
        have O6 : Hid ((w5.setCell ⟨w.heap.size, 7, none⟩ (.slice A5 (j + 1) c5)).ownsRow w.heap.size 29 6 (.slice A5 (j + 1) c5) (j + 1) (xs ++ [.int .i64 x.idx, .int .i64 x.term, .int .i64 x.kind, .slice A4 x.v.length c4, .slice B4 x.l.length d4, .string (text x.b)])) := Lib.hid (HO5.out.keeps (Keeps.set_ (ts := [38]) S0.out.typ (by simp) _) (by decide))
        have B6 : Hid (Below w.heap.size w (w5.setCell ⟨w.heap.size, 7, none⟩ (.slice A5 (j + 1) c5))) := Lib.hid (((HB3.out.alloc (by omega) _).grown HG5.out (by simp; omega) (own_block_ge HO3.out)).setCell (Nat.le_refl _) _)
        have M6 : Hid (ThingsN (w5.setCell ⟨w.heap.size, 7, none⟩ (.slice A5 (j + 1) c5)) w.heap.size [3] shEntry ((k.ents.take (j + 1)).map Ent.da) (xs ++ [.int .i64 x.idx, .int .i64 x.term, .int .i64 x.kind, .slice A4 x.v.length c4, .slice B4 x.l.length d4, .string (text x.b)])) := by
          have g1 := (HR3.out.nw_mono (base' := w.heap.size) (by simp; omega) fun _ h => h).nw_keeps K1.out (by decide)
          have g2 := (HR4.out.nw_mono (base' := w.heap.size) (by simp; omega) fun _ h => h).nw_keeps K1.out (by decide)
          have g3 := (HT.out.keeps K0.out (by decide)).snoc (d := x.da) (by have := HO.out.1; rw [this, List.length_map, List.length_take, Nat.min_eq_left (by omega)]; rfl) (Ent.mk_ x c4 d4 g1 g2)
          rw [HT1.out]
          exact Lib.hid g3
        have N1 := Lib.hid (q1.out.nw_keeps K0.out (by decide))
        have N2 := Lib.hid (q2.out.nw_keeps K0.out (by decide))
        clear b7 b8 b9 f7 f8 hc0 hc1 hc2 hc3 hc4 hc5 C
        go_wp2
        go_roundw
        case rel => exact ⟨j + 1, A5, c5, _, by omega, by go_num, T0, T1, O6, M6, B6, N1, N2⟩
        case measure => simp [intOf]; omega
    · have hje : j = k.ents.length := by omega
      subst hje
      have z0 := Q0.out.lt
      have z1 := Q1.out.lt
      rw [List.take_length] at HT
      have HI : Hid ((Tryz.prog.info? 38).map (·.size) = some 8) := Lib.hid (by kernel_rfl)
      go_wp2_with (first
        | (with_reducible refine wpList_load_blk rfl 38 _ rfl w.heap.size rfl Q0 (by simp) Tryz.underlying38 rfl HI ?_)
        | ((with_reducible refine wpList_store_blk rfl 38 _ _ rfl (w.heap.size + 1) [.int .i64 k.term, .int .i64 k.vote, .int .i64 k.snp.idx, .int .i64 k.snp.term, .slice A1 k.snp.v.length c1, .slice B1 k.snp.l.length d1, .string (text k.snp.b), .slice E' k.ents.length c'] rfl rfl Q1 (by simp) (by simp) HI (by simp [Value.oneCell']) ?_)
           intro w9 U))
      have U1 := Lib.hid U.out.blk
      refine bodyPost_ret (results_blk rfl _ _ (w.heap.size + 1) rfl U1 (by simp) Tryz.underlying38 rfl HI) rfl ?_
      exact ⟨A1, c1, B1, d1, E', c', rfl, ⟨q1.out.nw_keeps U.out.keeps (by decide), q2.out.nw_keeps U.out.keeps (by decide), _, HO.out.keeps U.out.keeps (by decide), HT.out.keeps U.out.keeps (by decide)⟩, U.out.below HBw.out (by omega)⟩
end Go.Proofs.YtkdmfjpfanmgmaaGreatDoor
namespace Go.Proofs.YtkdmfjpfanmgmaaGreatDoor
open Go.RowKit Le
set_option maxRecDepth 100000
set_option linter.unusedSimpArgs false
set_option linter.unusedVariables false
/-- A test's answer; what was there is as it was. -/
def TestEnd (w : World) (b : Bool) (e : Ending) (w' : World) : Prop := e = .returned (.bool b) ∧ Below w.heap.size w w'
set_option maxHeartbeats 800000 in
theorem noConfig_any (l1 l2 : List Int) (A : Option Addr) (c : Nat) (B : Option Addr) (d : Nat) (w : World) (hl1 : l1.length ≤ 1048576) (hl2 : l2.length ≤ 1048576) :
    Calls Tryz.prog 113 #[.agg #[.slice A l1.length c, .slice B l2.length d]] w (TestEnd w (decide (l1 = [] ∧ l2 = []))) := by
  have hz : (l1 = [] ∧ l2 = []) ↔ l1.length + l2.length = 0 := by rw [← List.length_eq_zero_iff, ← List.length_eq_zero_iff]; omega
  obtain ⟨b, hb⟩ : ∃ b, decide (l1 = [] ∧ l2 = []) = b := ⟨_, rfl⟩
  rw [hb]
  have hb2 : decide ((l1.length : Int) + l2.length = 0) = b := by rw [← hb]; apply decide_eq_decide.2; rw [hz]; omega
  have hb3 : ((l1.length : Int) + l2.length == 0) = b := by rw [← hb2]; rfl
  clear hb hb2 hz
  generalize l1.length = n1 at *
  generalize l2.length = n2 at *
  go_enter Tryz.func113, Tryz.ntmps113
  go_wp2
  go_ret
  exact ⟨rfl, (by repeat (first | with_reducible exact Below.refl _ _ | with_reducible assumption | (with_reducible refine Below.setCell ?_ (by dsimp only; (first | omega | (simp; done) | (simp; omega))) _) | (with_reducible refine Below.alloc ?_ (by (first | omega | (simp; done) | (simp; omega))) _) | with_reducible refine Below.drew ?_))⟩
set_option maxHeartbeats 800000 in
theorem noSnap_any (x : Snp) (A : Option Addr) (c : Nat) (B : Option Addr) (d : Nat) (w : World) (hs : x.Small) :
    Calls Tryz.prog 71 #[.agg (x.cs A c B d).toArray] w (TestEnd w (decide (x = .zero))) := by
  unfold Snp.cs
  by_cases h0 : x.idx = 0
  · have r0 := h0
    by_cases h1 : x.term = 0
    · have r1 := h1
      by_cases h2 : x.b = []
      · have e : decide (x = Snp.zero) = decide (x.v = [] ∧ x.l = []) := by
          apply decide_eq_decide.2
          cases x
          simp only [Snp.zero, Snp.mk.injEq] at *
          simp [h0, h1, h2]
        rw [e]
        rw [h0, h1, h2]
        clear e h0 h1 h2 r0 r1
        have C := fun w => Lib.hid (noConfig_any x.v x.l A c B d w hs.v hs.l)
        generalize decide (x.v = [] ∧ x.l = []) = b at *
        go_enter Tryz.func71, Tryz.ntmps71
        go_wp2_with fail
        refine at_below w _ (by repeat (first | with_reducible exact Below.refl _ _ | with_reducible assumption | (with_reducible refine Below.setCell ?_ (by dsimp only; (first | omega | (simp; done) | (simp; omega))) _) | (with_reducible refine Below.alloc ?_ (by (first | omega | (simp; done) | (simp; omega))) _) | with_reducible refine Below.drew ?_)) fun HBx => ?_
        refine (C _).out.mono ?_
        rintro e w1 ⟨rfl, hb⟩
        have HB := Lib.hid (HBx.trans (hb.mono (by (first | omega | (simp; done) | (simp; omega)))))
        clear hb HBx C
        go_wp2
        go_ret
        exact ⟨rfl, HB.out⟩
      · have e : decide (x = Snp.zero) = false := decide_eq_false (by rintro rfl; exact h2 rfl)
        rw [e]
        rw [h0, h1]
        have t : decide (x.b = []) = false := by simpa using h2
        clear e h0 h1
        go_enter Tryz.func71, Tryz.ntmps71
        go_wp2
        go_ret
        exact ⟨rfl, (by repeat (first | with_reducible exact Below.refl _ _ | with_reducible assumption | (with_reducible refine Below.setCell ?_ (by dsimp only; (first | omega | (simp; done) | (simp; omega))) _) | (with_reducible refine Below.alloc ?_ (by (first | omega | (simp; done) | (simp; omega))) _) | with_reducible refine Below.drew ?_))⟩
    · have e : decide (x = Snp.zero) = false := decide_eq_false (by rintro rfl; exact h1 rfl)
      rw [e]
      rw [h0]
      have t : (x.term == 0) = false := by simpa using h1
      clear e h0 h1
      go_enter Tryz.func71, Tryz.ntmps71
      go_wp2
      go_ret
      exact ⟨rfl, (by repeat (first | with_reducible exact Below.refl _ _ | with_reducible assumption | (with_reducible refine Below.setCell ?_ (by dsimp only; (first | omega | (simp; done) | (simp; omega))) _) | (with_reducible refine Below.alloc ?_ (by (first | omega | (simp; done) | (simp; omega))) _) | with_reducible refine Below.drew ?_))⟩
  · have e : decide (x = Snp.zero) = false := decide_eq_false (by rintro rfl; exact h0 rfl)
    rw [e]
    have t : (x.idx == 0) = false := by simpa using h0
    clear e h0
    go_enter Tryz.func71, Tryz.ntmps71
    go_wp2
    go_ret
    exact ⟨rfl, (by repeat (first | with_reducible exact Below.refl _ _ | with_reducible assumption | (with_reducible refine Below.setCell ?_ (by dsimp only; (first | omega | (simp; done) | (simp; omega))) _) | (with_reducible refine Below.alloc ?_ (by (first | omega | (simp; done) | (simp; omega))) _) | with_reducible refine Below.drew ?_))⟩
set_option maxHeartbeats 800000 in
theorem noEntry_any (x : Ent) (A : Option Addr) (c : Nat) (B : Option Addr) (d : Nat) (w : World) (hs : x.Small) :
    Calls Tryz.prog 86 #[.agg (x.cs A c B d).toArray] w (TestEnd w (decide (x = .zero))) := by
  unfold Ent.cs
  by_cases h0 : x.idx = 0
  · have r0 := h0
    by_cases h1 : x.term = 0
    · have r1 := h1
      by_cases h2 : x.kind = 0
      · have r2 := h2
        by_cases h3 : x.b = []
        · have e : decide (x = Ent.zero) = decide (x.v = [] ∧ x.l = []) := by
            apply decide_eq_decide.2
            cases x
            simp only [Ent.zero, Ent.mk.injEq] at *
            simp [h0, h1, h2, h3]
          rw [e]
          rw [h0, h1, h2, h3]
          clear e h0 h1 h2 h3 r0 r1 r2
          have C := fun w => Lib.hid (noConfig_any x.v x.l A c B d w hs.v hs.l)
          generalize decide (x.v = [] ∧ x.l = []) = b at *
          go_enter Tryz.func86, Tryz.ntmps86
          go_wp2_with fail
          refine at_below w _ (by repeat (first | with_reducible exact Below.refl _ _ | with_reducible assumption | (with_reducible refine Below.setCell ?_ (by dsimp only; (first | omega | (simp; done) | (simp; omega))) _) | (with_reducible refine Below.alloc ?_ (by (first | omega | (simp; done) | (simp; omega))) _) | with_reducible refine Below.drew ?_)) fun HBx => ?_
          refine (C _).out.mono ?_
          rintro e w1 ⟨rfl, hb⟩
          have HB := Lib.hid (HBx.trans (hb.mono (by (first | omega | (simp; done) | (simp; omega)))))
          clear hb HBx C
          go_wp2
          go_ret
          exact ⟨rfl, HB.out⟩
        · have e : decide (x = Ent.zero) = false := decide_eq_false (by rintro rfl; exact h3 rfl)
          rw [e]
          rw [h0, h1, h2]
          have t : decide (x.b = []) = false := by simpa using h3
          clear e h0 h1 h2
          go_enter Tryz.func86, Tryz.ntmps86
          go_wp2
          go_ret
          exact ⟨rfl, (by repeat (first | with_reducible exact Below.refl _ _ | with_reducible assumption | (with_reducible refine Below.setCell ?_ (by dsimp only; (first | omega | (simp; done) | (simp; omega))) _) | (with_reducible refine Below.alloc ?_ (by (first | omega | (simp; done) | (simp; omega))) _) | with_reducible refine Below.drew ?_))⟩
      · have e : decide (x = Ent.zero) = false := decide_eq_false (by rintro rfl; exact h2 rfl)
        rw [e]
        rw [h0, h1]
        have t : (x.kind == 0) = false := by simpa using h2
        clear e h0 h1 h2
        go_enter Tryz.func86, Tryz.ntmps86
        go_wp2
        go_ret
        exact ⟨rfl, (by repeat (first | with_reducible exact Below.refl _ _ | with_reducible assumption | (with_reducible refine Below.setCell ?_ (by dsimp only; (first | omega | (simp; done) | (simp; omega))) _) | (with_reducible refine Below.alloc ?_ (by (first | omega | (simp; done) | (simp; omega))) _) | with_reducible refine Below.drew ?_))⟩
    · have e : decide (x = Ent.zero) = false := decide_eq_false (by rintro rfl; exact h1 rfl)
      rw [e]
      rw [h0]
      have t : (x.term == 0) = false := by simpa using h1
      clear e h0 h1
      go_enter Tryz.func86, Tryz.ntmps86
      go_wp2
      go_ret
      exact ⟨rfl, (by repeat (first | with_reducible exact Below.refl _ _ | with_reducible assumption | (with_reducible refine Below.setCell ?_ (by dsimp only; (first | omega | (simp; done) | (simp; omega))) _) | (with_reducible refine Below.alloc ?_ (by (first | omega | (simp; done) | (simp; omega))) _) | with_reducible refine Below.drew ?_))⟩
  · have e : decide (x = Ent.zero) = false := decide_eq_false (by rintro rfl; exact h0 rfl)
    rw [e]
    have t : (x.idx == 0) = false := by simpa using h0
    clear e h0
    go_enter Tryz.func86, Tryz.ntmps86
    go_wp2
    go_ret
    exact ⟨rfl, (by repeat (first | with_reducible exact Below.refl _ _ | with_reducible assumption | (with_reducible refine Below.setCell ?_ (by dsimp only; (first | omega | (simp; done) | (simp; omega))) _) | (with_reducible refine Below.alloc ?_ (by (first | omega | (simp; done) | (simp; omega))) _) | with_reducible refine Below.drew ?_))⟩
end Go.Proofs.YtkdmfjpfanmgmaaGreatDoor
namespace Go.Proofs.YtkdmfjpfanmgmaaGreatDoor
open Go.RowKit Le
set_option maxRecDepth 100000
set_option linter.unusedSimpArgs false
set_option linter.unusedVariables false
theorem itake_ne {l1 l2 : List Int} {j : Nat} (h1 : j < l1.length) (h2 : j < l2.length) (h : (l1[j]'h1) ≠ (l2[j]'h2)) : l1 ≠ l2 := by
  rintro rfl
  exact h rfl
theorem itake_snoc_eq {l1 l2 : List Int} {j : Nat} (h1 : j < l1.length) (h2 : j < l2.length) (h : l1.take j = l2.take j) (he : (l1[j]'h1) = (l2[j]'h2)) : l1.take (j + 1) = l2.take (j + 1) := by
  rw [List.take_succ_eq_append_getElem h1, List.take_succ_eq_append_getElem h2, h, he]
theorem i64s_at (l : List Int) (i : Nat) (h : i < l.length) : (i64s l)[i]? = some (.int .i64 (l[i]'h)) := by simp [i64s, h]
theorem below_drewN (w : World) (m : Nat) : Below w.heap.size w (w.drewN m) := by
  induction m with
  | zero => exact Below.refl _ _
  | succ m ih => exact ih.drew
set_option maxHeartbeats 1600000 in
theorem sets_any (A1 A2 : Option Addr) (c1 c2 : Nat) (l1 l2 : List Int) (w : World) (h1 : RowsAt w (· < w.heap.size) [.num] (nums l1) A1) (h2 : RowsAt w (· < w.heap.size) [.num] (nums l2) A2) (hn : l1.length ≤ 1048576) (hn2 : l2.length ≤ 1048576) :
    Calls Tryz.prog 85 #[.slice A1 l1.length c1, .slice A2 l2.length c2] w (TestEnd w (decide (l1 = l2))) := by
  replace h1 := h1.lt_reads
  replace h2 := h2.lt_reads
  generalize e1 : l1.length = n1 at *
  generalize e2 : l2.length = n2 at *
  have L1 := Lib.hid e1
  have L2 := Lib.hid e2
  clear e1 e2
  by_cases hne : n1 = n2
  · subst hne
    go_enter Tryz.func85, Tryz.ntmps85
    go_wp2
    go_loopw [5] (fun i wr => ∃ (j m : Nat), j ≤ n1 ∧ i = .int .i64 j ∧ wr = w.drewN m ∧ Hid (l1.take j = l2.take j)) (fun i _ => n1 - (intOf i).toNat)
    case atStart => exact ⟨0, 0, Nat.zero_le _, rfl, rfl, Lib.hid rfl⟩
    case round =>
      obtain ⟨j, m, hj, rfl, rfl, HE⟩ := hrel
      by_cases hlt : j < n1
      · obtain ⟨a1, hA1, _, hc1⟩ := h1.2 (by omega)
        obtain ⟨a2, hA2, _, hc2⟩ := h2.2 (by omega)
        subst hA1
        subst hA2
        have j1 : j < l1.length := by have := L1.out; omega
        have j2 : j < l2.length := by have := L2.out; omega
        have k1 : w.cell? (a1.add j) = some (.int .i64 (l1[j]'j1)) := hc1 j _ (i64s_at l1 j j1)
        have k2 : w.cell? (a2.add j) = some (.int .i64 (l2[j]'j2)) := hc2 j _ (i64s_at l2 j j2)
        obtain ⟨X, HX⟩ : ∃ X, Hid ((l1[j]'j1) = X) := ⟨_, Lib.hid rfl⟩
        obtain ⟨Y, HY⟩ : ∃ Y, Hid ((l2[j]'j2) = Y) := ⟨_, Lib.hid rfl⟩
        rw [HX.out] at k1
        rw [HY.out] at k2
        have p1 : (j : Int) < (n1 : Int) := by omega
        clear hc1 hc2 h1 h2
        by_cases hXY : X = Y
        · subst hXY
          have HS := Lib.hid (itake_snoc_eq j1 j2 HE.out (HX.out.trans HY.out.symm))
          go_wp2
          go_quiet (fail)
          go_wp2
          go_roundw
          case rel => exact ⟨j + 1, _, by omega, by go_num, rfl, HS⟩
          case measure => simp [intOf]; omega
        · have HN := Lib.hid (itake_ne j1 j2 (fun h => hXY (by rw [← HX.out, ← HY.out, h])))
          have t1 : (X == Y) = false := by simpa using hXY
          have t2 : (X != Y) = true := by simpa using hXY
          go_wp2
          go_quiet (fail)
          go_wp2
          go_ret
          exact ⟨by rw [decide_eq_false HN.out]; rfl, by rw [World.drewN_drewN]; exact below_drewN _ _⟩
      · obtain rfl : j = n1 := by omega
        have HQ : Hid (l1 = l2) := by
          have h := HE.out
          rw [List.take_of_length_le (by have := L1.out; omega), List.take_of_length_le (by have := L2.out; omega)] at h
          exact Lib.hid h
        go_wp2
        go_ret
        exact ⟨by rw [decide_eq_true HQ.out]; rfl, below_drewN _ _⟩
  · have HN : Hid (l1 ≠ l2) := Lib.hid (fun h => hne (by rw [← L1.out, ← L2.out, h]))
    have t0 : ¬ (n1 : Int) = (n2 : Int) := by omega
    have t1 : ((n1 : Int) == (n2 : Int)) = false := by simpa using t0
    have t2 : ((n1 : Int) != (n2 : Int)) = true := by simpa using t0
    clear hne
    go_enter Tryz.func85, Tryz.ntmps85
    go_wp2
    go_ret
    exact ⟨by rw [decide_eq_false HN.out]; rfl, Below.refl _ _⟩
set_option maxHeartbeats 1600000 in
theorem Configs_any (l1 l2 m1 m2 : List Int) (A1 B1 A2 B2 : Option Addr) (c1 d1 c2 d2 : Nat) (w : World) (h1 : RowsAt w (· < w.heap.size) [.num] (nums l1) A1) (h2 : RowsAt w (· < w.heap.size) [.num] (nums l2) B1) (h3 : RowsAt w (· < w.heap.size) [.num] (nums m1) A2) (h4 : RowsAt w (· < w.heap.size) [.num] (nums m2) B2)
    (n1 : l1.length ≤ 1048576) (n2 : l2.length ≤ 1048576) (n3 : m1.length ≤ 1048576) (n4 : m2.length ≤ 1048576) :
    Calls Tryz.prog 47 #[.agg #[.slice A1 l1.length c1, .slice B1 l2.length d1], .agg #[.slice A2 m1.length c2, .slice B2 m2.length d2]] w (TestEnd w (decide (l1 = m1 ∧ l2 = m2))) := by
  have H1 := Lib.hid h1
  have H2 := Lib.hid h2
  have H3 := Lib.hid h3
  have H4 := Lib.hid h4
  have P := blk2 w 27 27 [.slice A1 l1.length c1, .slice B1 l2.length d1] [.slice A2 m1.length c2, .slice B2 m2.length d2]
  have P0 := Lib.hid P.1
  have P1 := Lib.hid P.2
  clear h1 h2 h3 h4 P
  by_cases hb : l1 = m1
  · have he : decide (l1 = m1 ∧ l2 = m2) = decide (l2 = m2) := by simp [hb]
    rw [he]
    generalize hb0 : decide (l2 = m2) = b at *
    replace hb0 := Lib.hid hb0
    have HD : Hid (decide (l1 = m1) = true) := Lib.hid (decide_eq_true hb)
    clear he hb
    go_enter Tryz.func47, Tryz.ntmps47
    go_wp2_with fail
    refine at_below w _ (by repeat (first | with_reducible exact Below.refl _ _ | with_reducible assumption | (with_reducible refine Below.setCell ?_ (by dsimp only; (first | omega | (simp; done) | (simp; omega))) _) | (with_reducible refine Below.alloc ?_ (by (first | omega | (simp; done) | (simp; omega))) _) | with_reducible refine Below.drew ?_)) fun HBx => ?_
    refine (sets_any A1 A2 c1 c2 l1 m1 _ ((H1.out.below HBx).more (by (first | omega | (simp; done) | (simp; omega)))) ((H3.out.below HBx).more (by (first | omega | (simp; done) | (simp; omega)))) n1 n3).mono ?_
    rw [HD.out]
    rintro e w1 ⟨rfl, hb⟩
    have z1 : w.heap.size + 1 + 1 ≤ w1.heap.size := by have := hb.size; simpa using this
    have HB1 := Lib.hid (HBx.trans (hb.mono (by (first | omega | (simp; done) | (simp; omega)))))
    have R0 := Lib.hid (P0.out.below hb P0.out.lt)
    have R1 := Lib.hid (P1.out.below hb P1.out.lt)
    have a0 : w1.cell? ⟨w.heap.size, 1, none⟩ = some (.slice B1 l2.length d1) := R0.out.cell 1
    have a1 : w1.cell? ⟨w.heap.size + 1, 1, none⟩ = some (.slice B2 m2.length d2) := R1.out.cell 1
    clear hb HBx
    go_wp2_with fail
    refine (sets_any B1 B2 d1 d2 l2 m2 _ ((H2.out.below HB1.out).more (by (first | omega | (simp; done) | (simp; omega)))) ((H4.out.below HB1.out).more (by (first | omega | (simp; done) | (simp; omega)))) n2 n4).mono ?_
    rw [hb0.out]
    rintro e w2 ⟨rfl, hb⟩
    have HB2 := Lib.hid (HB1.out.trans (hb.mono (by (first | omega | (simp; done) | (simp; omega)))))
    clear hb
    go_wp2
    go_ret
    exact ⟨rfl, HB2.out⟩
  · have he : decide (l1 = m1 ∧ l2 = m2) = false := by simp [hb]
    rw [he]
    have HD : Hid (decide (l1 = m1) = false) := Lib.hid (decide_eq_false hb)
    clear he hb
    go_enter Tryz.func47, Tryz.ntmps47
    go_wp2_with fail
    refine at_below w _ (by repeat (first | with_reducible exact Below.refl _ _ | with_reducible assumption | (with_reducible refine Below.setCell ?_ (by dsimp only; (first | omega | (simp; done) | (simp; omega))) _) | (with_reducible refine Below.alloc ?_ (by (first | omega | (simp; done) | (simp; omega))) _) | with_reducible refine Below.drew ?_)) fun HBx => ?_
    refine (sets_any A1 A2 c1 c2 l1 m1 _ ((H1.out.below HBx).more (by (first | omega | (simp; done) | (simp; omega)))) ((H3.out.below HBx).more (by (first | omega | (simp; done) | (simp; omega)))) n1 n3).mono ?_
    rw [HD.out]
    rintro e w1 ⟨rfl, hb⟩
    have HB1 := Lib.hid (HBx.trans (hb.mono (by (first | omega | (simp; done) | (simp; omega)))))
    clear hb HBx
    go_wp2
    go_ret
    exact ⟨rfl, HB1.out⟩
set_option maxHeartbeats 1600000 in
theorem Snaps_any (x y : Snp) (A : Option Addr) (c : Nat) (B : Option Addr) (d : Nat) (A' : Option Addr) (c' : Nat) (B' : Option Addr) (d' : Nat) (w : World)
    (h1 : RowsAt w (· < w.heap.size) [.num] (nums x.v) A) (h2 : RowsAt w (· < w.heap.size) [.num] (nums x.l) B) (h3 : RowsAt w (· < w.heap.size) [.num] (nums y.v) A') (h4 : RowsAt w (· < w.heap.size) [.num] (nums y.l) B') (hs : x.Small) (hs' : y.Small) :
    Calls Tryz.prog 25 #[.agg (x.cs A c B d).toArray, .agg (y.cs A' c' B' d').toArray] w (TestEnd w (decide (x = y))) := by
  unfold Snp.cs
  have H1 := Lib.hid h1
  have H2 := Lib.hid h2
  have H3 := Lib.hid h3
  have H4 := Lib.hid h4
  clear h1 h2 h3 h4
  by_cases h0 : x.idx = y.idx
  · have r0 := h0
    by_cases h1 : x.term = y.term
    · have r1 := h1
      by_cases h2 : x.b = y.b
      · have e : decide (x = y) = decide (x.v = y.v ∧ x.l = y.l) := by
          apply decide_eq_decide.2
          cases x
          cases y
          simp only [Snp.mk.injEq] at *
          simp [h0, h1, h2]
        rw [e]
        rw [h0, h1, h2]
        clear e h0 h1 h2 r0 r1
        generalize hb0 : decide (x.v = y.v ∧ x.l = y.l) = b at *
        replace hb0 := Lib.hid hb0
        go_enter Tryz.func25, Tryz.ntmps25
        go_wp2_with fail
        refine at_below w _ (by repeat (first | with_reducible exact Below.refl _ _ | with_reducible assumption | (with_reducible refine Below.setCell ?_ (by dsimp only; (first | omega | (simp; done) | (simp; omega))) _) | (with_reducible refine Below.alloc ?_ (by (first | omega | (simp; done) | (simp; omega))) _) | with_reducible refine Below.drew ?_)) fun HBx => ?_
        refine (Configs_any x.v x.l y.v y.l A B A' B' c d c' d' _ ((H1.out.below HBx).more (by (first | omega | (simp; done) | (simp; omega)))) ((H2.out.below HBx).more (by (first | omega | (simp; done) | (simp; omega)))) ((H3.out.below HBx).more (by (first | omega | (simp; done) | (simp; omega)))) ((H4.out.below HBx).more (by (first | omega | (simp; done) | (simp; omega)))) hs.v hs.l hs'.v hs'.l).mono ?_
        rw [hb0.out]
        rintro e w1 ⟨rfl, hb⟩
        have HB := Lib.hid (HBx.trans (hb.mono (by (first | omega | (simp; done) | (simp; omega)))))
        clear hb HBx
        go_wp2
        go_ret
        exact ⟨rfl, HB.out⟩
      · have e : decide (x = y) = false := decide_eq_false (by rintro rfl; exact h2 rfl)
        rw [e]
        rw [h0, h1]
        have t0 : text x.b ≠ text y.b := fun h => h2 (by have := congrArg ByteArray.toList h; rwa [text_toList, text_toList] at this)
        have t1 : (x.b == y.b) = false := by simpa using h2
        clear e h0 h1
        go_enter Tryz.func25, Tryz.ntmps25
        go_wp2
        go_ret
        exact ⟨rfl, (by repeat (first | with_reducible exact Below.refl _ _ | with_reducible assumption | (with_reducible refine Below.setCell ?_ (by dsimp only; (first | omega | (simp; done) | (simp; omega))) _) | (with_reducible refine Below.alloc ?_ (by (first | omega | (simp; done) | (simp; omega))) _) | with_reducible refine Below.drew ?_))⟩
    · have e : decide (x = y) = false := decide_eq_false (by rintro rfl; exact h1 rfl)
      rw [e]
      rw [h0]
      have t : (x.term == y.term) = false := by simpa using h1
      clear e h0 h1
      go_enter Tryz.func25, Tryz.ntmps25
      go_wp2
      go_ret
      exact ⟨rfl, (by repeat (first | with_reducible exact Below.refl _ _ | with_reducible assumption | (with_reducible refine Below.setCell ?_ (by dsimp only; (first | omega | (simp; done) | (simp; omega))) _) | (with_reducible refine Below.alloc ?_ (by (first | omega | (simp; done) | (simp; omega))) _) | with_reducible refine Below.drew ?_))⟩
  · have e : decide (x = y) = false := decide_eq_false (by rintro rfl; exact h0 rfl)
    rw [e]
    have t : (x.idx == y.idx) = false := by simpa using h0
    clear e h0
    go_enter Tryz.func25, Tryz.ntmps25
    go_wp2
    go_ret
    exact ⟨rfl, (by repeat (first | with_reducible exact Below.refl _ _ | with_reducible assumption | (with_reducible refine Below.setCell ?_ (by dsimp only; (first | omega | (simp; done) | (simp; omega))) _) | (with_reducible refine Below.alloc ?_ (by (first | omega | (simp; done) | (simp; omega))) _) | with_reducible refine Below.drew ?_))⟩
set_option maxHeartbeats 1600000 in
theorem Entries_any (x y : Ent) (A : Option Addr) (c : Nat) (B : Option Addr) (d : Nat) (A' : Option Addr) (c' : Nat) (B' : Option Addr) (d' : Nat) (w : World)
    (h1 : RowsAt w (· < w.heap.size) [.num] (nums x.v) A) (h2 : RowsAt w (· < w.heap.size) [.num] (nums x.l) B) (h3 : RowsAt w (· < w.heap.size) [.num] (nums y.v) A') (h4 : RowsAt w (· < w.heap.size) [.num] (nums y.l) B') (hs : x.Small) (hs' : y.Small) :
    Calls Tryz.prog 26 #[.agg (x.cs A c B d).toArray, .agg (y.cs A' c' B' d').toArray] w (TestEnd w (decide (x = y))) := by
  unfold Ent.cs
  have H1 := Lib.hid h1
  have H2 := Lib.hid h2
  have H3 := Lib.hid h3
  have H4 := Lib.hid h4
  clear h1 h2 h3 h4
  by_cases h0 : x.idx = y.idx
  · have r0 := h0
    by_cases h1 : x.term = y.term
    · have r1 := h1
      by_cases h2 : x.kind = y.kind
      · have r2 := h2
        by_cases h3 : x.b = y.b
        · have e : decide (x = y) = decide (x.v = y.v ∧ x.l = y.l) := by
            apply decide_eq_decide.2
            cases x
            cases y
            simp only [Ent.mk.injEq] at *
            simp [h0, h1, h2, h3]
          rw [e]
          rw [h0, h1, h2, h3]
          clear e h0 h1 h2 h3 r0 r1 r2
          generalize hb0 : decide (x.v = y.v ∧ x.l = y.l) = b at *
          replace hb0 := Lib.hid hb0
          go_enter Tryz.func26, Tryz.ntmps26
          go_wp2_with fail
          refine at_below w _ (by repeat (first | with_reducible exact Below.refl _ _ | with_reducible assumption | (with_reducible refine Below.setCell ?_ (by dsimp only; (first | omega | (simp; done) | (simp; omega))) _) | (with_reducible refine Below.alloc ?_ (by (first | omega | (simp; done) | (simp; omega))) _) | with_reducible refine Below.drew ?_)) fun HBx => ?_
          refine (Configs_any x.v x.l y.v y.l A B A' B' c d c' d' _ ((H1.out.below HBx).more (by (first | omega | (simp; done) | (simp; omega)))) ((H2.out.below HBx).more (by (first | omega | (simp; done) | (simp; omega)))) ((H3.out.below HBx).more (by (first | omega | (simp; done) | (simp; omega)))) ((H4.out.below HBx).more (by (first | omega | (simp; done) | (simp; omega)))) hs.v hs.l hs'.v hs'.l).mono ?_
          rw [hb0.out]
          rintro e w1 ⟨rfl, hb⟩
          have HB := Lib.hid (HBx.trans (hb.mono (by (first | omega | (simp; done) | (simp; omega)))))
          clear hb HBx
          go_wp2
          go_ret
          exact ⟨rfl, HB.out⟩
        · have e : decide (x = y) = false := decide_eq_false (by rintro rfl; exact h3 rfl)
          rw [e]
          rw [h0, h1, h2]
          have t0 : text x.b ≠ text y.b := fun h => h3 (by have := congrArg ByteArray.toList h; rwa [text_toList, text_toList] at this)
          have t1 : (x.b == y.b) = false := by simpa using h3
          clear e h0 h1 h2
          go_enter Tryz.func26, Tryz.ntmps26
          go_wp2
          go_ret
          exact ⟨rfl, (by repeat (first | with_reducible exact Below.refl _ _ | with_reducible assumption | (with_reducible refine Below.setCell ?_ (by dsimp only; (first | omega | (simp; done) | (simp; omega))) _) | (with_reducible refine Below.alloc ?_ (by (first | omega | (simp; done) | (simp; omega))) _) | with_reducible refine Below.drew ?_))⟩
      · have e : decide (x = y) = false := decide_eq_false (by rintro rfl; exact h2 rfl)
        rw [e]
        rw [h0, h1]
        have t : (x.kind == y.kind) = false := by simpa using h2
        clear e h0 h1 h2
        go_enter Tryz.func26, Tryz.ntmps26
        go_wp2
        go_ret
        exact ⟨rfl, (by repeat (first | with_reducible exact Below.refl _ _ | with_reducible assumption | (with_reducible refine Below.setCell ?_ (by dsimp only; (first | omega | (simp; done) | (simp; omega))) _) | (with_reducible refine Below.alloc ?_ (by (first | omega | (simp; done) | (simp; omega))) _) | with_reducible refine Below.drew ?_))⟩
    · have e : decide (x = y) = false := decide_eq_false (by rintro rfl; exact h1 rfl)
      rw [e]
      rw [h0]
      have t : (x.term == y.term) = false := by simpa using h1
      clear e h0 h1
      go_enter Tryz.func26, Tryz.ntmps26
      go_wp2
      go_ret
      exact ⟨rfl, (by repeat (first | with_reducible exact Below.refl _ _ | with_reducible assumption | (with_reducible refine Below.setCell ?_ (by dsimp only; (first | omega | (simp; done) | (simp; omega))) _) | (with_reducible refine Below.alloc ?_ (by (first | omega | (simp; done) | (simp; omega))) _) | with_reducible refine Below.drew ?_))⟩
  · have e : decide (x = y) = false := decide_eq_false (by rintro rfl; exact h0 rfl)
    rw [e]
    have t : (x.idx == y.idx) = false := by simpa using h0
    clear e h0
    go_enter Tryz.func26, Tryz.ntmps26
    go_wp2
    go_ret
    exact ⟨rfl, (by repeat (first | with_reducible exact Below.refl _ _ | with_reducible assumption | (with_reducible refine Below.setCell ?_ (by dsimp only; (first | omega | (simp; done) | (simp; omega))) _) | (with_reducible refine Below.alloc ?_ (by (first | omega | (simp; done) | (simp; omega))) _) | with_reducible refine Below.drew ?_))⟩
end Go.Proofs.YtkdmfjpfanmgmaaGreatDoor
namespace Go.Proofs.YtkdmfjpfanmgmaaGreatDoor
open Go.RowKit Le
set_option maxRecDepth 100000
set_option linter.unusedSimpArgs false
set_option linter.unusedVariables false
/-- The things in a row's cells; what they lead to lies below B. -/
def ThingsO (w : World) (B : Nat) (sh : List Sh) (ds : List (List Da)) (xs : List Value) : Prop :=
  ∀ (j : Nat) (d : List Da), ds[j]? = some d → ∃ vs, Cels w (· < B) sh d vs ∧ ∀ (i : Nat) (u : Value), vs[i]? = some u → xs[j * sh.length + i]? = some u
section
variable {w w' : World} {B : Nat} {sh : List Sh} {ds : List (List Da)} {xs vs : List Value}
theorem ThingsO.nil : ThingsO w B sh [] xs := fun j d h => by simp at h
theorem ThingsO.below (h : ThingsO w B sh ds xs) (hb : Below B w w') : ThingsO w' B sh ds xs := fun j d hj => by
  obtain ⟨vs, h1, h2⟩ := h j d hj
  exact ⟨vs, h1.below hb, h2⟩
theorem ThingsO.more {B' : Nat} (h : ThingsO w B sh ds xs) (hb : B ≤ B') : ThingsO w B' sh ds xs := fun j d hj => by
  obtain ⟨vs, h1, h2⟩ := h j d hj
  exact ⟨vs, h1.more hb, h2⟩
theorem ThingsO.snoc {d : List Da} (h : ThingsO w B sh ds xs) (hx : xs.length = ds.length * sh.length) (hv : Cels w (· < B) sh d vs) : ThingsO w B sh (ds ++ [d]) (xs ++ vs) := fun j d' hj => by
  by_cases hlt : j < ds.length
  · rw [List.getElem?_append_left hlt] at hj
    obtain ⟨vs', h1, h2⟩ := h j d' hj
    refine ⟨vs', h1, fun i u hu => ?_⟩
    have h3 := h2 i u hu
    have h4 : j * sh.length + i < xs.length := by
      rcases Nat.lt_or_ge (j * sh.length + i) xs.length with h4 | h4
      · exact h4
      · rw [List.getElem?_eq_none h4] at h3; cases h3
    rw [List.getElem?_append_left h4]
    exact h3
  · have hje : j = ds.length := by
      rcases Nat.lt_or_ge j (ds.length + 1) with h4 | h4
      · omega
      · rw [List.getElem?_eq_none (by simp; omega)] at hj; cases hj
    subst hje
    rw [List.getElem?_append_right (Nat.le_refl _), Nat.sub_self] at hj
    simp only [List.getElem?_cons_zero, Option.some.injEq] at hj
    subst hj
    refine ⟨vs, hv, fun i u hu => ?_⟩
    rw [List.getElem?_append_right (by omega), hx, Nat.add_sub_cancel_left]
    exact hu
end
/-- A new block as a row of one thing. -/
theorem own_new1 (w : World) (t : TypeId) (cs : List Value) (base : Nat) (hb : base ≤ w.heap.size) : (w.alloc (.cells cs.toArray t)).ownsRow base t cs.length (.slice (some ⟨w.heap.size, 0, none⟩) 1 1) 1 cs :=
  ⟨by simp, .inr ⟨w.heap.size, 1, cs.toArray, rfl, hb, heap_alloc_new w _, Nat.le_refl _, by simp [maxLen], by simp, by simp⟩⟩
theorem info_record : (Tryz.prog.info? 33).map (fun i => (i.zero, i.size, i.bytes)) = some (some (.agg #[.int .i64 0, .int .i64 0, .int .i64 0, .int .i64 0, .int .i64 0, .int .i64 0, .slice none 0 0, .slice none 0 0, .string ⟨#[]⟩, .int .i64 0, .int .i64 0, .int .i64 0, .slice none 0 0, .slice none 0 0, .string ⟨#[]⟩]), 15, 200) := by kernel_rfl
/-- A list of records. -/
def RecsEnd (w : World) (l : List Rcd) (e : Ending) (w' : World) : Prop :=
  ∃ A c, e = .returned (.slice A l.length c) ∧ RowsAt w' (· < w'.heap.size) shRecord (l.map Rcd.da) A ∧ (∀ ad, A = some ad → ∃ g, ad = ⟨g, 0, none⟩) ∧ Below w.heap.size w w'
theorem cels_vote {w : World} {S : Nat → Prop} (t v : Int) : Cels w S shRecord (Rcd.ofVote t v).da [.int .i64 1, .int .i64 t, .int .i64 v, .int .i64 0, .int .i64 0, .int .i64 0, .slice none 0 0, .slice none 0 0, .string ⟨#[]⟩, .int .i64 0, .int .i64 0, .int .i64 0, .slice none 0 0, .slice none 0 0, .string ⟨#[]⟩] := Rcd.mk_ (.ofVote t v) 0 0 0 0 RowsAt.nil RowsAt.nil RowsAt.nil RowsAt.nil (A := none) (B := none) (A' := none) (B' := none)
theorem cels_snap {w : World} {S : Nat → Prop} (s : Snp) {A B : Option Addr} (c d : Nat) (h1 : RowsAt w S [.num] (nums s.v) A) (h2 : RowsAt w S [.num] (nums s.l) B) : Cels w S shRecord (Rcd.ofSnp s).da [.int .i64 4, .int .i64 0, .int .i64 0, .int .i64 0, .int .i64 0, .int .i64 0, .slice none 0 0, .slice none 0 0, .string ⟨#[]⟩, .int .i64 0, .int .i64 s.idx, .int .i64 s.term, .slice A s.v.length c, .slice B s.l.length d, .string (text s.b)] := Rcd.mk_ (.ofSnp s) 0 0 c d RowsAt.nil RowsAt.nil h1 h2 (A := none) (B := none)
theorem cels_ent {w : World} {S : Nat → Prop} (x : Ent) {A B : Option Addr} (c d : Nat) (h1 : RowsAt w S [.num] (nums x.v) A) (h2 : RowsAt w S [.num] (nums x.l) B) : Cels w S shRecord (Rcd.ofEnt x).da [.int .i64 2, .int .i64 0, .int .i64 0, .int .i64 x.idx, .int .i64 x.term, .int .i64 x.kind, .slice A x.v.length c, .slice B x.l.length d, .string (text x.b), .int .i64 0, .int .i64 0, .int .i64 0, .slice none 0 0, .slice none 0 0, .string ⟨#[]⟩] := Rcd.mk_ (.ofEnt x) c d 0 0 h1 h2 RowsAt.nil RowsAt.nil (A' := none) (B' := none)
theorem recs_len (k : Kep) : (recs k).length ≤ k.ents.length + 2 := by
  unfold recs
  split <;> simp <;> omega
end Go.Proofs.YtkdmfjpfanmgmaaGreatDoor
