/- The walks of the copies of entries and snapshots. Printed by mkfold4.py. -/
import Derived.Test.YtkdmfjpfanmgmaaFold3
namespace Go.Proofs.Ytkdmfjpfanmgmaa
open Go.RowKit Le
set_option maxRecDepth 100000
set_option linter.unusedSimpArgs false
set_option linter.unusedVariables false

theorem blk2 (w : World) (t0 t1 : TypeId) (c0 c1 : List Value) : Blk ((w.alloc (.cells c0.toArray t0)).alloc (.cells c1.toArray t1)) w.heap.size t0 c0 ∧
    Blk ((w.alloc (.cells c0.toArray t0)).alloc (.cells c1.toArray t1)) (w.heap.size + 1) t1 c1 := by
  refine ⟨(Blk.new w t0 c0).alloc _, ?_⟩
  have h := Blk.new (w.alloc (.cells c0.toArray t0)) t1 c1
  simpa using h
/-- An entry copied to new memory. -/
def EntEnd (w : World) (x : Ent) (e : Ending) (w' : World) : Prop :=
  ∃ A c B d, e = .returned (.agg (x.cs A c B d).toArray) ∧ RowsAt w' (Nw w' w.heap.size [3]) [.num] (nums x.v) A ∧ RowsAt w' (Nw w' w.heap.size [3]) [.num] (nums x.l) B ∧ Below w.heap.size w w'
/-- A snapshot copied to new memory. -/
def SnpEnd (w : World) (x : Snp) (e : Ending) (w' : World) : Prop :=
  ∃ A c B d, e = .returned (.agg (x.cs A c B d).toArray) ∧ RowsAt w' (Nw w' w.heap.size [3]) [.num] (nums x.v) A ∧ RowsAt w' (Nw w' w.heap.size [3]) [.num] (nums x.l) B ∧ Below w.heap.size w w'

set_option maxHeartbeats 1600000 in
theorem ownEntry_any (x : Ent) (A : Option Addr) (c : Nat) (B : Option Addr) (d : Nat) (w : World) (h1 : RowsAt w (· < w.heap.size) [.num] (nums x.v) A) (h2 : RowsAt w (· < w.heap.size) [.num] (nums x.l) B)
    (hl1 : x.v.length ≤ 1099511627776) (hl2 : x.l.length ≤ 1099511627776) :
    Calls Try.prog 40 #[.agg (x.cs A c B d).toArray] w (EntEnd w x) := by
  unfold Ent.cs
  have P := blk2 w 34 34 [.int .i64 x.idx, .int .i64 x.term, .int .i64 x.kind, .slice A x.v.length c, .slice B x.l.length d, .string (text x.b)] [.int .i64 0, .int .i64 0, .int .i64 0, .slice none 0 0, .slice none 0 0, .string ⟨#[]⟩]
  have P0 := Lib.hid P.1
  have P1 := Lib.hid P.2
  have H1 := Lib.hid h1
  have H2 := Lib.hid h2
  clear P h1 h2
  go_enter Try.func40, Try.ntmps40
  go_wp2_with fail
  refine at_below w _ (by repeat (first | with_reducible exact Below.refl _ _ | with_reducible assumption | (with_reducible refine Below.setCell ?_ (by dsimp only; (first | omega | (simp; done) | (simp; omega))) _) | (with_reducible refine Below.alloc ?_ (by (first | omega | (simp; done) | (simp; omega))) _) | with_reducible refine Below.drew ?_)) fun HBx => ?_
  refine (ownConfig_any x.v x.l A c B d _ ((H1.out.below HBx).more (by (first | omega | (simp; done) | (simp; omega)))) ((H2.out.below HBx).more (by (first | omega | (simp; done) | (simp; omega)))) hl1 hl2).mono ?_
  rintro e w1 ⟨A1, c1, B1, d1, rfl, hr1, hr2, hb⟩
  have z1 := hb.size
  have R0 := Lib.hid (P0.out.below hb P0.out.lt)
  have R1 := Lib.hid (P1.out.below hb P1.out.lt)
  have HB1 := Lib.hid (HBx.trans (hb.mono (by (first | omega | (simp; done) | (simp; omega)))))
  have r1 := Lib.hid (hr1.nw_mono (base' := w.heap.size) (by (first | omega | (simp; done) | (simp; omega))) fun _ h => h)
  have r2 := Lib.hid (hr2.nw_mono (base' := w.heap.size) (by (first | omega | (simp; done) | (simp; omega))) fun _ h => h)
  clear hr1 hr2 hb HBx P0 P1 H1 H2
  have a0 : w1.cell? ⟨w.heap.size, 0, none⟩ = some (.int .i64 x.idx) := R0.out.cell 0
  have p0 : w1.frozen? ⟨w.heap.size, 0, none⟩ = false := R0.out.frozen 0
  have a1 : w1.cell? ⟨w.heap.size, 1, none⟩ = some (.int .i64 x.term) := R0.out.cell 1
  have p1 : w1.frozen? ⟨w.heap.size, 1, none⟩ = false := R0.out.frozen 1
  have a2 : w1.cell? ⟨w.heap.size, 2, none⟩ = some (.int .i64 x.kind) := R0.out.cell 2
  have p2 : w1.frozen? ⟨w.heap.size, 2, none⟩ = false := R0.out.frozen 2
  have a3 : w1.cell? ⟨w.heap.size, 3, none⟩ = some (.slice A x.v.length c) := R0.out.cell 3
  have p3 : w1.frozen? ⟨w.heap.size, 3, none⟩ = false := R0.out.frozen 3
  have a4 : w1.cell? ⟨w.heap.size, 4, none⟩ = some (.slice B x.l.length d) := R0.out.cell 4
  have p4 : w1.frozen? ⟨w.heap.size, 4, none⟩ = false := R0.out.frozen 4
  have a5 : w1.cell? ⟨w.heap.size, 5, none⟩ = some (.string (text x.b)) := R0.out.cell 5
  have p5 : w1.frozen? ⟨w.heap.size, 5, none⟩ = false := R0.out.frozen 5
  have b0 : w1.cell? ⟨w.heap.size + 1, 0, none⟩ = some (.int .i64 0) := R1.out.cell 0
  have q0 : w1.frozen? ⟨w.heap.size + 1, 0, none⟩ = false := R1.out.frozen 0
  have b1 : w1.cell? ⟨w.heap.size + 1, 1, none⟩ = some (.int .i64 0) := R1.out.cell 1
  have q1 : w1.frozen? ⟨w.heap.size + 1, 1, none⟩ = false := R1.out.frozen 1
  have b2 : w1.cell? ⟨w.heap.size + 1, 2, none⟩ = some (.int .i64 0) := R1.out.cell 2
  have q2 : w1.frozen? ⟨w.heap.size + 1, 2, none⟩ = false := R1.out.frozen 2
  have b3 : w1.cell? ⟨w.heap.size + 1, 3, none⟩ = some (.slice none 0 0) := R1.out.cell 3
  have q3 : w1.frozen? ⟨w.heap.size + 1, 3, none⟩ = false := R1.out.frozen 3
  have b4 : w1.cell? ⟨w.heap.size + 1, 4, none⟩ = some (.slice none 0 0) := R1.out.cell 4
  have q4 : w1.frozen? ⟨w.heap.size + 1, 4, none⟩ = false := R1.out.frozen 4
  have b5 : w1.cell? ⟨w.heap.size + 1, 5, none⟩ = some (.string ⟨#[]⟩) := R1.out.cell 5
  have q5 : w1.frozen? ⟨w.heap.size + 1, 5, none⟩ = false := R1.out.frozen 5
  go_wp2
  have HB : Hid (Blk ((((((((w1.setCell ⟨w.heap.size, 3, none⟩ (.slice A1 x.v.length c1)).setCell ⟨w.heap.size, 4, none⟩ (.slice B1 x.l.length d1)).setCell ⟨w.heap.size + 1, 0, none⟩ (.int .i64 x.idx)).setCell ⟨w.heap.size + 1, 1, none⟩ (.int .i64 x.term)).setCell ⟨w.heap.size + 1, 2, none⟩ (.int .i64 x.kind)).setCell ⟨w.heap.size + 1, 3, none⟩ (.slice A1 x.v.length c1)).setCell ⟨w.heap.size + 1, 4, none⟩ (.slice B1 x.l.length d1)).setCell ⟨w.heap.size + 1, 5, none⟩ (.string (text x.b))) (w.heap.size + 1) 34 [.int .i64 x.idx, .int .i64 x.term, .int .i64 x.kind, .slice A1 x.v.length c1, .slice B1 x.l.length d1, .string (text x.b)]) := by
    have := R1.out.far (p := ⟨w.heap.size, 3, none⟩) (by dsimp only; omega) (.slice A1 x.v.length c1) |>.far (p := ⟨w.heap.size, 4, none⟩) (by dsimp only; omega) (.slice B1 x.l.length d1) |>.set_ 0 (.int .i64 x.idx) |>.set_ 1 (.int .i64 x.term) |>.set_ 2 (.int .i64 x.kind) |>.set_ 3 (.slice A1 x.v.length c1) |>.set_ 4 (.slice B1 x.l.length d1) |>.set_ 5 (.string (text x.b))
    exact Lib.hid (by simpa using this)
  have HK : Hid (Keeps [34] w1 ((((((((w1.setCell ⟨w.heap.size, 3, none⟩ (.slice A1 x.v.length c1)).setCell ⟨w.heap.size, 4, none⟩ (.slice B1 x.l.length d1)).setCell ⟨w.heap.size + 1, 0, none⟩ (.int .i64 x.idx)).setCell ⟨w.heap.size + 1, 1, none⟩ (.int .i64 x.term)).setCell ⟨w.heap.size + 1, 2, none⟩ (.int .i64 x.kind)).setCell ⟨w.heap.size + 1, 3, none⟩ (.slice A1 x.v.length c1)).setCell ⟨w.heap.size + 1, 4, none⟩ (.slice B1 x.l.length d1)).setCell ⟨w.heap.size + 1, 5, none⟩ (.string (text x.b)))) := by
    refine Lib.hid ?_
    have K0 : TypeAt w1 w.heap.size 34 := R0.out.typ
    have K1 : TypeAt w1 (w.heap.size + 1) 34 := R1.out.typ
    exact (Keeps.trans (Keeps.trans (Keeps.trans (Keeps.trans (Keeps.trans (Keeps.trans (Keeps.trans (Keeps.set_ (i := 3) K0 (by simp) (.slice A1 x.v.length c1)) (Keeps.set_ (i := 4) (K0.setCell ⟨w.heap.size, 3, none⟩ (.slice A1 x.v.length c1)) (by simp) (.slice B1 x.l.length d1))) (Keeps.set_ (i := 0) ((K1.setCell ⟨w.heap.size, 3, none⟩ (.slice A1 x.v.length c1)).setCell ⟨w.heap.size, 4, none⟩ (.slice B1 x.l.length d1)) (by simp) (.int .i64 x.idx))) (Keeps.set_ (i := 1) (((K1.setCell ⟨w.heap.size, 3, none⟩ (.slice A1 x.v.length c1)).setCell ⟨w.heap.size, 4, none⟩ (.slice B1 x.l.length d1)).setCell ⟨w.heap.size + 1, 0, none⟩ (.int .i64 x.idx)) (by simp) (.int .i64 x.term))) (Keeps.set_ (i := 2) ((((K1.setCell ⟨w.heap.size, 3, none⟩ (.slice A1 x.v.length c1)).setCell ⟨w.heap.size, 4, none⟩ (.slice B1 x.l.length d1)).setCell ⟨w.heap.size + 1, 0, none⟩ (.int .i64 x.idx)).setCell ⟨w.heap.size + 1, 1, none⟩ (.int .i64 x.term)) (by simp) (.int .i64 x.kind))) (Keeps.set_ (i := 3) (((((K1.setCell ⟨w.heap.size, 3, none⟩ (.slice A1 x.v.length c1)).setCell ⟨w.heap.size, 4, none⟩ (.slice B1 x.l.length d1)).setCell ⟨w.heap.size + 1, 0, none⟩ (.int .i64 x.idx)).setCell ⟨w.heap.size + 1, 1, none⟩ (.int .i64 x.term)).setCell ⟨w.heap.size + 1, 2, none⟩ (.int .i64 x.kind)) (by simp) (.slice A1 x.v.length c1))) (Keeps.set_ (i := 4) ((((((K1.setCell ⟨w.heap.size, 3, none⟩ (.slice A1 x.v.length c1)).setCell ⟨w.heap.size, 4, none⟩ (.slice B1 x.l.length d1)).setCell ⟨w.heap.size + 1, 0, none⟩ (.int .i64 x.idx)).setCell ⟨w.heap.size + 1, 1, none⟩ (.int .i64 x.term)).setCell ⟨w.heap.size + 1, 2, none⟩ (.int .i64 x.kind)).setCell ⟨w.heap.size + 1, 3, none⟩ (.slice A1 x.v.length c1)) (by simp) (.slice B1 x.l.length d1))) (Keeps.set_ (i := 5) (((((((K1.setCell ⟨w.heap.size, 3, none⟩ (.slice A1 x.v.length c1)).setCell ⟨w.heap.size, 4, none⟩ (.slice B1 x.l.length d1)).setCell ⟨w.heap.size + 1, 0, none⟩ (.int .i64 x.idx)).setCell ⟨w.heap.size + 1, 1, none⟩ (.int .i64 x.term)).setCell ⟨w.heap.size + 1, 2, none⟩ (.int .i64 x.kind)).setCell ⟨w.heap.size + 1, 3, none⟩ (.slice A1 x.v.length c1)).setCell ⟨w.heap.size + 1, 4, none⟩ (.slice B1 x.l.length d1)) (by simp) (.string (text x.b))))
  refine bodyPost_ret (results_cell rfl _ _ (w.heap.size + 1) rfl [.int .i64 x.idx, .int .i64 x.term, .int .i64 x.kind, .slice A1 x.v.length c1, .slice B1 x.l.length d1, .string (text x.b)] _ HB.out.range0 Try.underlying34 rfl (by kernel_rfl)) rfl ?_
  exact ⟨A1, c1, B1, d1, rfl, r1.out.nw_keeps HK.out (by decide), r2.out.nw_keeps HK.out (by decide), (Below.setCell (Below.setCell (Below.setCell (Below.setCell (Below.setCell (Below.setCell (Below.setCell (Below.setCell HB1.out (by (first | omega | (simp; done) | (simp; omega))) _) (by (first | omega | (simp; done) | (simp; omega))) _) (by (first | omega | (simp; done) | (simp; omega))) _) (by (first | omega | (simp; done) | (simp; omega))) _) (by (first | omega | (simp; done) | (simp; omega))) _) (by (first | omega | (simp; done) | (simp; omega))) _) (by (first | omega | (simp; done) | (simp; omega))) _) (by (first | omega | (simp; done) | (simp; omega))) _)⟩

set_option maxHeartbeats 1600000 in
theorem ownSnap_any (x : Snp) (A : Option Addr) (c : Nat) (B : Option Addr) (d : Nat) (w : World) (h1 : RowsAt w (· < w.heap.size) [.num] (nums x.v) A) (h2 : RowsAt w (· < w.heap.size) [.num] (nums x.l) B)
    (hl1 : x.v.length ≤ 1099511627776) (hl2 : x.l.length ≤ 1099511627776) :
    Calls Try.prog 39 #[.agg (x.cs A c B d).toArray] w (SnpEnd w x) := by
  unfold Snp.cs
  have P := blk2 w 27 27 [.int .i64 x.idx, .int .i64 x.term, .slice A x.v.length c, .slice B x.l.length d, .string (text x.b)] [.int .i64 0, .int .i64 0, .slice none 0 0, .slice none 0 0, .string ⟨#[]⟩]
  have P0 := Lib.hid P.1
  have P1 := Lib.hid P.2
  have H1 := Lib.hid h1
  have H2 := Lib.hid h2
  clear P h1 h2
  go_enter Try.func39, Try.ntmps39
  go_wp2_with fail
  refine at_below w _ (by repeat (first | with_reducible exact Below.refl _ _ | with_reducible assumption | (with_reducible refine Below.setCell ?_ (by dsimp only; (first | omega | (simp; done) | (simp; omega))) _) | (with_reducible refine Below.alloc ?_ (by (first | omega | (simp; done) | (simp; omega))) _) | with_reducible refine Below.drew ?_)) fun HBx => ?_
  refine (ownConfig_any x.v x.l A c B d _ ((H1.out.below HBx).more (by (first | omega | (simp; done) | (simp; omega)))) ((H2.out.below HBx).more (by (first | omega | (simp; done) | (simp; omega)))) hl1 hl2).mono ?_
  rintro e w1 ⟨A1, c1, B1, d1, rfl, hr1, hr2, hb⟩
  have z1 := hb.size
  have R0 := Lib.hid (P0.out.below hb P0.out.lt)
  have R1 := Lib.hid (P1.out.below hb P1.out.lt)
  have HB1 := Lib.hid (HBx.trans (hb.mono (by (first | omega | (simp; done) | (simp; omega)))))
  have r1 := Lib.hid (hr1.nw_mono (base' := w.heap.size) (by (first | omega | (simp; done) | (simp; omega))) fun _ h => h)
  have r2 := Lib.hid (hr2.nw_mono (base' := w.heap.size) (by (first | omega | (simp; done) | (simp; omega))) fun _ h => h)
  clear hr1 hr2 hb HBx P0 P1 H1 H2
  have a0 : w1.cell? ⟨w.heap.size, 0, none⟩ = some (.int .i64 x.idx) := R0.out.cell 0
  have p0 : w1.frozen? ⟨w.heap.size, 0, none⟩ = false := R0.out.frozen 0
  have a1 : w1.cell? ⟨w.heap.size, 1, none⟩ = some (.int .i64 x.term) := R0.out.cell 1
  have p1 : w1.frozen? ⟨w.heap.size, 1, none⟩ = false := R0.out.frozen 1
  have a2 : w1.cell? ⟨w.heap.size, 2, none⟩ = some (.slice A x.v.length c) := R0.out.cell 2
  have p2 : w1.frozen? ⟨w.heap.size, 2, none⟩ = false := R0.out.frozen 2
  have a3 : w1.cell? ⟨w.heap.size, 3, none⟩ = some (.slice B x.l.length d) := R0.out.cell 3
  have p3 : w1.frozen? ⟨w.heap.size, 3, none⟩ = false := R0.out.frozen 3
  have a4 : w1.cell? ⟨w.heap.size, 4, none⟩ = some (.string (text x.b)) := R0.out.cell 4
  have p4 : w1.frozen? ⟨w.heap.size, 4, none⟩ = false := R0.out.frozen 4
  have b0 : w1.cell? ⟨w.heap.size + 1, 0, none⟩ = some (.int .i64 0) := R1.out.cell 0
  have q0 : w1.frozen? ⟨w.heap.size + 1, 0, none⟩ = false := R1.out.frozen 0
  have b1 : w1.cell? ⟨w.heap.size + 1, 1, none⟩ = some (.int .i64 0) := R1.out.cell 1
  have q1 : w1.frozen? ⟨w.heap.size + 1, 1, none⟩ = false := R1.out.frozen 1
  have b2 : w1.cell? ⟨w.heap.size + 1, 2, none⟩ = some (.slice none 0 0) := R1.out.cell 2
  have q2 : w1.frozen? ⟨w.heap.size + 1, 2, none⟩ = false := R1.out.frozen 2
  have b3 : w1.cell? ⟨w.heap.size + 1, 3, none⟩ = some (.slice none 0 0) := R1.out.cell 3
  have q3 : w1.frozen? ⟨w.heap.size + 1, 3, none⟩ = false := R1.out.frozen 3
  have b4 : w1.cell? ⟨w.heap.size + 1, 4, none⟩ = some (.string ⟨#[]⟩) := R1.out.cell 4
  have q4 : w1.frozen? ⟨w.heap.size + 1, 4, none⟩ = false := R1.out.frozen 4
  go_wp2
  have HB : Hid (Blk (((((((w1.setCell ⟨w.heap.size, 2, none⟩ (.slice A1 x.v.length c1)).setCell ⟨w.heap.size, 3, none⟩ (.slice B1 x.l.length d1)).setCell ⟨w.heap.size + 1, 0, none⟩ (.int .i64 x.idx)).setCell ⟨w.heap.size + 1, 1, none⟩ (.int .i64 x.term)).setCell ⟨w.heap.size + 1, 2, none⟩ (.slice A1 x.v.length c1)).setCell ⟨w.heap.size + 1, 3, none⟩ (.slice B1 x.l.length d1)).setCell ⟨w.heap.size + 1, 4, none⟩ (.string (text x.b))) (w.heap.size + 1) 27 [.int .i64 x.idx, .int .i64 x.term, .slice A1 x.v.length c1, .slice B1 x.l.length d1, .string (text x.b)]) := by
    have := R1.out.far (p := ⟨w.heap.size, 2, none⟩) (by dsimp only; omega) (.slice A1 x.v.length c1) |>.far (p := ⟨w.heap.size, 3, none⟩) (by dsimp only; omega) (.slice B1 x.l.length d1) |>.set_ 0 (.int .i64 x.idx) |>.set_ 1 (.int .i64 x.term) |>.set_ 2 (.slice A1 x.v.length c1) |>.set_ 3 (.slice B1 x.l.length d1) |>.set_ 4 (.string (text x.b))
    exact Lib.hid (by simpa using this)
  have HK : Hid (Keeps [27] w1 (((((((w1.setCell ⟨w.heap.size, 2, none⟩ (.slice A1 x.v.length c1)).setCell ⟨w.heap.size, 3, none⟩ (.slice B1 x.l.length d1)).setCell ⟨w.heap.size + 1, 0, none⟩ (.int .i64 x.idx)).setCell ⟨w.heap.size + 1, 1, none⟩ (.int .i64 x.term)).setCell ⟨w.heap.size + 1, 2, none⟩ (.slice A1 x.v.length c1)).setCell ⟨w.heap.size + 1, 3, none⟩ (.slice B1 x.l.length d1)).setCell ⟨w.heap.size + 1, 4, none⟩ (.string (text x.b)))) := by
    refine Lib.hid ?_
    have K0 : TypeAt w1 w.heap.size 27 := R0.out.typ
    have K1 : TypeAt w1 (w.heap.size + 1) 27 := R1.out.typ
    exact (Keeps.trans (Keeps.trans (Keeps.trans (Keeps.trans (Keeps.trans (Keeps.trans (Keeps.set_ (i := 2) K0 (by simp) (.slice A1 x.v.length c1)) (Keeps.set_ (i := 3) (K0.setCell ⟨w.heap.size, 2, none⟩ (.slice A1 x.v.length c1)) (by simp) (.slice B1 x.l.length d1))) (Keeps.set_ (i := 0) ((K1.setCell ⟨w.heap.size, 2, none⟩ (.slice A1 x.v.length c1)).setCell ⟨w.heap.size, 3, none⟩ (.slice B1 x.l.length d1)) (by simp) (.int .i64 x.idx))) (Keeps.set_ (i := 1) (((K1.setCell ⟨w.heap.size, 2, none⟩ (.slice A1 x.v.length c1)).setCell ⟨w.heap.size, 3, none⟩ (.slice B1 x.l.length d1)).setCell ⟨w.heap.size + 1, 0, none⟩ (.int .i64 x.idx)) (by simp) (.int .i64 x.term))) (Keeps.set_ (i := 2) ((((K1.setCell ⟨w.heap.size, 2, none⟩ (.slice A1 x.v.length c1)).setCell ⟨w.heap.size, 3, none⟩ (.slice B1 x.l.length d1)).setCell ⟨w.heap.size + 1, 0, none⟩ (.int .i64 x.idx)).setCell ⟨w.heap.size + 1, 1, none⟩ (.int .i64 x.term)) (by simp) (.slice A1 x.v.length c1))) (Keeps.set_ (i := 3) (((((K1.setCell ⟨w.heap.size, 2, none⟩ (.slice A1 x.v.length c1)).setCell ⟨w.heap.size, 3, none⟩ (.slice B1 x.l.length d1)).setCell ⟨w.heap.size + 1, 0, none⟩ (.int .i64 x.idx)).setCell ⟨w.heap.size + 1, 1, none⟩ (.int .i64 x.term)).setCell ⟨w.heap.size + 1, 2, none⟩ (.slice A1 x.v.length c1)) (by simp) (.slice B1 x.l.length d1))) (Keeps.set_ (i := 4) ((((((K1.setCell ⟨w.heap.size, 2, none⟩ (.slice A1 x.v.length c1)).setCell ⟨w.heap.size, 3, none⟩ (.slice B1 x.l.length d1)).setCell ⟨w.heap.size + 1, 0, none⟩ (.int .i64 x.idx)).setCell ⟨w.heap.size + 1, 1, none⟩ (.int .i64 x.term)).setCell ⟨w.heap.size + 1, 2, none⟩ (.slice A1 x.v.length c1)).setCell ⟨w.heap.size + 1, 3, none⟩ (.slice B1 x.l.length d1)) (by simp) (.string (text x.b))))
  refine bodyPost_ret (results_cell rfl _ _ (w.heap.size + 1) rfl [.int .i64 x.idx, .int .i64 x.term, .slice A1 x.v.length c1, .slice B1 x.l.length d1, .string (text x.b)] _ HB.out.range0 Try.underlying27 rfl (by kernel_rfl)) rfl ?_
  exact ⟨A1, c1, B1, d1, rfl, r1.out.nw_keeps HK.out (by decide), r2.out.nw_keeps HK.out (by decide), (Below.setCell (Below.setCell (Below.setCell (Below.setCell (Below.setCell (Below.setCell (Below.setCell HB1.out (by (first | omega | (simp; done) | (simp; omega))) _) (by (first | omega | (simp; done) | (simp; omega))) _) (by (first | omega | (simp; done) | (simp; omega))) _) (by (first | omega | (simp; done) | (simp; omega))) _) (by (first | omega | (simp; done) | (simp; omega))) _) (by (first | omega | (simp; done) | (simp; omega))) _) (by (first | omega | (simp; done) | (simp; omega))) _)⟩

set_option maxHeartbeats 1600000 in
theorem rEntry_any (x : Ent) (A : Option Addr) (c : Nat) (B : Option Addr) (d : Nat) (w : World) (h1 : RowsAt w (· < w.heap.size) [.num] (nums x.v) A) (h2 : RowsAt w (· < w.heap.size) [.num] (nums x.l) B)
    (hl1 : x.v.length ≤ 1099511627776) (hl2 : x.l.length ≤ 1099511627776) :
    Calls Try.prog 13 #[.agg (x.cs A c B d).toArray] w (EntEnd w x) := by
  unfold Ent.cs
  have P := blk2 w 34 34 [.int .i64 x.idx, .int .i64 x.term, .int .i64 x.kind, .slice A x.v.length c, .slice B x.l.length d, .string (text x.b)] [.int .i64 0, .int .i64 0, .int .i64 0, .slice none 0 0, .slice none 0 0, .string ⟨#[]⟩]
  have P0 := Lib.hid P.1
  have P1 := Lib.hid P.2
  have H1 := Lib.hid h1
  have H2 := Lib.hid h2
  clear P h1 h2
  go_enter Try.func13, Try.ntmps13
  go_wp2_with fail
  refine at_below w _ (by repeat (first | with_reducible exact Below.refl _ _ | with_reducible assumption | (with_reducible refine Below.setCell ?_ (by dsimp only; (first | omega | (simp; done) | (simp; omega))) _) | (with_reducible refine Below.alloc ?_ (by (first | omega | (simp; done) | (simp; omega))) _) | with_reducible refine Below.drew ?_)) fun HBx => ?_
  refine (rconfig_any x.v x.l A c B d _ ((H1.out.below HBx).more (by (first | omega | (simp; done) | (simp; omega)))) ((H2.out.below HBx).more (by (first | omega | (simp; done) | (simp; omega)))) hl1 hl2).mono ?_
  rintro e w1 ⟨A1, c1, B1, d1, rfl, hr1, hr2, hb⟩
  have z1 := hb.size
  have R0 := Lib.hid (P0.out.below hb P0.out.lt)
  have R1 := Lib.hid (P1.out.below hb P1.out.lt)
  have HB1 := Lib.hid (HBx.trans (hb.mono (by (first | omega | (simp; done) | (simp; omega)))))
  have r1 := Lib.hid (hr1.nw_mono (base' := w.heap.size) (by (first | omega | (simp; done) | (simp; omega))) fun _ h => h)
  have r2 := Lib.hid (hr2.nw_mono (base' := w.heap.size) (by (first | omega | (simp; done) | (simp; omega))) fun _ h => h)
  clear hr1 hr2 hb HBx P0 P1 H1 H2
  have a0 : w1.cell? ⟨w.heap.size, 0, none⟩ = some (.int .i64 x.idx) := R0.out.cell 0
  have p0 : w1.frozen? ⟨w.heap.size, 0, none⟩ = false := R0.out.frozen 0
  have a1 : w1.cell? ⟨w.heap.size, 1, none⟩ = some (.int .i64 x.term) := R0.out.cell 1
  have p1 : w1.frozen? ⟨w.heap.size, 1, none⟩ = false := R0.out.frozen 1
  have a2 : w1.cell? ⟨w.heap.size, 2, none⟩ = some (.int .i64 x.kind) := R0.out.cell 2
  have p2 : w1.frozen? ⟨w.heap.size, 2, none⟩ = false := R0.out.frozen 2
  have a3 : w1.cell? ⟨w.heap.size, 3, none⟩ = some (.slice A x.v.length c) := R0.out.cell 3
  have p3 : w1.frozen? ⟨w.heap.size, 3, none⟩ = false := R0.out.frozen 3
  have a4 : w1.cell? ⟨w.heap.size, 4, none⟩ = some (.slice B x.l.length d) := R0.out.cell 4
  have p4 : w1.frozen? ⟨w.heap.size, 4, none⟩ = false := R0.out.frozen 4
  have a5 : w1.cell? ⟨w.heap.size, 5, none⟩ = some (.string (text x.b)) := R0.out.cell 5
  have p5 : w1.frozen? ⟨w.heap.size, 5, none⟩ = false := R0.out.frozen 5
  have b0 : w1.cell? ⟨w.heap.size + 1, 0, none⟩ = some (.int .i64 0) := R1.out.cell 0
  have q0 : w1.frozen? ⟨w.heap.size + 1, 0, none⟩ = false := R1.out.frozen 0
  have b1 : w1.cell? ⟨w.heap.size + 1, 1, none⟩ = some (.int .i64 0) := R1.out.cell 1
  have q1 : w1.frozen? ⟨w.heap.size + 1, 1, none⟩ = false := R1.out.frozen 1
  have b2 : w1.cell? ⟨w.heap.size + 1, 2, none⟩ = some (.int .i64 0) := R1.out.cell 2
  have q2 : w1.frozen? ⟨w.heap.size + 1, 2, none⟩ = false := R1.out.frozen 2
  have b3 : w1.cell? ⟨w.heap.size + 1, 3, none⟩ = some (.slice none 0 0) := R1.out.cell 3
  have q3 : w1.frozen? ⟨w.heap.size + 1, 3, none⟩ = false := R1.out.frozen 3
  have b4 : w1.cell? ⟨w.heap.size + 1, 4, none⟩ = some (.slice none 0 0) := R1.out.cell 4
  have q4 : w1.frozen? ⟨w.heap.size + 1, 4, none⟩ = false := R1.out.frozen 4
  have b5 : w1.cell? ⟨w.heap.size + 1, 5, none⟩ = some (.string ⟨#[]⟩) := R1.out.cell 5
  have q5 : w1.frozen? ⟨w.heap.size + 1, 5, none⟩ = false := R1.out.frozen 5
  go_wp2
  have HB : Hid (Blk ((((((((w1.setCell ⟨w.heap.size, 3, none⟩ (.slice A1 x.v.length c1)).setCell ⟨w.heap.size, 4, none⟩ (.slice B1 x.l.length d1)).setCell ⟨w.heap.size + 1, 0, none⟩ (.int .i64 x.idx)).setCell ⟨w.heap.size + 1, 1, none⟩ (.int .i64 x.term)).setCell ⟨w.heap.size + 1, 2, none⟩ (.int .i64 x.kind)).setCell ⟨w.heap.size + 1, 3, none⟩ (.slice A1 x.v.length c1)).setCell ⟨w.heap.size + 1, 4, none⟩ (.slice B1 x.l.length d1)).setCell ⟨w.heap.size + 1, 5, none⟩ (.string (text x.b))) (w.heap.size + 1) 34 [.int .i64 x.idx, .int .i64 x.term, .int .i64 x.kind, .slice A1 x.v.length c1, .slice B1 x.l.length d1, .string (text x.b)]) := by
    have := R1.out.far (p := ⟨w.heap.size, 3, none⟩) (by dsimp only; omega) (.slice A1 x.v.length c1) |>.far (p := ⟨w.heap.size, 4, none⟩) (by dsimp only; omega) (.slice B1 x.l.length d1) |>.set_ 0 (.int .i64 x.idx) |>.set_ 1 (.int .i64 x.term) |>.set_ 2 (.int .i64 x.kind) |>.set_ 3 (.slice A1 x.v.length c1) |>.set_ 4 (.slice B1 x.l.length d1) |>.set_ 5 (.string (text x.b))
    exact Lib.hid (by simpa using this)
  have HK : Hid (Keeps [34] w1 ((((((((w1.setCell ⟨w.heap.size, 3, none⟩ (.slice A1 x.v.length c1)).setCell ⟨w.heap.size, 4, none⟩ (.slice B1 x.l.length d1)).setCell ⟨w.heap.size + 1, 0, none⟩ (.int .i64 x.idx)).setCell ⟨w.heap.size + 1, 1, none⟩ (.int .i64 x.term)).setCell ⟨w.heap.size + 1, 2, none⟩ (.int .i64 x.kind)).setCell ⟨w.heap.size + 1, 3, none⟩ (.slice A1 x.v.length c1)).setCell ⟨w.heap.size + 1, 4, none⟩ (.slice B1 x.l.length d1)).setCell ⟨w.heap.size + 1, 5, none⟩ (.string (text x.b)))) := by
    refine Lib.hid ?_
    have K0 : TypeAt w1 w.heap.size 34 := R0.out.typ
    have K1 : TypeAt w1 (w.heap.size + 1) 34 := R1.out.typ
    exact (Keeps.trans (Keeps.trans (Keeps.trans (Keeps.trans (Keeps.trans (Keeps.trans (Keeps.trans (Keeps.set_ (i := 3) K0 (by simp) (.slice A1 x.v.length c1)) (Keeps.set_ (i := 4) (K0.setCell ⟨w.heap.size, 3, none⟩ (.slice A1 x.v.length c1)) (by simp) (.slice B1 x.l.length d1))) (Keeps.set_ (i := 0) ((K1.setCell ⟨w.heap.size, 3, none⟩ (.slice A1 x.v.length c1)).setCell ⟨w.heap.size, 4, none⟩ (.slice B1 x.l.length d1)) (by simp) (.int .i64 x.idx))) (Keeps.set_ (i := 1) (((K1.setCell ⟨w.heap.size, 3, none⟩ (.slice A1 x.v.length c1)).setCell ⟨w.heap.size, 4, none⟩ (.slice B1 x.l.length d1)).setCell ⟨w.heap.size + 1, 0, none⟩ (.int .i64 x.idx)) (by simp) (.int .i64 x.term))) (Keeps.set_ (i := 2) ((((K1.setCell ⟨w.heap.size, 3, none⟩ (.slice A1 x.v.length c1)).setCell ⟨w.heap.size, 4, none⟩ (.slice B1 x.l.length d1)).setCell ⟨w.heap.size + 1, 0, none⟩ (.int .i64 x.idx)).setCell ⟨w.heap.size + 1, 1, none⟩ (.int .i64 x.term)) (by simp) (.int .i64 x.kind))) (Keeps.set_ (i := 3) (((((K1.setCell ⟨w.heap.size, 3, none⟩ (.slice A1 x.v.length c1)).setCell ⟨w.heap.size, 4, none⟩ (.slice B1 x.l.length d1)).setCell ⟨w.heap.size + 1, 0, none⟩ (.int .i64 x.idx)).setCell ⟨w.heap.size + 1, 1, none⟩ (.int .i64 x.term)).setCell ⟨w.heap.size + 1, 2, none⟩ (.int .i64 x.kind)) (by simp) (.slice A1 x.v.length c1))) (Keeps.set_ (i := 4) ((((((K1.setCell ⟨w.heap.size, 3, none⟩ (.slice A1 x.v.length c1)).setCell ⟨w.heap.size, 4, none⟩ (.slice B1 x.l.length d1)).setCell ⟨w.heap.size + 1, 0, none⟩ (.int .i64 x.idx)).setCell ⟨w.heap.size + 1, 1, none⟩ (.int .i64 x.term)).setCell ⟨w.heap.size + 1, 2, none⟩ (.int .i64 x.kind)).setCell ⟨w.heap.size + 1, 3, none⟩ (.slice A1 x.v.length c1)) (by simp) (.slice B1 x.l.length d1))) (Keeps.set_ (i := 5) (((((((K1.setCell ⟨w.heap.size, 3, none⟩ (.slice A1 x.v.length c1)).setCell ⟨w.heap.size, 4, none⟩ (.slice B1 x.l.length d1)).setCell ⟨w.heap.size + 1, 0, none⟩ (.int .i64 x.idx)).setCell ⟨w.heap.size + 1, 1, none⟩ (.int .i64 x.term)).setCell ⟨w.heap.size + 1, 2, none⟩ (.int .i64 x.kind)).setCell ⟨w.heap.size + 1, 3, none⟩ (.slice A1 x.v.length c1)).setCell ⟨w.heap.size + 1, 4, none⟩ (.slice B1 x.l.length d1)) (by simp) (.string (text x.b))))
  refine bodyPost_ret (results_cell rfl _ _ (w.heap.size + 1) rfl [.int .i64 x.idx, .int .i64 x.term, .int .i64 x.kind, .slice A1 x.v.length c1, .slice B1 x.l.length d1, .string (text x.b)] _ HB.out.range0 Try.underlying34 rfl (by kernel_rfl)) rfl ?_
  exact ⟨A1, c1, B1, d1, rfl, r1.out.nw_keeps HK.out (by decide), r2.out.nw_keeps HK.out (by decide), (Below.setCell (Below.setCell (Below.setCell (Below.setCell (Below.setCell (Below.setCell (Below.setCell (Below.setCell HB1.out (by (first | omega | (simp; done) | (simp; omega))) _) (by (first | omega | (simp; done) | (simp; omega))) _) (by (first | omega | (simp; done) | (simp; omega))) _) (by (first | omega | (simp; done) | (simp; omega))) _) (by (first | omega | (simp; done) | (simp; omega))) _) (by (first | omega | (simp; done) | (simp; omega))) _) (by (first | omega | (simp; done) | (simp; omega))) _) (by (first | omega | (simp; done) | (simp; omega))) _)⟩

set_option maxHeartbeats 1600000 in
theorem rSnap_any (x : Snp) (A : Option Addr) (c : Nat) (B : Option Addr) (d : Nat) (w : World) (h1 : RowsAt w (· < w.heap.size) [.num] (nums x.v) A) (h2 : RowsAt w (· < w.heap.size) [.num] (nums x.l) B)
    (hl1 : x.v.length ≤ 1099511627776) (hl2 : x.l.length ≤ 1099511627776) :
    Calls Try.prog 12 #[.agg (x.cs A c B d).toArray] w (SnpEnd w x) := by
  unfold Snp.cs
  have P := blk2 w 27 27 [.int .i64 x.idx, .int .i64 x.term, .slice A x.v.length c, .slice B x.l.length d, .string (text x.b)] [.int .i64 0, .int .i64 0, .slice none 0 0, .slice none 0 0, .string ⟨#[]⟩]
  have P0 := Lib.hid P.1
  have P1 := Lib.hid P.2
  have H1 := Lib.hid h1
  have H2 := Lib.hid h2
  clear P h1 h2
  go_enter Try.func12, Try.ntmps12
  go_wp2_with fail
  refine at_below w _ (by repeat (first | with_reducible exact Below.refl _ _ | with_reducible assumption | (with_reducible refine Below.setCell ?_ (by dsimp only; (first | omega | (simp; done) | (simp; omega))) _) | (with_reducible refine Below.alloc ?_ (by (first | omega | (simp; done) | (simp; omega))) _) | with_reducible refine Below.drew ?_)) fun HBx => ?_
  refine (rconfig_any x.v x.l A c B d _ ((H1.out.below HBx).more (by (first | omega | (simp; done) | (simp; omega)))) ((H2.out.below HBx).more (by (first | omega | (simp; done) | (simp; omega)))) hl1 hl2).mono ?_
  rintro e w1 ⟨A1, c1, B1, d1, rfl, hr1, hr2, hb⟩
  have z1 := hb.size
  have R0 := Lib.hid (P0.out.below hb P0.out.lt)
  have R1 := Lib.hid (P1.out.below hb P1.out.lt)
  have HB1 := Lib.hid (HBx.trans (hb.mono (by (first | omega | (simp; done) | (simp; omega)))))
  have r1 := Lib.hid (hr1.nw_mono (base' := w.heap.size) (by (first | omega | (simp; done) | (simp; omega))) fun _ h => h)
  have r2 := Lib.hid (hr2.nw_mono (base' := w.heap.size) (by (first | omega | (simp; done) | (simp; omega))) fun _ h => h)
  clear hr1 hr2 hb HBx P0 P1 H1 H2
  have a0 : w1.cell? ⟨w.heap.size, 0, none⟩ = some (.int .i64 x.idx) := R0.out.cell 0
  have p0 : w1.frozen? ⟨w.heap.size, 0, none⟩ = false := R0.out.frozen 0
  have a1 : w1.cell? ⟨w.heap.size, 1, none⟩ = some (.int .i64 x.term) := R0.out.cell 1
  have p1 : w1.frozen? ⟨w.heap.size, 1, none⟩ = false := R0.out.frozen 1
  have a2 : w1.cell? ⟨w.heap.size, 2, none⟩ = some (.slice A x.v.length c) := R0.out.cell 2
  have p2 : w1.frozen? ⟨w.heap.size, 2, none⟩ = false := R0.out.frozen 2
  have a3 : w1.cell? ⟨w.heap.size, 3, none⟩ = some (.slice B x.l.length d) := R0.out.cell 3
  have p3 : w1.frozen? ⟨w.heap.size, 3, none⟩ = false := R0.out.frozen 3
  have a4 : w1.cell? ⟨w.heap.size, 4, none⟩ = some (.string (text x.b)) := R0.out.cell 4
  have p4 : w1.frozen? ⟨w.heap.size, 4, none⟩ = false := R0.out.frozen 4
  have b0 : w1.cell? ⟨w.heap.size + 1, 0, none⟩ = some (.int .i64 0) := R1.out.cell 0
  have q0 : w1.frozen? ⟨w.heap.size + 1, 0, none⟩ = false := R1.out.frozen 0
  have b1 : w1.cell? ⟨w.heap.size + 1, 1, none⟩ = some (.int .i64 0) := R1.out.cell 1
  have q1 : w1.frozen? ⟨w.heap.size + 1, 1, none⟩ = false := R1.out.frozen 1
  have b2 : w1.cell? ⟨w.heap.size + 1, 2, none⟩ = some (.slice none 0 0) := R1.out.cell 2
  have q2 : w1.frozen? ⟨w.heap.size + 1, 2, none⟩ = false := R1.out.frozen 2
  have b3 : w1.cell? ⟨w.heap.size + 1, 3, none⟩ = some (.slice none 0 0) := R1.out.cell 3
  have q3 : w1.frozen? ⟨w.heap.size + 1, 3, none⟩ = false := R1.out.frozen 3
  have b4 : w1.cell? ⟨w.heap.size + 1, 4, none⟩ = some (.string ⟨#[]⟩) := R1.out.cell 4
  have q4 : w1.frozen? ⟨w.heap.size + 1, 4, none⟩ = false := R1.out.frozen 4
  go_wp2
  have HB : Hid (Blk (((((((w1.setCell ⟨w.heap.size, 2, none⟩ (.slice A1 x.v.length c1)).setCell ⟨w.heap.size, 3, none⟩ (.slice B1 x.l.length d1)).setCell ⟨w.heap.size + 1, 0, none⟩ (.int .i64 x.idx)).setCell ⟨w.heap.size + 1, 1, none⟩ (.int .i64 x.term)).setCell ⟨w.heap.size + 1, 2, none⟩ (.slice A1 x.v.length c1)).setCell ⟨w.heap.size + 1, 3, none⟩ (.slice B1 x.l.length d1)).setCell ⟨w.heap.size + 1, 4, none⟩ (.string (text x.b))) (w.heap.size + 1) 27 [.int .i64 x.idx, .int .i64 x.term, .slice A1 x.v.length c1, .slice B1 x.l.length d1, .string (text x.b)]) := by
    have := R1.out.far (p := ⟨w.heap.size, 2, none⟩) (by dsimp only; omega) (.slice A1 x.v.length c1) |>.far (p := ⟨w.heap.size, 3, none⟩) (by dsimp only; omega) (.slice B1 x.l.length d1) |>.set_ 0 (.int .i64 x.idx) |>.set_ 1 (.int .i64 x.term) |>.set_ 2 (.slice A1 x.v.length c1) |>.set_ 3 (.slice B1 x.l.length d1) |>.set_ 4 (.string (text x.b))
    exact Lib.hid (by simpa using this)
  have HK : Hid (Keeps [27] w1 (((((((w1.setCell ⟨w.heap.size, 2, none⟩ (.slice A1 x.v.length c1)).setCell ⟨w.heap.size, 3, none⟩ (.slice B1 x.l.length d1)).setCell ⟨w.heap.size + 1, 0, none⟩ (.int .i64 x.idx)).setCell ⟨w.heap.size + 1, 1, none⟩ (.int .i64 x.term)).setCell ⟨w.heap.size + 1, 2, none⟩ (.slice A1 x.v.length c1)).setCell ⟨w.heap.size + 1, 3, none⟩ (.slice B1 x.l.length d1)).setCell ⟨w.heap.size + 1, 4, none⟩ (.string (text x.b)))) := by
    refine Lib.hid ?_
    have K0 : TypeAt w1 w.heap.size 27 := R0.out.typ
    have K1 : TypeAt w1 (w.heap.size + 1) 27 := R1.out.typ
    exact (Keeps.trans (Keeps.trans (Keeps.trans (Keeps.trans (Keeps.trans (Keeps.trans (Keeps.set_ (i := 2) K0 (by simp) (.slice A1 x.v.length c1)) (Keeps.set_ (i := 3) (K0.setCell ⟨w.heap.size, 2, none⟩ (.slice A1 x.v.length c1)) (by simp) (.slice B1 x.l.length d1))) (Keeps.set_ (i := 0) ((K1.setCell ⟨w.heap.size, 2, none⟩ (.slice A1 x.v.length c1)).setCell ⟨w.heap.size, 3, none⟩ (.slice B1 x.l.length d1)) (by simp) (.int .i64 x.idx))) (Keeps.set_ (i := 1) (((K1.setCell ⟨w.heap.size, 2, none⟩ (.slice A1 x.v.length c1)).setCell ⟨w.heap.size, 3, none⟩ (.slice B1 x.l.length d1)).setCell ⟨w.heap.size + 1, 0, none⟩ (.int .i64 x.idx)) (by simp) (.int .i64 x.term))) (Keeps.set_ (i := 2) ((((K1.setCell ⟨w.heap.size, 2, none⟩ (.slice A1 x.v.length c1)).setCell ⟨w.heap.size, 3, none⟩ (.slice B1 x.l.length d1)).setCell ⟨w.heap.size + 1, 0, none⟩ (.int .i64 x.idx)).setCell ⟨w.heap.size + 1, 1, none⟩ (.int .i64 x.term)) (by simp) (.slice A1 x.v.length c1))) (Keeps.set_ (i := 3) (((((K1.setCell ⟨w.heap.size, 2, none⟩ (.slice A1 x.v.length c1)).setCell ⟨w.heap.size, 3, none⟩ (.slice B1 x.l.length d1)).setCell ⟨w.heap.size + 1, 0, none⟩ (.int .i64 x.idx)).setCell ⟨w.heap.size + 1, 1, none⟩ (.int .i64 x.term)).setCell ⟨w.heap.size + 1, 2, none⟩ (.slice A1 x.v.length c1)) (by simp) (.slice B1 x.l.length d1))) (Keeps.set_ (i := 4) ((((((K1.setCell ⟨w.heap.size, 2, none⟩ (.slice A1 x.v.length c1)).setCell ⟨w.heap.size, 3, none⟩ (.slice B1 x.l.length d1)).setCell ⟨w.heap.size + 1, 0, none⟩ (.int .i64 x.idx)).setCell ⟨w.heap.size + 1, 1, none⟩ (.int .i64 x.term)).setCell ⟨w.heap.size + 1, 2, none⟩ (.slice A1 x.v.length c1)).setCell ⟨w.heap.size + 1, 3, none⟩ (.slice B1 x.l.length d1)) (by simp) (.string (text x.b))))
  refine bodyPost_ret (results_cell rfl _ _ (w.heap.size + 1) rfl [.int .i64 x.idx, .int .i64 x.term, .slice A1 x.v.length c1, .slice B1 x.l.length d1, .string (text x.b)] _ HB.out.range0 Try.underlying27 rfl (by kernel_rfl)) rfl ?_
  exact ⟨A1, c1, B1, d1, rfl, r1.out.nw_keeps HK.out (by decide), r2.out.nw_keeps HK.out (by decide), (Below.setCell (Below.setCell (Below.setCell (Below.setCell (Below.setCell (Below.setCell (Below.setCell HB1.out (by (first | omega | (simp; done) | (simp; omega))) _) (by (first | omega | (simp; done) | (simp; omega))) _) (by (first | omega | (simp; done) | (simp; omega))) _) (by (first | omega | (simp; done) | (simp; omega))) _) (by (first | omega | (simp; done) | (simp; omega))) _) (by (first | omega | (simp; done) | (simp; omega))) _) (by (first | omega | (simp; done) | (simp; omega))) _)⟩
end Go.Proofs.Ytkdmfjpfanmgmaa
