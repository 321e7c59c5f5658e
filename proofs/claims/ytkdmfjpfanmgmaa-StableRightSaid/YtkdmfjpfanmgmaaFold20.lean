/- What stable throws is caught: the deferred calls of folded. -/
import Derived.Test.YtkdmfjpfanmgmaaFold19
import Derived.Recover
import Derived.Defers
namespace Go.Proofs.Ytkdmfjpfanmgmaa
open Go.RowKit Le
set_option maxRecDepth 100000
set_option linter.unusedSimpArgs false
set_option linter.unusedVariables false

theorem sfault_is (E : Nat) (w : World) : (Instr.typeAssert (.iface 77 (.agg #[.int .i64 E])) 20 77 false).run Try.prog w = .ok (.agg #[.int .i64 E]) w := by kernel_rfl
theorem sfault_field (E : Nat) (w : World) : (Instr.field 77 (.agg #[.int .i64 E]) 0).run Try.prog w = .ok (.int .i64 E) w := by kernel_rfl
set_option maxHeartbeats 800000 in
theorem scaught_idle (p : Addr) (w : World) :
    CallsD Try.prog 32 #[.pointer (some p)] .returning w fun e u' w' => e = .returned (.tuple #[]) ∧ u' = .returning ∧ w' = w := by
  refine callsD_of_wpS Try.func32 rfl fun c₀ cs hu => ?_
  apply wpS_seq
  apply wpS_region
  simp [wpOpsS, go_sem, recoverD, hu, Try.ntmps32, Exit.thenS]
  apply wpS_seq
  apply wpS_region
  simp [wpOpsS, go_sem, recoverD, hu, Try.ntmps32, Exit.thenS]
  refine wpS_cond (t := false) (by simp [Act.eval, Array.replicate]) ?_
  simp only [Bool.false_eq_true, if_false]
  refine wpS_of_wp (wp_skip ?_)
  cases c₀
  simp_all [bodyPostS, results]

set_option maxHeartbeats 800000 in
theorem scaught_hit (p : Addr) (E : Nat) (x : Int) (older : List PanicEntry) (w : World) (hc : w.cell? p = some (.int .i64 x)) (hz : w.frozen? p = false) :
    CallsD Try.prog 32 #[.pointer (some p)] (.panicking ({ v := .iface 77 (.agg #[.int .i64 E]), recovered := false } :: older)) w fun e u' w' =>
      e = .returned (.tuple #[]) ∧ u' = .panicking ({ v := .iface 77 (.agg #[.int .i64 E]), recovered := true } :: older) ∧ w' = w.setCell p (.int .i64 E) := by
  refine callsD_of_wpS Try.func32 rfl fun c₀ cs hu => ?_
  apply wpS_seq
  apply wpS_region
  simp [wpOpsS, go_sem, recoverD, hu, Try.ntmps32, Exit.thenS]
  apply wpS_seq
  apply wpS_region
  simp [wpOpsS, go_sem, recoverD, hu, Try.ntmps32, Exit.thenS]
  refine wpS_cond (t := true) (by simp [Act.eval, Array.replicate]) ?_
  simp only [if_true]
  refine wpS_of_wp ?_
  have hta := sfault_is E
  have htf := sfault_field E
  clear hu
  go_wp2
  simp [bodyPostS, results]

set_option maxHeartbeats 800000 in
theorem foldedD_ok (p q : Addr) (u : FrameMode) (w : World) (hc : w.cell? p = some (.int .i64 0)) :
    CallsD Try.prog 31 #[.pointer (some p), .pointer (some q)] u w fun e u' w' => u' = u ∧ (e = .returned (.tuple #[]) ∧ w' = w) := by
  go_enter_d Try.func31, Try.ntmps31
  go_wp2
  go_end0
  exact ⟨rfl, rfl⟩
set_option maxHeartbeats 1600000 in
theorem foldedD_bad (p : Addr) (g : Nat) (u : FrameMode) (w : World) (E : Nat) (v0 v1 v2 v3 v4 v5 v6 v7 : Value) (h0 : E ≠ 0) (hp : p.block ≠ g) (hc : w.cell? p = some (.int .i64 E)) (hB : Blk w g 30 [v0, v1, v2, v3, v4, v5, v6, v7]) :
    CallsD Try.prog 31 #[.pointer (some p), .pointer (some ⟨g, 0, none⟩)] u w fun e u' w' => u' = u ∧ (e = .returned (.tuple #[]) ∧ Blk w' g 30 (Kep.zero.cs none 0 none 0 none 0) ∧ Below g w w' ∧ w'.cell? p = some (.int .i64 E)) := by
  have t1 : ((E : Int) == 0) = false := by simpa using h0
  have t2 : ((E : Int) != 0) = true := by simpa using h0
  have HB := Lib.hid hB
  clear hB
  have a0 : w.cell? ⟨g, 0, none⟩ = some v0 := HB.out.cell 0
  have a1 : w.cell? ⟨g, 1, none⟩ = some v1 := HB.out.cell 1
  have a2 : w.cell? ⟨g, 2, none⟩ = some v2 := HB.out.cell 2
  have a3 : w.cell? ⟨g, 3, none⟩ = some v3 := HB.out.cell 3
  have a4 : w.cell? ⟨g, 4, none⟩ = some v4 := HB.out.cell 4
  have a5 : w.cell? ⟨g, 5, none⟩ = some v5 := HB.out.cell 5
  have a6 : w.cell? ⟨g, 6, none⟩ = some v6 := HB.out.cell 6
  have a7 : w.cell? ⟨g, 7, none⟩ = some v7 := HB.out.cell 7
  have p0 : w.frozen? ⟨g, 0, none⟩ = false := HB.out.frozen 0
  have p1 : w.frozen? ⟨g, 1, none⟩ = false := HB.out.frozen 1
  have p2 : w.frozen? ⟨g, 2, none⟩ = false := HB.out.frozen 2
  have p3 : w.frozen? ⟨g, 3, none⟩ = false := HB.out.frozen 3
  have p4 : w.frozen? ⟨g, 4, none⟩ = false := HB.out.frozen 4
  have p5 : w.frozen? ⟨g, 5, none⟩ = false := HB.out.frozen 5
  have p6 : w.frozen? ⟨g, 6, none⟩ = false := HB.out.frozen 6
  have p7 : w.frozen? ⟨g, 7, none⟩ = false := HB.out.frozen 7
  go_enter_d Try.func31, Try.ntmps31
  go_wp2
  go_end0
  refine ⟨rfl, ?_, (by repeat (first | with_reducible exact (Below.refl g w) | (with_reducible refine Below.setCell ?_ (by dsimp only; (first | omega | (simp; done) | (simp; omega))) _) | (with_reducible refine Below.alloc ?_ (by (first | omega | (simp; done) | (simp; omega))) _) | with_reducible refine Below.drew ?_)), ?_⟩
  rotate_left
  · have hne : ∀ i, p ≠ ⟨g, i, none⟩ := fun i h => hp (by rw [h])
    have hne' : ∀ i, (⟨g, i, none⟩ : Addr) ≠ p := fun i h => hp (by rw [← h])
    repeat (first | rw [World.cell?_setCell_other _ _ _ _ (hne _)] | rw [World.cell?_setCell_other _ _ _ _ (hne' _)])
    exact hc
  have := HB.out.set_ 0 (.int .i64 0) |>.set_ 1 (.int .i64 0) |>.set_ 2 (.int .i64 0) |>.set_ 3 (.int .i64 0) |>.set_ 4 (.slice none 0 0) |>.set_ 5 (.slice none 0 0) |>.set_ 6 (.string (text [])) |>.set_ 7 (.slice none 0 0)
  have h0 : text [] = ⟨#[]⟩ := rfl
  simp only [Kep.cs, Kep.zero, Snp.zero]
  simpa [h0] using this
end Go.Proofs.Ytkdmfjpfanmgmaa
