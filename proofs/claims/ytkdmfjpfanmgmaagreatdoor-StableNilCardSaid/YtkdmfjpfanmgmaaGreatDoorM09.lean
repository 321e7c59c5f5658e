/- Joined by mkmerge.py from the proof's texts Put1. Conditions: each theorem's own hypotheses. -/
import Derived.Test.YtkdmfjpfanmgmaaGreatDoorM08
import Derived.Test.YtkdmfjpfanmgmaaGreatDoorM07
import Derived.Deep.RegionLaw
import Derived.Test.YtkdmfjpfanmgmaaGreatDoorM01
namespace Go.Proofs.YtkdmfjpfanmgmaaGreatDoor
open Go.RowKit Le
set_option maxRecDepth 100000
set_option linter.unusedSimpArgs false
set_option linter.unusedVariables false
set_option maxHeartbeats 800000 in
theorem putD_Record_ok (p q : Addr) (u : FrameMode) (w : World) (hc : w.cell? p = some (.int .i64 0)) :
    CallsD Tryz.prog 88 #[.pointer (some p), .pointer (some q)] u w fun e u' w' => u' = u ∧ (e = .returned (.tuple #[]) ∧ w' = w) := by
  go_enter_d Tryz.func88, Tryz.ntmps88
  go_wp2
  go_end0
  exact ⟨rfl, rfl⟩
set_option maxHeartbeats 800000 in
theorem putD_Record_bad (p q : Addr) (u : FrameMode) (w : World) (E : Nat) (x : Value) (h0 : E ≠ 0) (hc : w.cell? p = some (.int .i64 E)) (hq : w.cell? q = some x) (hz : w.frozen? q = false) :
    CallsD Tryz.prog 88 #[.pointer (some p), .pointer (some q)] u w fun e u' w' => u' = u ∧ (e = .returned (.tuple #[]) ∧ w' = w.setCell q (.slice none 0 0)) := by
  have t1 : ((E : Int) == 0) = false := by simpa using h0
  have t2 : ((E : Int) != 0) = true := by simpa using h0
  go_enter_d Tryz.func88, Tryz.ntmps88
  go_wp2
  go_end0
  exact ⟨rfl, rfl⟩
set_option maxHeartbeats 1600000 in
theorem put_Record (ds : List Da) (vs : List Value) (w : World) (hC : Cels w (· < w.heap.size) shRecord ds vs) (hs : (lays shRecord ds ([], 0)).1.length ≤ 1099511627776) :
    Calls Tryz.prog 55 #[.agg vs.toArray, .func (.func 56) #[] #[]] w fun e w' => PutEnd (lays shRecord ds ([], 0)) w' e ∧ Below w.heap.size w w' := by
  have hmf : ∀ (fn : Fn) (first cap : Array Value) (w : World), (Instr.makeFunc fn first cap).run Tryz.prog w = .ok (.func fn first cap) w := fun _ _ _ _ => rfl
  have hi : (Tryz.prog.info? 33).map (·.size) = some vs.length := by rw [hC.len.2]; kernel_rfl
  replace hi := Lib.hid hi
  have HC := Lib.hid hC
  clear hC
  go_enter_defers Tryz.func55, Tryz.ntmps55
  go_wp2_with (with_reducible refine wpList_load_mid rfl 33 _ rfl w.heap.size 0 rfl vs _ (by exact ((((Blk.new w _ vs).alloc _).alloc _).alloc _).range0) Tryz.underlying33 rfl hi.out ?_)
  refine at_below w _ (by repeat (first | exact Below.refl _ _ | refine Below.setCell ?_ (Nat.le_refl _) _ | refine Below.alloc ?_ (by simp <;> omega) _)) fun HBx => ?_
  refine (W_record (w.heap.size + 1 + 1 + 1) (w.heap.size + 1 + 1 + 1) ds _ ([], 0) _ ?_ rfl ?_ hs).mono ?_
  · exact ⟨none, 0, 0, by have := Blk.new (((w.alloc (Obj.cells vs.toArray 33)).alloc (Obj.cells #[Value.slice none 0 0] 72)).alloc (Obj.cells #[Value.int IntKind.i64 0] 39)) 147 [.slice none 0 0]; simpa using this, by simpa [u8s] using World.ownsRow_nil _ (w.heap.size + 1 + 1 + 1) 5 1, Nat.le_refl _⟩
  · exact (HC.out.below HBx).more (by omega)
  rintro e w1 ⟨hE, hK⟩
  have HP5 : Hid (Blk w1 (w.heap.size + 1 + 1) 39 [.int .i64 0]) := Lib.hid (Blk.below (by have := (Blk.new ((w.alloc (Obj.cells vs.toArray 33)).alloc (Obj.cells #[Value.slice none 0 0] 72)) 39 [.int .i64 0]).alloc (.cells #[.slice none 0 0] 147); simpa using this) hK.below (by omega))
  have HP4 : Hid (Blk w1 (w.heap.size + 1) 72 [.slice none 0 0]) := Lib.hid (Blk.below (by have := ((Blk.new (w.alloc (Obj.cells vs.toArray 33)) 72 [.slice none 0 0]).alloc (.cells #[.int .i64 0] 39)).alloc (.cells #[.slice none 0 0] 147); simpa using this) hK.below (by omega))
  have HB1 : Hid (Below w.heap.size w w1) := Lib.hid (HBx.trans (hK.below.mono (by omega)))
  have hsz := hK.below.size
  clear HBx hK
  have hp5 := HP5.out.cell 0
  have hp4 := HP4.out.cell 0
  simp only [List.getElem?_cons_zero] at hp5 hp4
  have hz5 := HP5.out.frozen 0
  have hz4 := HP4.out.frozen 0
  rcases hE with ⟨h0, rfl, A, n, c, hB, hO, hbg⟩ | ⟨h0, rfl⟩
  · have hcw : w1.cell? ⟨w.heap.size + 1 + 1 + 1, 0, none⟩ = some (.slice A n c) := hB.cell 0
    have HO := Lib.hid hO
    have HN : Hid ((lays shRecord ds ([], 0)).1.length = n) := Lib.hid (by have := hO.1; simpa using this)
    have H0 := Lib.hid h0
    clear hB hO h0
    go_wp2
    have HQ4 : Hid (Blk ((w1.setCell ⟨w.heap.size + 1, 0, none⟩ (.slice A n c)).setCell ⟨w.heap.size + 1 + 1, 0, none⟩ (.int .i64 0)) (w.heap.size + 1) 72 [.slice A n c]) := Lib.hid ((HP4.out.set_ 0 (.slice A n c)).far (by simp) _)
    have HQ5 : Hid (Blk ((w1.setCell ⟨w.heap.size + 1, 0, none⟩ (.slice A n c)).setCell ⟨w.heap.size + 1 + 1, 0, none⟩ (.int .i64 0)) (w.heap.size + 1 + 1) 39 [.int .i64 0]) := Lib.hid ((HP5.out.far (by simp) _).set_ 0 (.int .i64 0))
    refine leaves_cons (f := 89) (args := #[.pointer (some ⟨w.heap.size + 1 + 1, 0, none⟩)]) (by simp) (by simp [go_sem]) ?_
    refine (caught_idle _ _).mono ?_
    rintro e u' w'' ⟨rfl, rfl, rfl⟩
    refine leaves_cons (f := 88) (args := #[.pointer (some ⟨w.heap.size + 1 + 1, 0, none⟩), .pointer (some ⟨w.heap.size + 1, 0, none⟩)]) (by simp [settle]) (by simp [go_sem]) ?_
    refine (putD_Record_ok _ _ _ _ (HQ5.out.cell 0)).mono ?_
    rintro e u' w'' ⟨rfl, rfl, rfl⟩
    have hq4 := HQ4.out.cell 0
    have hq5 := HQ5.out.cell 0
    simp only [List.getElem?_cons_zero] at hq4 hq5
    simp [Leaves, settle, results, Tryz.results55, go_sem, hq4, hq5]
    have hO1 : (w1.setCell ⟨w.heap.size + 1, 0, none⟩ (.slice A n c)).ownsRow (w.heap.size + 1 + 1 + 1) 5 1 (.slice A n c) n _ := HO.out.kept (grownBy_setCell (World.grownBy.refl _ _) 0 _) (.inr (blk_own_ne HP4.out HO.out (by decide)).symm)
    have hO2 : ((w1.setCell ⟨w.heap.size + 1, 0, none⟩ (.slice A n c)).setCell ⟨w.heap.size + 1 + 1, 0, none⟩ (.int .i64 0)).ownsRow (w.heap.size + 1 + 1 + 1) 5 1 (.slice A n c) n _ := hO1.kept (grownBy_setCell (World.grownBy.refl _ _) 0 _) (.inr (blk_own_ne (HP5.out.far (p := ⟨w.heap.size + 1, 0, none⟩) (by simp) (.slice A n c)) hO1 (by decide)).symm)
    have ho : out (lays shRecord ds ([], 0)) = (lays shRecord ds ([], 0)).1 := by unfold out; rw [if_pos H0.out]
    exact ⟨⟨A, n, c, by rw [H0.out]; rfl, by rw [ho, HN.out], own_cap hO2, by rw [ho]; exact Reads.of_own hO2⟩, (HB1.out.setCell (by dsimp only; omega) _).setCell (by dsimp only; omega) _⟩
  · refine leaves_cons (f := 89) (args := #[.pointer (some ⟨w.heap.size + 1 + 1, 0, none⟩)]) (by simp) (by simp [go_sem]) ?_
    refine (caught_hit _ _ _ _ _ hp5 hz5).mono ?_
    rintro e u' w'' ⟨rfl, rfl, rfl⟩
    generalize hE : (lays shRecord ds ([], 0)).2 = E at *
    have HQ4 : Hid (Blk (w1.setCell ⟨w.heap.size + 1 + 1, 0, none⟩ (.int .i64 E)) (w.heap.size + 1) 72 [.slice none 0 0]) := Lib.hid (HP4.out.far (by simp) _)
    have HQ5 : Hid (Blk (w1.setCell ⟨w.heap.size + 1 + 1, 0, none⟩ (.int .i64 E)) (w.heap.size + 1 + 1) 39 [.int .i64 E]) := Lib.hid (HP5.out.set_ 0 (.int .i64 E))
    refine leaves_cons (f := 88) (args := #[.pointer (some ⟨w.heap.size + 1 + 1, 0, none⟩), .pointer (some ⟨w.heap.size + 1, 0, none⟩)]) (by simp [settle]) (by simp [go_sem]) ?_
    refine (putD_Record_bad _ _ _ _ E _ h0 (HQ5.out.cell 0) (HQ4.out.cell 0) (HQ4.out.frozen 0)).mono ?_
    rintro e u' w'' ⟨rfl, rfl, rfl⟩
    have hq4 := (HQ4.out.set_ 0 (.slice none 0 0)).cell 0
    have hq5 := (HQ5.out.far (p := ⟨w.heap.size + 1, 0, none⟩) (by simp) (.slice none 0 0)).cell 0
    simp only [List.set_cons_zero, List.getElem?_cons_zero] at hq4 hq5
    simp [Leaves, settle, results, Tryz.results55, go_sem, hq4, hq5]
    have ho : out (lays shRecord ds ([], 0)) = [] := by unfold out; rw [hE, if_neg h0]
    exact ⟨⟨none, 0, 0, by rw [hE], by rw [ho]; rfl, by omega, by rw [ho]; exact Reads.none_⟩, (HB1.out.setCell (by dsimp only; omega) _).setCell (by dsimp only; omega) _⟩
set_option maxHeartbeats 1600000 in
theorem wput_Record (ds : List Da) (vs : List Value) (w : World) (hC : Cels w (· < w.heap.size) shRecord ds vs) (hs : (lays shRecord ds ([], 0)).1.length ≤ 1099511627776) :
    Calls Tryz.prog 28 #[.agg vs.toArray] w fun e w' => PutEnd (lays shRecord ds ([], 0)) w' e ∧ Below w.heap.size w w' := by
  have hi : (Tryz.prog.info? 33).map (·.size) = some vs.length := by rw [hC.len.2]; kernel_rfl
  replace hi := Lib.hid hi
  have HC := Lib.hid hC
  clear hC
  go_enter Tryz.func28, Tryz.ntmps28
  go_wp2_with (with_reducible refine wpList_load_mid rfl 33 _ rfl w.heap.size 0 rfl vs _ (by exact (Blk.new w _ vs).range0) Tryz.underlying33 rfl hi.out ?_)
  refine at_below w _ (by repeat (first | exact Below.refl _ _ | refine Below.setCell ?_ (Nat.le_refl _) _ | refine Below.alloc ?_ (Nat.le_refl _) _)) fun HBx => ?_
  refine (put_Record ds vs _ ((HC.out.below HBx).more (by simp)) hs).mono ?_
  rintro e w1 ⟨⟨A, n, c, rfl, hn, hcap, hR⟩, hK⟩
  have HN := Lib.hid hn
  have HB := Lib.hid (HBx.trans (hK.mono (by simp)))
  clear hn hK HBx
  go_wp2
  go_ret2
  exact ⟨⟨A, n, c, rfl, HN.out, hcap, hR⟩, HB.out⟩
end Go.Proofs.YtkdmfjpfanmgmaaGreatDoor
