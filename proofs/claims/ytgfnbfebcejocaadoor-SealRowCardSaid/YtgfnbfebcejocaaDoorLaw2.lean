/- The walks of the statements of layer 2: sums. -/
import Derived.Test.YtgfnbfebcejocaaDoorSeal
import Derived.Lib.SlBytesConst
namespace Go.Proofs.YtgfnbfebcejocaaDoor
open Go.RowKit Le

theorem reads_len {w : World} {B n : Nat} {A : Option Addr} {l : List UInt8} (h : Reads w B A n (u8s l)) : l.length = n := by
  have := h.len; rwa [u8s_length] at this
/-- Bytes that were lent, as their owner's slice. -/
theorem lent_reads {w : World} {g n : Nat} {t : TypeId} {l : List UInt8} (h : Blk w g t (u8s (l ++ marks))) (hl : l.length = n) : Reads w w.heap.size (some ⟨g, 0, none⟩) n (u8s l) := by
  have h := h.reads (n := n) (by simp; omega)
  rwa [u8s_append, List.take_left' (by simpa using hl)] at h

theorem sum_nil : Crc.sum [] = 0 := by decide
theorem sum_a : Crc.sum [97] = 3904355907 := by decide

set_option maxHeartbeats 800000 in
theorem sums_any (w : World) (hT : Tab w) : Calls Tryd.prog 13 #[] w fun e w' => e = .returned (.bool true) ∧ Below w.heap.size w w' := by
  have C1 := sum_any none 0 0 0 [] w Reads.none_ hT (by omega)
  rw [sum_nil] at C1
  have C2 := sum_any (some ⟨w.heap.size, 0, none⟩) 1 1 (w.heap.size + 1) [97] (w.alloc (.cells #[.int .u8 97] 5 (1, 2)))
    ⟨rfl, fun _ => ⟨_, rfl, by simp, fun j u hu => by
      have hj : j = 0 := by
        rcases Nat.lt_or_ge j 1 with h | h
        · omega
        · rw [List.getElem?_eq_none (by simpa [u8s] using h)] at hu; cases hu
      subst hj
      exact (World.cell?_alloc_mark w #[.int .u8 97] 5 (1, 2) 0).trans hu⟩⟩ (hT.alloc _) (by omega)
  rw [sum_a] at C2
  have D1 := Lib.hid C1
  have D2 := Lib.hid C2
  clear C1 C2 hT
  have kc := fun (w : World) (C : Array Value) (n c : Nat) => Lib.run_convert_bytes_const (P := Tryd.prog) w 22 5 C n c Tryd.underlying22 Tryd.underlying5
  go_enter Tryd.func13, Tryd.ntmps13
  go_wp2_with fail
  refine (unhide D1).mono ?_
  rintro e w' ⟨rfl, rfl⟩
  go_wp2_with fail
  refine (unhide D2).mono ?_
  rintro e w' ⟨rfl, rfl⟩
  go_wp2
  go_ret
  exact ⟨rfl, (Below.refl _ _).alloc (Nat.le_refl _) _⟩

set_option maxHeartbeats 800000 in
theorem sealSums_small (A : Option Addr) (n c : Nat) (l : List UInt8) (w : World) (hT : Tab w) (hb : Reads w w.heap.size A n (u8s l)) (hn : n ≤ 2097152) :
    Calls Tryd.prog 3 #[.slice A n c] w fun e w' => e = .returned (.bool true) ∧ Below w.heap.size w w' := by
  have HL := Lib.hid (reads_len hb)
  have HT := Lib.hid hT
  clear hT
  go_enter Tryd.func3, Tryd.ntmps3
  go_wp2_with fail
  refine (lend_any A n c l w hb (by omega)).mono ?_
  rintro e w1 ⟨rfl, hX, hw1⟩
  have HX := Lib.hid hX
  have HT1 := Lib.hid (HT.out.below hw1 HT.out.lt)
  have HB1 := Lib.hid (hb.below hw1)
  clear hX hb
  go_wp2_with fail
  refine (sum_any _ n (n + 2) _ l w1 (lent_reads HX.out HL.out) HT1.out (by omega)).mono ?_
  rintro e w' ⟨rfl, rfl⟩
  go_wp2_with fail
  refine (back_any A n c w.heap.size w.heap.size l w1 HB1.out (Nat.le_refl _) HX.out (by omega)).mono ?_
  rintro e w2 ⟨rfl, hg2⟩
  have HW2 := Lib.hid (hw1.grown hg2 hw1.size (by intro k hk; injection hk with hk; omega))
  have HB2 := Lib.hid (HB1.out.grown hg2 hw1.size (by intro k hk; injection hk with hk; omega))
  have HT2 := Lib.hid (HT.out.below HW2.out HT.out.lt)
  clear hg2 hw1 HB1 HT1 HX
  go_wp2_with fail
  refine (sums_any w2 HT2.out).mono ?_
  rintro e w3 ⟨rfl, hw3⟩
  have HW3 := Lib.hid (HW2.out.trans (hw3.mono HW2.out.size))
  have HB3 := Lib.hid (HB2.out.below (hw3.mono HW2.out.size))
  clear hw3 HW2 HB2 HT2
  go_wp2_with fail
  refine (refSum_any A n c _ l w3 HB3.out (by omega)).mono ?_
  rintro e w' ⟨rfl, rfl⟩
  go_wp2
  go_ret
  exact ⟨rfl, HW3.out⟩

set_option maxHeartbeats 400000 in
theorem sealSums_big (A : Option Addr) (n c : Nat) (w : World) (hn : 2097152 < n) :
    Calls Tryd.prog 3 #[.slice A n c] w fun e w' => e = .returned (.bool true) ∧ Below w.heap.size w w' := by
  go_enter Tryd.func3, Tryd.ntmps3
  go_wp2
  go_ret
  exact ⟨rfl, Below.refl _ _⟩
end Go.Proofs.YtgfnbfebcejocaaDoor
