/- The walks of package seal, on: frames, and the reference's. -/
import Derived.Test.YtgfnbfebcejocaaDoorSeal2
namespace Go.Proofs.YtgfnbfebcejocaaDoor
open Go.RowKit Le

def frameOf (l : List UInt8) : List UInt8 := headOf l ++ l
@[simp] theorem headOf_length (l : List UInt8) : (headOf l).length = 8 := by simp [headOf]
@[simp] theorem frameOf_length (l : List UInt8) : (frameOf l).length = 8 + l.length := by simp [frameOf]

set_option maxHeartbeats 800000 in
theorem frame_ok (A : Option Addr) (n c : Nat) (l : List UInt8) (w : World) (hT : Tab w) (hb : Reads w w.heap.size A n (u8s l)) (hn : n ≤ 1048576) :
    Calls Tryd.prog 15 #[.slice A n c] w fun e w' => ∃ A' c', e = .returned (.tuple #[.slice A' (8 + n) c', .int .i64 0]) ∧ Made w w' 5 A' (8 + n) c' (frameOf l) := by
  obtain ⟨i0, hi0, hz0, hz1, hz2⟩ := info_parts info_u8
  have HL := Lib.hid (reads_len hb)
  go_enter Tryd.func15, Tryd.ntmps15
  go_wp2_with fail
  refine (head_any A n c l w hT hb hn).mono ?_
  rintro e w1 ⟨A1, c1, rfl, hM⟩
  have HM := Lib.hid hM
  have z1 := hM.below.size
  have HB := Lib.hid (hb.below hM.below)
  clear hM hb hT
  go_wp2_with (at_builtin; refine wpList_app rfl _ _ _ rfl w.heap.size 5 i0 _ 1 Tryd.underlying22 hi0 hz0 hz1 hz2 rfl (.slice A1 8 c1) _ _ rfl HM.out.own _ _ n c _ rfl HB.out (u8s_one _) (by unfold maxLen; omega) (by omega) z1 w HM.out.below ?_; intro A3 c3 w3 HO3 hb3 _)
  go_ret2
  exact ⟨A3, c3, rfl, by rw [frameOf, u8s_append]; exact HO3.out, hb3⟩

set_option maxHeartbeats 400000 in
theorem frame_no (A : Option Addr) (n c : Nat) (w : World) (hn : 1048576 < n) :
    Calls Tryd.prog 15 #[.slice A n c] w fun e w' => e = .returned (.tuple #[.slice none 0 0, .int .i64 2]) ∧ w = w' := by
  go_enter Tryd.func15, Tryd.ntmps15
  go_wp2
  go_ret2
  exact ⟨rfl, rfl⟩

set_option maxHeartbeats 800000 in
theorem summed_any (A : Option Addr) (n c : Nat) (l : List UInt8) (w : World) (hb : Reads w w.heap.size A n (u8s l)) (hn : n ≤ 1048576) :
    Calls Tryd.prog 26 #[.slice A n c] w fun e w' => e = .returned (.int .u32 (Crc.sum (low l.length 4 ++ l))) ∧ Below w.heap.size w w' := by
  obtain ⟨i0, hi0, hz0, hz1, hz2⟩ := info_parts info_u8
  have HL := Lib.hid (reads_len hb)
  rw [HL.out]
  go_enter Tryd.func26, Tryd.ntmps26
  go_wp2_with fail
  refine (low_any n 4 w (by omega) (by omega)).mono ?_
  rintro e w1 ⟨A1, c1, rfl, hM⟩
  have HM := Lib.hid hM
  have z1 := hM.below.size
  have HB := Lib.hid (hb.below hM.below)
  clear hM hb
  go_wp2_with (at_builtin; refine wpList_app rfl _ _ _ rfl w.heap.size 5 i0 _ 1 Tryd.underlying22 hi0 hz0 hz1 hz2 rfl (.slice A1 4 c1) _ _ rfl HM.out.own _ _ n c _ rfl HB.out (u8s_one _) (by unfold maxLen; omega) (by omega) z1 w HM.out.below ?_; intro A3 c3 w3 HO3 hb3 _)
  have hr3 : Reads w3 w3.heap.size A3 (4 + n) (u8s (low n 4 ++ l)) := by have h := Reads.of_own HO3.out; rwa [← u8s_append] at h
  clear HO3 HM HB
  refine (refSum_any A3 (4 + n) c3 _ _ w3 hr3 (by omega)).mono ?_
  rintro e w' ⟨rfl, rfl⟩
  go_wp2
  go_ret
  exact ⟨rfl, hb3⟩

set_option maxHeartbeats 1600000 in
theorem refFrame_ok (A : Option Addr) (n c : Nat) (l : List UInt8) (w : World) (hb : Reads w w.heap.size A n (u8s l)) (hn : n ≤ 1048576) :
    Calls Tryd.prog 16 #[.slice A n c] w fun e w' => ∃ A' c', e = .returned (.tuple #[.slice A' (8 + n) c', .int .i64 0]) ∧ Made w w' 5 A' (8 + n) c' (frameOf l) := by
  obtain ⟨i0, hi0, hz0, hz1, hz2⟩ := info_parts info_u8
  have HL := Lib.hid (reads_len hb)
  go_enter Tryd.func16, Tryd.ntmps16
  go_wp2_with fail
  refine (low_any n 4 w (by omega) (by omega)).mono ?_
  rintro e w1 ⟨A1, c1, rfl, hM⟩
  have HM := Lib.hid hM
  have z1 := hM.below.size
  have HB := Lib.hid (hb.below hM.below)
  clear hM hb
  go_wp2_with fail
  refine (summed_any A n c l w1 (HB.out.more z1) hn).mono ?_
  rintro e w2 ⟨rfl, hw2⟩
  have HO2 : Hid (w2.ownsRow w.heap.size 5 1 (.slice A1 4 c1) 4 (u8s (low n 4))) := HM.out.own.below_ hw2
  have HW2 := Lib.hid (HM.out.below.trans (hw2.mono z1))
  have HB2 := Lib.hid (HB.out.below (hw2.mono z1))
  have z2 := HW2.out.size
  obtain ⟨S, HS⟩ : ∃ S, Hid (Crc.sum (low l.length 4 ++ l) = S) := ⟨_, Lib.hid rfl⟩
  have hS : S < 4294967296 := by rw [← HS.out]; exact Crc.sum_lt _
  rw [HS.out]
  clear hw2 HM HB
  go_wp2_with fail
  refine (low_any S 4 w2 (by omega) (by omega)).mono ?_
  rintro e w3 ⟨A3, c3, rfl, hM3⟩
  have HO3 : Hid (w3.ownsRow w.heap.size 5 1 (.slice A1 4 c1) 4 (u8s (low n 4))) := HO2.out.below_ hM3.below
  have HW3 := Lib.hid (HW2.out.trans (hM3.below.mono z2))
  have HB3 := Lib.hid (HB2.out.below (hM3.below.mono z2))
  have HR3 := Lib.hid hM3.reads
  have z3 := HW3.out.size
  clear hM3 HO2 HW2 HB2
  go_wp2_with (first
    | (at_builtin
       refine wpList_app rfl (.tmp 12) (.tmp 16) _ rfl w.heap.size 5 i0 _ 1 Tryd.underlying22 hi0 hz0 hz1 hz2 rfl (.slice A1 4 c1) _ _ rfl HO3.out _ _ 4 c3 _ rfl HR3.out (u8s_one _) (by unfold maxLen; omega) (by omega) z3 w HW3.out ?_
       intro A4 c4 w4 HO4 hb4 HG4
       have z4 := hb4.size
       have HB4 := Lib.hid (HB3.out.grown HG4.out z3 (own_block_ge HO3.out))
       have HW4 := Lib.hid hb4
       clear hb4 HG4)
    | (at_builtin
       refine wpList_app rfl (.tmp 18) (.tmp 19) _ rfl w.heap.size 5 i0 _ 1 Tryd.underlying22 hi0 hz0 hz1 hz2 rfl (.slice A4 8 c4) 8 _ rfl HO4.out _ _ n c _ rfl HB4.out (u8s_one _) (by unfold maxLen; omega) (by omega) z4 w HW4.out ?_
       intro A5 c5 w5 HO5 hb5 _))
  go_ret2
  refine ⟨A5, c5, rfl, ?_, hb5⟩
  have h := HO5.out
  rw [← u8s_append, ← u8s_append] at h
  unfold frameOf headOf
  rw [HL.out] at HS ⊢
  rw [HS.out]
  exact h

set_option maxHeartbeats 400000 in
theorem refFrame_no (A : Option Addr) (n c : Nat) (w : World) (hn : 1048576 < n) :
    Calls Tryd.prog 16 #[.slice A n c] w fun e w' => e = .returned (.tuple #[.slice none 0 0, .int .i64 2]) ∧ w = w' := by
  go_enter Tryd.func16, Tryd.ntmps16
  go_wp2
  go_ret2
  exact ⟨rfl, rfl⟩

theorem frame_nil : frameOf [] = [0, 0, 0, 0, 28, 223, 68, 33] := by decide

set_option maxHeartbeats 400000 in
theorem frames_any (w : World) (hT : Tab w) : Calls Tryd.prog 17 #[] w fun e w' => e = .returned (.bool true) ∧ Below w.heap.size w w' := by
  go_enter Tryd.func17, Tryd.ntmps17
  go_wp2_with fail
  refine (frame_ok none 0 0 [] w hT Reads.none_ (by omega)).mono ?_
  rintro e w1 ⟨A, c, rfl, hM⟩
  have hr : Reads w1 w1.heap.size A 8 (u8s [0, 0, 0, 0, 28, 223, 68, 33]) := frame_nil ▸ hM.reads
  have k := run_text (P := Tryd.prog) (c := c) Tryd.underlying22 Tryd.underlying5 Tryd.underlying9 hr
  have hw := hM.below
  clear hM hr
  go_wp2
  go_ret
  exact ⟨by (simp) <;> rfl, hw⟩

/-! ### SealFrames -/
theorem conv_at (B : Nat) (A : Option Addr) (n c : Nat) (l : List UInt8) (W : World) (h : Reads W B A n (u8s l)) : (convert 22 9 (.slice A n c)).run Tryd.prog W = .ok (.string (text l)) W :=
  run_text Tryd.underlying22 Tryd.underlying5 Tryd.underlying9 h

set_option maxHeartbeats 1600000 in
theorem sealFrames_small (A : Option Addr) (n c : Nat) (l : List UInt8) (w : World) (hT : Tab w) (hb : Reads w w.heap.size A n (u8s l)) (hn : n ≤ 1048576) :
    Calls Tryd.prog 4 #[.slice A n c] w fun e w' => e = .returned (.bool true) ∧ Below w.heap.size w w' := by
  have HL := Lib.hid (reads_len hb)
  have HT := Lib.hid hT
  clear hT
  go_enter Tryd.func4, Tryd.ntmps4
  go_wp2_with fail
  refine (lend_any A n c l w hb (by omega)).mono ?_
  rintro e w1 ⟨rfl, hX, hw1⟩
  have HX := Lib.hid hX
  have z1 := hX.lt
  have HT1 := Lib.hid (HT.out.below hw1 HT.out.lt)
  have HB1 := Lib.hid (hb.below hw1)
  clear hX hb
  go_wp2_with fail
  refine (frame_ok _ n (n + 2) l w1 HT1.out (lent_reads HX.out HL.out) hn).mono ?_
  rintro e w2 ⟨A2, c2, rfl, hM2⟩
  have HM2 := Lib.hid hM2.own
  have HX2 := Lib.hid (HX.out.below hM2.below z1)
  have HB2 := Lib.hid (HB1.out.below (hM2.below.mono (by omega)))
  have HW2 := Lib.hid (hw1.trans (hM2.below.mono (by omega)))
  clear hM2 HX HB1 HT1 hw1
  go_wp2_with fail
  refine (back_any A n c w.heap.size w.heap.size l w2 HB2.out (Nat.le_refl _) HX2.out (by omega)).mono ?_
  rintro e w3 ⟨rfl, hg3⟩
  have HW3 := Lib.hid (HW2.out.grown hg3 HW2.out.size (by intro k hk; injection hk with hk; omega))
  have HB3 := Lib.hid (HB2.out.grown hg3 HW2.out.size (by intro k hk; injection hk with hk; omega))
  have HM3 := Lib.hid (HM2.out.kept hg3 (.inr fun h => by have := (HM2.out.lt _ h).1; omega))
  clear hg3 HW2 HB2 HM2 HX2
  have z3 := HW3.out.size
  go_wp2_with fail
  refine (refFrame_ok A n c l w3 (HB3.out.more z3) hn).mono ?_
  rintro e w4 ⟨A4, c4, rfl, hM4⟩
  have HW4 := Lib.hid (HW3.out.trans (hM4.below.mono z3))
  have HR4 := Lib.hid hM4.reads
  have HO4 := Lib.hid ((Reads.of_own HM3.out).below hM4.below)
  have HT4 := Lib.hid (HT.out.below HW4.out HT.out.lt)
  have z4 := hM4.below.size
  clear hM4 HW3 HB3 HM3
  go_wp2_with fail
  refine (frames_any w4 HT4.out).mono ?_
  rintro e w5 ⟨rfl, hw5⟩
  have HW5 := Lib.hid (HW4.out.trans (hw5.mono HW4.out.size))
  have k2 := conv_at _ A2 (8 + n) c2 _ w5 (HO4.out.below (hw5.mono z4))
  have k3 := conv_at _ A4 (8 + n) c4 _ w5 (HR4.out.below hw5)
  clear hw5 HW4 HO4 HR4 HT4
  go_wp2
  go_ret
  exact ⟨by (simp) <;> rfl, HW5.out⟩

set_option maxHeartbeats 800000 in
theorem sealFrames_no (A : Option Addr) (n c : Nat) (l : List UInt8) (w : World) (hT : Tab w) (hb : Reads w w.heap.size A n (u8s l)) (hn : n ≤ 2097152) (hN : 1048576 < n) :
    Calls Tryd.prog 4 #[.slice A n c] w fun e w' => e = .returned (.bool true) ∧ Below w.heap.size w w' := by
  have HT := Lib.hid hT
  clear hT
  go_enter Tryd.func4, Tryd.ntmps4
  go_wp2_with fail
  refine (lend_any A n c l w hb (by omega)).mono ?_
  rintro e w1 ⟨rfl, hX, hw1⟩
  have HX := Lib.hid hX
  have HB1 := Lib.hid (hb.below hw1)
  clear hX hb
  go_wp2_with fail
  refine (frame_no _ n (n + 2) w1 hN).mono ?_
  rintro e w' ⟨rfl, rfl⟩
  go_wp2_with fail
  refine (back_any A n c w.heap.size w.heap.size l w1 HB1.out (Nat.le_refl _) HX.out (by omega)).mono ?_
  rintro e w3 ⟨rfl, hg3⟩
  have HW3 := Lib.hid (hw1.grown hg3 hw1.size (by intro k hk; injection hk with hk; omega))
  clear hg3 hw1 HX HB1
  go_wp2_with fail
  refine (refFrame_no A n c w3 hN).mono ?_
  rintro e w' ⟨rfl, rfl⟩
  have HT3 := Lib.hid (HT.out.below HW3.out HT.out.lt)
  go_wp2_with fail
  refine (frames_any w3 HT3.out).mono ?_
  rintro e w5 ⟨rfl, hw5⟩
  have HW5 := Lib.hid (HW3.out.trans (hw5.mono HW3.out.size))
  have k2 := conv_at 0 none 0 0 [] w5 Reads.none_
  clear hw5 HW3 HT3
  go_wp2
  go_ret
  exact ⟨by (simp) <;> rfl, HW5.out⟩

set_option maxHeartbeats 400000 in
theorem sealFrames_big (A : Option Addr) (n c : Nat) (w : World) (hn : 2097152 < n) :
    Calls Tryd.prog 4 #[.slice A n c] w fun e w' => e = .returned (.bool true) ∧ Below w.heap.size w w' := by
  go_enter Tryd.func4, Tryd.ntmps4
  go_wp2
  go_ret
  exact ⟨rfl, Below.refl _ _⟩
end Go.Proofs.YtgfnbfebcejocaaDoor
