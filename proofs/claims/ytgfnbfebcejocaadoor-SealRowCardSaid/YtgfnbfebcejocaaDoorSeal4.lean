/- The walks of package seal, on: the first frame, program and reference; SealFirst. -/
import Derived.Test.YtgfnbfebcejocaaDoorRef2
namespace Go.Proofs.YtgfnbfebcejocaaDoor
open Go.RowKit Le

theorem first_any (A : Option Addr) (n c : Nat) (l : List UInt8) (w : World) (hT : Tab w) (hb : Reads w w.heap.size A n (u8s l)) (hnc : n ≤ c) (hm40 : n ≤ 1099511627776) :
    Calls Tryd.prog 18 #[.slice A n c] w fun e w' => ∃ A' c', e = .returned (.tuple #[.slice A' (firstOf l).1.length c', .int .i64 (firstOf l).2.1, .int .i64 (firstOf l).2.2]) ∧ Made w w' 5 A' (firstOf l).1.length c' (firstOf l).1 := by
  have hl := reads_len hb
  unfold firstOf
  by_cases h8 : l.length < 8
  · rw [if_pos h8]
    exact (first_short_ A n c l w hb hnc hm40 (by omega)).mono fun e w' ⟨he, hw⟩ => ⟨none, 0, he, made_none hw⟩
  rw [if_neg h8]
  by_cases hf : 1048576 < num (l.take 4)
  · rw [if_pos hf]
    exact (first_form_ A n c l w hb hnc hm40 (by omega) hf).mono fun e w' ⟨he, hw⟩ => ⟨none, 0, he, made_none hw⟩
  rw [if_neg hf]
  by_cases hs : l.length < 8 + num (l.take 4)
  · rw [if_pos hs]
    exact (first_less_ A n c _ l w hb hnc hm40 (by omega) rfl (by omega) (by omega)).mono fun e w' ⟨he, hw⟩ => ⟨none, 0, he, made_none hw⟩
  rw [if_neg hs]
  obtain ⟨ad, rfl, _⟩ := hb.2 (by omega)
  have hbl : (bodyOf l).length = num (l.take 4) := by unfold bodyOf; rw [List.length_take, List.length_drop]; omega
  by_cases hq : headOf (bodyOf l) = l.take 8
  · rw [if_pos hq]
    have F : Calls Tryd.prog 18 #[.slice (some ad) n c] w fun e w' => ∃ A' c', e = .returned (.tuple #[.slice A' (cond true (num (l.take 4)) 0 : Nat) c', .int .i64 (cond true (8 + num (l.take 4)) 0 : Nat), .int .i64 (cond true 0 21 : Nat)]) ∧ Made w w' 5 A' (cond true (num (l.take 4)) 0) c' (cond true ((l.drop 8).take (num (l.take 4))) []) := by
      by_cases h8c : c = 8
      · exact first_at0 true ad n c _ l w hT hb hnc hm40 (by omega) rfl (by omega) (by omega) h8c (decide_eq_true hq)
      · exact first_at true ad n c _ l w hT hb hnc hm40 (by omega) rfl (by omega) (by omega) h8c (decide_eq_true hq)
    refine F.mono ?_
    rintro e w' ⟨A', c', he, hM⟩
    exact ⟨A', c', by rw [he, hbl]; rfl, by rw [hbl]; exact hM⟩
  · rw [if_neg hq]
    by_cases h8c : c = 8
    · exact (first_at0 false ad n c _ l w hT hb hnc hm40 (by omega) rfl (by omega) (by omega) h8c (decide_eq_false hq)).mono fun e w' h => h
    · exact (first_at false ad n c _ l w hT hb hnc hm40 (by omega) rfl (by omega) (by omega) h8c (decide_eq_false hq)).mono fun e w' h => h

theorem refFirst_low (B : Nat) (A : Option Addr) (n c : Nat) (l : List UInt8) (w : World) (hb : Reads w B A n (u8s l)) (hB : B ≤ w.heap.size) (hnc : n ≤ c) (hm40 : n ≤ 1099511627776) :
    Calls Tryd.prog 19 #[.slice A n c] w fun e w' => ∃ A' c', e = .returned (.tuple #[.slice A' (firstOf l).1.length c', .int .i64 (firstOf l).2.1, .int .i64 (firstOf l).2.2]) ∧ Reads w' B A' (firstOf l).1.length (u8s (firstOf l).1) ∧ Below w.heap.size w w' := by
  have hl := reads_len hb
  unfold firstOf
  by_cases h8 : l.length < 8
  · rw [if_pos h8]
    exact (refFirst_short A n c w (by omega)).mono fun e w' ⟨he, hw⟩ => ⟨none, 0, he, Reads.none_, hw ▸ Below.refl _ _⟩
  rw [if_neg h8]
  obtain ⟨ad, rfl, _⟩ := hb.2 (by omega)
  by_cases hf : 1048576 < num (l.take 4)
  · rw [if_pos hf]
    exact (refFirst_form B ad n c _ l w hb hnc hm40 (by omega) rfl hf).mono fun e w' ⟨he, hw⟩ => ⟨none, 0, he, Reads.none_, hw ▸ Below.refl _ _⟩
  rw [if_neg hf]
  by_cases hs : l.length < 8 + num (l.take 4)
  · rw [if_pos hs]
    exact (refFirst_less B ad n c _ l w hb hnc hm40 (by omega) rfl (by omega) (by omega)).mono fun e w' ⟨he, hw⟩ => ⟨none, 0, he, Reads.none_, hw ▸ Below.refl _ _⟩
  rw [if_neg hs]
  have hbl : (bodyOf l).length = num (l.take 4) := by unfold bodyOf; rw [List.length_take, List.length_drop]; omega
  by_cases hq : headOf (bodyOf l) = l.take 8
  · rw [if_pos hq]
    have F : Calls Tryd.prog 19 #[.slice (some ad) n c] w fun e w' => ∃ A' c', e = .returned (.tuple #[.slice A' (cond true (num (l.take 4)) 0 : Nat) c', .int .i64 (cond true (8 + num (l.take 4)) 0 : Nat), .int .i64 (cond true 0 21 : Nat)]) ∧ Reads w' B A' (cond true (num (l.take 4)) 0) (u8s (cond true ((l.drop 8).take (num (l.take 4))) [])) ∧ Below w.heap.size w w' := by
      by_cases h8c : c = 8
      · exact refFirst_at0 true B ad n c _ l w hb hB hnc hm40 (by omega) rfl (by omega) (by omega) h8c (decide_eq_true hq)
      · exact refFirst_at true B ad n c _ l w hb hB hnc hm40 (by omega) rfl (by omega) (by omega) h8c (decide_eq_true hq)
    refine F.mono ?_
    rintro e w' ⟨A', c', he, hM⟩
    exact ⟨A', c', by rw [he, hbl]; rfl, by rw [hbl]; exact hM⟩
  · rw [if_neg hq]
    by_cases h8c : c = 8
    · exact (refFirst_at0 false B ad n c _ l w hb hB hnc hm40 (by omega) rfl (by omega) (by omega) h8c (decide_eq_false hq)).mono fun e w' h => h
    · exact (refFirst_at false B ad n c _ l w hb hB hnc hm40 (by omega) rfl (by omega) (by omega) h8c (decide_eq_false hq)).mono fun e w' h => h

theorem refFirst_any (A : Option Addr) (n c : Nat) (l : List UInt8) (w : World) (hb : Reads w w.heap.size A n (u8s l)) (hnc : n ≤ c) (hm40 : n ≤ 1099511627776) :
    Calls Tryd.prog 19 #[.slice A n c] w fun e w' => ∃ A' c', e = .returned (.tuple #[.slice A' (firstOf l).1.length c', .int .i64 (firstOf l).2.1, .int .i64 (firstOf l).2.2]) ∧ Reads w' w.heap.size A' (firstOf l).1.length (u8s (firstOf l).1) ∧ Below w.heap.size w w' :=
  refFirst_low w.heap.size A n c l w hb (Nat.le_refl _) hnc hm40

theorem first_ex1 : firstOf [0, 0, 0, 0, 28, 223, 68, 33, 255] = ([], 8, 0) := by decide
theorem first_ex2 : firstOf [1, 0, 0, 0, 0, 0, 0, 0] = ([], 0, 20) := by decide
theorem first_ex3 : firstOf [255, 255, 255, 255, 255, 255, 255, 255] = ([], 0, 21) := by decide

theorem lit_reads (w : World) (t : TypeId) (l : List UInt8) (xs : List Value) (h : u8s l = xs) (n : Nat) (hn : l.length = n) :
    Reads (w.alloc (.cells xs.toArray t)) (w.alloc (.cells xs.toArray t)).heap.size (some ⟨w.heap.size, 0, none⟩) n (u8s l) := by
  have h2 := Reads.of_blk (Blk.new w t xs)
  subst h
  rwa [u8s_length, hn] at h2

set_option maxHeartbeats 800000 in
theorem finds_any (w : World) (hT : Tab w) : Calls Tryd.prog 20 #[] w fun e w' => e = .returned (.bool true) ∧ Below w.heap.size w w' := by
  have HT := Lib.hid hT
  clear hT
  go_enter Tryd.func20, Tryd.ntmps20
  go_wp2_with fail
  refine (first_any _ 9 9 [0, 0, 0, 0, 28, 223, 68, 33, 255] _ (HT.out.alloc _) (lit_reads w 5 _ [.int .u8 0, .int .u8 0, .int .u8 0, .int .u8 0, .int .u8 28, .int .u8 223, .int .u8 68, .int .u8 33, .int .u8 255] rfl 9 rfl) (by omega) (by omega)).mono ?_
  rw [first_ex1]
  rintro e w1 ⟨A1, c1, rfl, hM1⟩
  have W1 : Hid (Below w.heap.size w w1) := Lib.hid (((Below.refl _ _).alloc (Nat.le_refl _) _).trans (hM1.below.mono (by simp)))
  have z1 := W1.out.size
  have HT1 := Lib.hid (HT.out.below W1.out HT.out.lt)
  clear hM1
  go_wp2_with fail
  refine (first_any _ 8 8 [1, 0, 0, 0, 0, 0, 0, 0] _ (HT1.out.alloc _) (lit_reads w1 5 _ [.int .u8 1, .int .u8 0, .int .u8 0, .int .u8 0, .int .u8 0, .int .u8 0, .int .u8 0, .int .u8 0] rfl 8 rfl) (by omega) (by omega)).mono ?_
  rw [first_ex2]
  rintro e w2 ⟨A2, c2, rfl, hM2⟩
  have W2 : Hid (Below w.heap.size w w2) := Lib.hid ((W1.out.alloc z1 _).trans (hM2.below.mono (by simp; omega)))
  have z2 := W2.out.size
  have HT2 := Lib.hid (HT.out.below W2.out HT.out.lt)
  clear hM2
  go_wp2_with fail
  refine (first_any _ 8 8 [255, 255, 255, 255, 255, 255, 255, 255] _ (HT2.out.alloc _) (lit_reads w2 5 _ [.int .u8 255, .int .u8 255, .int .u8 255, .int .u8 255, .int .u8 255, .int .u8 255, .int .u8 255, .int .u8 255] rfl 8 rfl) (by omega) (by omega)).mono ?_
  rw [first_ex3]
  rintro e w3 ⟨A3, c3, rfl, hM3⟩
  have W3 : Hid (Below w.heap.size w w3) := Lib.hid ((W2.out.alloc z2 _).trans (hM3.below.mono (by simp; omega)))
  clear hM3
  go_wp2
  go_ret
  exact ⟨rfl, W3.out⟩

set_option maxHeartbeats 1600000 in
theorem sealFirst_small (A : Option Addr) (n c : Nat) (l : List UInt8) (w : World) (hT : Tab w) (hb : Reads w w.heap.size A n (u8s l)) (hnc : n ≤ c) (hn : n ≤ 2097152) :
    Calls Tryd.prog 5 #[.slice A n c] w fun e w' => e = .returned (.bool true) ∧ Below w.heap.size w w' := by
  have HL := Lib.hid (reads_len hb)
  have HT := Lib.hid hT
  clear hT
  go_enter Tryd.func5, Tryd.ntmps5
  go_wp2_with fail
  refine (lend_any A n c l w hb (by omega)).mono ?_
  rintro e w1 ⟨rfl, hX, hw1⟩
  have HX := Lib.hid hX
  have z1 := hX.lt
  have HT1 := Lib.hid (HT.out.below hw1 HT.out.lt)
  have HB1 := Lib.hid (hb.below hw1)
  clear hX hb
  go_wp2_with fail
  refine (first_any _ n (n + 2) l w1 HT1.out (lent_reads HX.out HL.out) (by omega) (by omega)).mono ?_
  obtain ⟨⟨B, K, E⟩, HF⟩ : ∃ R, Hid (firstOf l = R) := ⟨_, Lib.hid rfl⟩
  rw [HF.out]
  rintro e w2 ⟨A2, c2, rfl, hM2⟩
  have HM2 := Lib.hid hM2.own
  have HX2 := Lib.hid (HX.out.below hM2.below z1)
  have HB2 := Lib.hid (HB1.out.below (hM2.below.mono (by omega)))
  have HW2 := Lib.hid (hw1.trans (hM2.below.mono (by omega)))
  clear hM2 HX HB1 HT1 hw1
  go_wp2_with fail
  refine (back_any A n c w.heap.size w.heap.size l w2 HB2.out (Nat.le_refl _) HX2.out (by omega)).mono ?_
  rintro e w3 ⟨rfl, hg3⟩
  have HW3 := Lib.hid (HW2.out.grown hg3 HW2.out.size (by intro k hk; injection hk with hk; omega))
  have HB3 := Lib.hid (HB2.out.grown hg3 HW2.out.size (by intro k hk; injection hk with hk; omega))
  have HM3 := Lib.hid (HM2.out.kept hg3 (.inr fun h => by have := (HM2.out.lt _ h).1; omega))
  clear hg3 HW2 HB2 HM2 HX2
  have z3 := HW3.out.size
  go_wp2_with fail
  refine (refFirst_any A n c l w3 (HB3.out.more z3) hnc (by omega)).mono ?_
  rw [HF.out]
  rintro e w4 ⟨A4, c4, rfl, hR4, hw4⟩
  have HW4 := Lib.hid (HW3.out.trans (hw4.mono z3))
  have HR4 := Lib.hid (hR4.more hw4.size)
  have HO4 := Lib.hid ((Reads.of_own HM3.out).below hw4)
  have HT4 := Lib.hid (HT.out.below HW4.out HT.out.lt)
  have z4 := hw4.size
  clear hR4 hw4 HW3 HB3 HM3 HF
  go_wp2_with fail
  refine (finds_any w4 HT4.out).mono ?_
  rintro e w5 ⟨rfl, hw5⟩
  have HW5 := Lib.hid (HW4.out.trans (hw5.mono HW4.out.size))
  have k2 := conv_at _ A2 _ c2 _ w5 (HO4.out.below (hw5.mono z4))
  have k3 := conv_at _ A4 _ c4 _ w5 (HR4.out.below hw5)
  clear hw5 HW4 HO4 HR4 HT4
  go_wp2
  go_ret
  exact ⟨by (simp) <;> rfl, HW5.out⟩

set_option maxHeartbeats 400000 in
theorem sealFirst_big (A : Option Addr) (n c : Nat) (w : World) (hn : 2097152 < n) :
    Calls Tryd.prog 5 #[.slice A n c] w fun e w' => e = .returned (.bool true) ∧ Below w.heap.size w w' := by
  go_enter Tryd.func5, Tryd.ntmps5
  go_wp2
  go_ret
  exact ⟨rfl, Below.refl _ _⟩
end Go.Proofs.YtgfnbfebcejocaaDoor
