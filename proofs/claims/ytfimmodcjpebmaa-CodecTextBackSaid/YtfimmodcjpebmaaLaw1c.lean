/- The walks of the statements of layer 1, on. -/
import Derived.Test.YtfimmodcjpebmaaLaw1b
namespace Go.Proofs.Ytfimmodcjpebmaa
open Go.RowKit Le

theorem num_nat4 (V : Nat) (h : V ≤ 1000000000) (L : List UInt8) : num ((low V 4 ++ L).take 4) = V := by
  rw [List.take_left' (by simp), num_low]
  have : (256 : Nat) ^ 4 = 4294967296 := by decide
  rw [this]
  omega

set_option maxHeartbeats 800000 in
theorem codecNumberBack_no (N : Int) (hN : N < 0 ∨ 1000000000 < N) (A : Option Addr) (n c : Nat) (w : World) (hn : n ≤ 262144) :
    Calls Try.prog 9 #[.int .i64 N, .slice A n c] w fun e w' => e = .returned (.bool true) ∧ Below w.heap.size w w' := by
  have F := Lib.hid (putNumber_no none 0 0 N w hN)
  rcases hN with h | h
  · go_enter Try.func9, Try.ntmps9
    go_wp2_with fail
    refine (unhide F).mono ?_
    rintro e w' ⟨rfl, rfl⟩
    go_wp2_with fail
    refine (puts_any w).mono ?_
    rintro e w1 ⟨rfl, hw1⟩
    go_wp2_with fail
    refine (reads_any w1).mono ?_
    rintro e w2 ⟨rfl, hw2⟩
    go_wp2
    go_ret
    exact ⟨rfl, hw1.trans (hw2.mono hw1.size)⟩
  · have h0 : 0 ≤ N := by omega
    go_enter Try.func9, Try.ntmps9
    go_wp2_with fail
    refine (unhide F).mono ?_
    rintro e w' ⟨rfl, rfl⟩
    go_wp2_with fail
    refine (puts_any w).mono ?_
    rintro e w1 ⟨rfl, hw1⟩
    go_wp2_with fail
    refine (reads_any w1).mono ?_
    rintro e w2 ⟨rfl, hw2⟩
    go_wp2
    go_ret
    exact ⟨rfl, hw1.trans (hw2.mono hw1.size)⟩

set_option maxHeartbeats 800000 in
theorem codecNumberBack_ok (V : Nat) (hV : V ≤ 1000000000) (A : Option Addr) (n c : Nat) (L : List UInt8) (w : World) (hb : Reads w w.heap.size A n (u8s L)) (hn : n ≤ 262144) :
    Calls Try.prog 9 #[.int .i64 V, .slice A n c] w fun e w' => e = .returned (.bool true) ∧ Below w.heap.size w w' := by
  obtain ⟨i0, hi0, hz0, hz1, hz2⟩ := info_parts info_u8
  have HL : Hid (L.length = n) := by have := hb.len; rw [u8s_length] at this; exact Lib.hid this
  have HI := Lib.hid (num_nat4 V hV L)
  go_enter Try.func9, Try.ntmps9
  go_wp2_with fail
  refine (putNumber_ok none 0 0 [] V w Reads.none_ (by omega) (by omega) (by omega)).mono ?_
  rintro e w1 ⟨rfl, hB, hw1⟩
  have z1 := hB.lt
  rw [List.nil_append, Int.toNat_natCast] at hB
  have HO : Hid (w1.ownsRow w.heap.size 5 1 (.slice (some ⟨w.heap.size, 0, none⟩) 4 4) 4 (u8s (low V 4))) := by
    have h := hB.own (Nat.le_refl _) (Nat.le_refl 4) (by simp) (by unfold maxLen; omega)
    rw [List.take_of_length_le (by simp)] at h
    exact Lib.hid h
  have hb1 := hb.below hw1
  clear hB hb
  go_wp2_with (at_builtin; refine wpList_app rfl _ _ _ rfl w.heap.size 5 i0 _ 1 Try.underlying22 hi0 hz0 hz1 hz2 rfl _ _ _ rfl HO.out _ _ n c _ rfl hb1 (u8s_one L) (by unfold maxLen; omega) (by omega) (by omega) w hw1 ?_; intro A2 c2 w2 HO2 hb2 _)
  have hO2 : w2.ownsRow w.heap.size 5 1 (.slice A2 (4 + n) c2) (4 + n) (u8s (low V 4 ++ L)) := by rw [u8s_append]; exact HO2.out
  have hr2 := Reads.of_own hO2
  clear HO2 HO hb1 hw1 hO2
  refine (new_any A2 (4 + n) c2 _ w2 hr2 (by omega)).mono ?_
  rintro e w3 ⟨r, rfl, hr, hR, hw3⟩
  have HW := Lib.hid (hb2.trans (hw3.mono hb2.size))
  have hrw : w.heap.size ≤ r := Nat.le_trans hb2.size hr
  have HR := Lib.hid hR
  clear hR hw3 hr2 hr hb2
  go_wp2_with fail
  refine (number_ok r _ w3 HR.out (by simp) (by rw [HI.out]; exact hV)).mono ?_
  rintro e w4 ⟨rfl, hR4, hg4⟩
  have HW4 := Lib.hid (HW.out.grown hg4 HW.out.size (by intro k hk; injection hk with hk; omega))
  have hR5 : Rd w4 r L := by rwa [List.drop_left' (by simp)] at hR4
  have HR5 := Lib.hid hR5
  clear hR4 hR5 hg4 HR HW
  rw [HI.out]
  go_wp2_with fail
  refine (puts_any w4).mono ?_
  rintro e w5 ⟨rfl, hw5⟩
  have HW5 := Lib.hid (HW4.out.trans (hw5.mono HW4.out.size))
  have HR6 : Hid (Rd w5 r L) := HR5.out.below hw5
  clear hw5 HR5 HW4
  go_wp2_with fail
  refine (reads_any w5).mono ?_
  rintro e w6 ⟨rfl, hw6⟩
  have HW6 := Lib.hid (HW5.out.trans (hw6.mono HW5.out.size))
  have HR7 : Hid (Rd w6 r L) := HR6.out.below hw6
  clear hw6 HR6 HW5
  go_wp2_with fail
  refine (left_any r L w6 HR7.out).mono ?_
  rintro e w7 ⟨rfl, rfl⟩
  rw [HL.out]
  go_wp2
  go_ret
  exact ⟨rfl, HW6.out⟩

set_option maxHeartbeats 400000 in
theorem codecNumberBack_big (N : Int) (A : Option Addr) (n c : Nat) (w : World) (hn : 262144 < n) :
    Calls Try.prog 9 #[.int .i64 N, .slice A n c] w fun e w' => e = .returned (.bool true) ∧ Below w.heap.size w w' := by
  go_enter Try.func9, Try.ntmps9
  go_wp2
  go_ret
  exact ⟨rfl, Below.refl _ _⟩
set_option maxHeartbeats 400000 in
theorem codecIntBack_big (N : Int) (A : Option Addr) (n c : Nat) (w : World) (hn : 262144 < n) :
    Calls Try.prog 6 #[.int .i64 N, .slice A n c] w fun e w' => e = .returned (.bool true) ∧ Below w.heap.size w w' := by
  go_enter Try.func6, Try.ntmps6
  go_wp2
  go_ret
  exact ⟨rfl, Below.refl _ _⟩

/-! ### CodecNumbers -/
set_option maxHeartbeats 800000 in
theorem codecNumbers_no (A : Option Addr) (n c : Nat) (l : List UInt8) (N : Int) (w : World) (hb : Reads w w.heap.size A n (u8s l)) (hn : n ≤ 262144) (hN : N < 0 ∨ 1000000000 < N) :
    Calls Try.prog 4 #[.slice A n c, .int .i64 N] w fun e w' => e = .returned (.bool true) ∧ Below w.heap.size w w' := by
  have HN := Lib.hid hN
  clear hN
  go_enter Try.func4, Try.ntmps4
  go_wp2_with fail
  refine (lend_any A n c l w hb (by omega)).mono ?_
  rintro e w1 ⟨rfl, hX, hw1⟩
  have HX := Lib.hid hX
  have hb1 := hb.below hw1
  clear hX hb
  go_wp2_with fail
  refine (putNumber_no _ _ _ N w1 HN.out).mono ?_
  rintro e w' ⟨rfl, rfl⟩
  go_wp2_with fail
  refine (back_any A n c w.heap.size w.heap.size l w1 hb1 (Nat.le_refl _) HX.out (by omega)).mono ?_
  rintro e w2 ⟨rfl, hg2⟩
  have HW2 := Lib.hid (hw1.grown hg2 hw1.size (by intro k hk; injection hk with hk; omega))
  clear hg2 hw1 hb1 HX
  go_wp2_with fail
  refine (refNumber_no N w2 HN.out).mono ?_
  rintro e w' ⟨rfl, rfl⟩
  go_wp2_with fail
  refine (puts_any w2).mono ?_
  rintro e w3 ⟨rfl, hw3⟩
  have HW3 := Lib.hid (HW2.out.trans (hw3.mono HW2.out.size))
  clear hw3 HW2
  go_wp2
  go_ret
  exact ⟨rfl, HW3.out⟩

set_option maxHeartbeats 1600000 in
theorem codecNumbers_ok (A : Option Addr) (n c : Nat) (l : List UInt8) (V : Nat) (w : World) (hb : Reads w w.heap.size A n (u8s l)) (hn : n ≤ 262144) (hV : V ≤ 1000000000) :
    Calls Try.prog 4 #[.slice A n c, .int .i64 V] w fun e w' => e = .returned (.bool true) ∧ Below w.heap.size w w' := by
  have HL : Hid (l.length = n) := by have := hb.len; rw [u8s_length] at this; exact Lib.hid this
  go_enter Try.func4, Try.ntmps4
  go_wp2_with fail
  refine (lend_any A n c l w hb (by omega)).mono ?_
  rintro e w1 ⟨rfl, hX, hw1⟩
  have HX := Lib.hid hX
  have z1 := hX.lt
  have r1 : Reads w1 w1.heap.size (some ⟨w.heap.size, 0, none⟩) n (u8s l) := by
    have h := hX.reads (n := n) (by have := HL.out; simp; omega)
    rwa [u8s_append, List.take_left' (by have := HL.out; simpa using this)] at h
  have HB1 := Lib.hid (hb.below hw1)
  clear hX hb
  go_wp2_with fail
  refine (putNumber_ok _ n (n + 2) l V w1 r1 (by omega) (by omega) (by omega)).mono ?_
  rintro e w2 ⟨rfl, hO, hw2⟩
  rw [Int.toNat_natCast] at hO
  have z2 := hO.lt
  have HO := Lib.hid hO
  have HX2 := Lib.hid (HX.out.below hw2 z1)
  have HB2 := Lib.hid (HB1.out.below (hw2.mono (by omega)))
  have HW2 := Lib.hid (hw1.trans (hw2.mono (by omega)))
  clear hO r1 HX HB1 hw1 hw2
  go_wp2_with fail
  refine (back_any A n c w.heap.size w.heap.size l w2 HB2.out (Nat.le_refl _) HX2.out (by omega)).mono ?_
  rintro e w3 ⟨rfl, hg3⟩
  have HW3 := Lib.hid (HW2.out.grown hg3 HW2.out.size (by intro k hk; injection hk with hk; omega))
  have HB3 := Lib.hid (HB2.out.grown hg3 HW2.out.size (by intro k hk; injection hk with hk; omega))
  have HO3 := Lib.hid (HO.out.grown hg3 (by intro hk; injection hk with hk; omega))
  clear hg3 HW2 HB2 HO HX2
  go_wp2_with fail
  refine (refNumber_ok V w3 (by omega) (by omega)).mono ?_
  rintro e w4 ⟨A4, c4, rfl, hM⟩
  rw [Int.toNat_natCast] at hM
  have HW4 := Lib.hid (HW3.out.trans (hM.below.mono HW3.out.size))
  have HB4 := Lib.hid (HB3.out.below (hM.below.mono HW3.out.size))
  have HO4 := Lib.hid (HO3.out.below hM.below HO3.out.lt)
  have HR4 := Lib.hid hM.reads
  clear hM HW3 HB3 HO3
  go_wp2_with fail
  refine (puts_any w4).mono ?_
  rintro e w5 ⟨rfl, hw5⟩
  have HW5 := Lib.hid (HW4.out.trans (hw5.mono HW4.out.size))
  have k1 := conv_any _ A n c l w5 (HB4.out.below (hw5.mono HW4.out.size))
  have k2 := conv_any _ (some ⟨w1.heap.size, 0, none⟩) (n + 4) (n + 4) _ w5 (own_text (HO4.out.below hw5 HO4.out.lt) (by simp [HL.out]))
  have k3 := conv_any _ A4 4 c4 _ w5 (HR4.out.below hw5)
  have hsum : (text l).size + (text (low V 4)).size ≤ 9223372036854775807 := by rw [text_size, text_size, HL.out, low_length]; omega
  clear hw5 HW4 HB4 HO4 HR4
  go_wp2
  go_ret
  exact ⟨by (simp [text_append]) <;> rfl, HW5.out⟩

set_option maxHeartbeats 400000 in
theorem codecNumbers_big (A : Option Addr) (n c : Nat) (N : Int) (w : World) (hn : 262144 < n) :
    Calls Try.prog 4 #[.slice A n c, .int .i64 N] w fun e w' => e = .returned (.bool true) ∧ Below w.heap.size w w' := by
  go_enter Try.func4, Try.ntmps4
  go_wp2
  go_ret
  exact ⟨rfl, Below.refl _ _⟩
end Go.Proofs.Ytfimmodcjpebmaa
