/- The walks of the statements of layer 1 that hold without the document's answer. -/
import Derived.Test.YtfimmodcjpebmaaEx1
import Derived.Test.YtfimmodcjpebmaaLaw1
namespace Go.Proofs.Ytfimmodcjpebmaa
open Go.RowKit Le

set_option maxHeartbeats 800000 in
theorem codecNil_walk (w : World) : Calls Try.prog 8 #[] w fun e w' => e = .returned (.bool true) ∧ Below w.heap.size w w' := by
  go_enter Try.func8, Try.ntmps8
  go_wp2_with fail
  refine (number_nil w).mono ?_
  rintro e w' ⟨rfl, rfl⟩
  go_wp2_with fail
  refine (int_nil w).mono ?_
  rintro e w' ⟨rfl, rfl⟩
  go_wp2_with fail
  refine (text_nil w).mono ?_
  rintro e w' ⟨rfl, rfl⟩
  go_wp2_with fail
  refine (left_nil w).mono ?_
  rintro e w' ⟨rfl, rfl⟩
  go_wp2_with fail
  refine (reads_any w).mono ?_
  rintro e w' ⟨rfl, hw⟩
  go_wp2
  go_ret
  exact ⟨rfl, hw⟩

theorem i64_u64 (N : Int) (h0 : -9223372036854775808 ≤ N) (h1 : N ≤ 9223372036854775807) (L : List UInt8) : i64 (num ((low (u64 N) 8 ++ L).take 8)) = N := by
  rw [List.take_left' (by simp), num_low]
  unfold i64 u64 wrap64
  have : (256 : Nat) ^ 8 = 18446744073709551616 := by decide
  rw [this]
  omega

theorem Rd.below {w w' : World} {r : Nat} {l : List UInt8} (h : Rd w r l) (hb : Below w.heap.size w w') : Rd w' r l := by
  obtain ⟨A, n, c, hB, hr, h1, h2⟩ := h
  exact ⟨A, n, c, hB.below hb hB.lt, hr.below (hb.mono (Nat.le_of_lt hB.lt)), h1, h2⟩

set_option maxHeartbeats 800000 in
theorem codecIntBack_small (N : Int) (h0 : -9223372036854775808 ≤ N) (h1 : N ≤ 9223372036854775807) (A : Option Addr) (n c : Nat) (L : List UInt8) (w : World) (hb : Reads w w.heap.size A n (u8s L)) (hn : n ≤ 262144) :
    Calls Try.prog 6 #[.int .i64 N, .slice A n c] w fun e w' => e = .returned (.bool true) ∧ Below w.heap.size w w' := by
  obtain ⟨i0, hi0, hz0, hz1, hz2⟩ := info_parts info_u8
  have HL : Hid (L.length = n) := by have := hb.len; rw [u8s_length] at this; exact Lib.hid this
  have HI := Lib.hid (i64_u64 N h0 h1 L)
  clear h0 h1
  go_enter Try.func6, Try.ntmps6
  go_wp2_with fail
  refine (putInt_any none 0 0 [] N w Reads.none_ (by omega)).mono ?_
  rintro e w1 ⟨rfl, hB, hw1⟩
  have z1 := hB.lt
  have HO : Hid (w1.ownsRow w.heap.size 5 1 (.slice (some ⟨w.heap.size, 0, none⟩) 8 8) 8 (u8s (low (u64 N) 8))) := by
    have h := hB.own (Nat.le_refl _) (Nat.le_refl 8) (by simp) (by unfold maxLen; omega)
    rw [List.take_of_length_le (by simp)] at h
    simpa using Lib.hid h
  have hb1 := hb.below hw1
  clear hB hb
  go_wp2_with (at_builtin; refine wpList_app rfl _ _ _ rfl w.heap.size 5 i0 _ 1 Try.underlying22 hi0 hz0 hz1 hz2 rfl _ _ _ rfl HO.out _ _ n c _ rfl hb1 (u8s_one L) (by unfold maxLen; omega) (by omega) (by omega) w hw1 ?_; intro A2 c2 w2 HO2 hb2 _)
  have hO2 : w2.ownsRow w.heap.size 5 1 (.slice A2 (8 + n) c2) (8 + n) (u8s (low (u64 N) 8 ++ L)) := by rw [u8s_append]; exact HO2.out
  have hr2 := Reads.of_own hO2
  clear HO2 HO hb1 hw1 hO2
  refine (new_any A2 (8 + n) c2 _ w2 hr2 (by omega)).mono ?_
  rintro e w3 ⟨r, rfl, hr, hR, hw3⟩
  have HW := Lib.hid (hb2.trans (hw3.mono hb2.size))
  have hrw : w.heap.size ≤ r := Nat.le_trans hb2.size hr
  have HR := Lib.hid hR
  clear hR hw3 hr2 hr hb2
  go_wp2_with fail
  refine (int_ok r _ w3 HR.out (by simp)).mono ?_
  rintro e w4 ⟨rfl, hR4, hg4⟩
  have HW4 := Lib.hid (HW.out.grown hg4 HW.out.size (by intro k hk; injection hk with hk; omega))
  have hR5 : Rd w4 r L := by rwa [List.drop_left' (by simp)] at hR4
  have HR5 := Lib.hid hR5
  clear hR4 hR5 hg4 HR HW
  rw [HI.out]
  go_wp2_with fail
  refine (lays_any w4).mono ?_
  rintro e w5 ⟨rfl, hw5⟩
  have HW5 := Lib.hid (HW4.out.trans (hw5.mono HW4.out.size))
  have HR6 : Hid (Rd w5 r L) := HR5.out.below hw5
  clear hw5 HR5 HW4
  go_wp2_with fail
  refine (left_any r L w5 HR6.out).mono ?_
  rintro e w6 ⟨rfl, rfl⟩
  rw [HL.out]
  go_wp2
  go_ret
  exact ⟨rfl, HW5.out⟩
end Go.Proofs.Ytfimmodcjpebmaa
