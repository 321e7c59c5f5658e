/- The walks of package codec, on: what is put. -/
import Derived.Test.YtgfnbfebcejocaaDoorCodec
import Derived.Lib.AppendStr
namespace Go.Proofs.YtgfnbfebcejocaaDoor
open Go.RowKit Le

/-- A whole number's eight bytes as a number. -/
def u64 (N : Int) : Nat := (N % 18446744073709551616).toNat
theorem u64_lt (N : Int) : u64 N < 18446744073709551616 := by unfold u64; omega
theorem u64_wrap (N : Int) : IntKind.u64.wrap N = (u64 N : Int) := by
  unfold u64
  rw [Int.toNat_of_nonneg (by omega)]
  rfl
theorem u64_nat {N : Int} (h0 : 0 ≤ N) (h1 : N < 18446744073709551616) : (u64 N : Int) = N := by unfold u64; omega

set_option maxHeartbeats 400000 in
theorem putNumber_ok (A : Option Addr) (n c : Nat) (l : List UInt8) (N : Int) (w : World) (hb : Reads w w.heap.size A n (u8s l)) (hn : n ≤ 1099511627776) (h0 : 0 ≤ N) (h1 : N ≤ 1000000000) :
    Calls Tryd.prog 32 #[.slice A n c, .int .i64 N] w fun e w' =>
      e = .returned (.tuple #[.slice (some ⟨w.heap.size, 0, none⟩) (n + 4) (n + 4), .int .i64 0]) ∧ Blk w' w.heap.size 5 (u8s (l ++ low N.toNat 4)) ∧ Below w.heap.size w w' := by
  obtain ⟨V, rfl⟩ := Int.eq_ofNat_of_zero_le h0
  go_enter Tryd.func32, Tryd.ntmps32
  go_wp2_with fail
  refine (laid_any A n c l V 4 w hb hn (by omega)).mono ?_
  rintro e w' ⟨rfl, hB, hw⟩
  have HB := Lib.hid hB
  clear hB
  go_wp2
  go_ret2
  exact ⟨rfl, HB.out, hw⟩

set_option maxHeartbeats 400000 in
theorem putNumber_no (A : Option Addr) (n c : Nat) (N : Int) (w : World) (h : N < 0 ∨ 1000000000 < N) :
    Calls Tryd.prog 32 #[.slice A n c, .int .i64 N] w fun e w' => e = .returned (.tuple #[.slice none 0 0, .int .i64 1]) ∧ w = w' := by
  rcases h with h | h
  · go_enter Tryd.func32, Tryd.ntmps32
    go_wp2
    go_ret2
    exact ⟨rfl, rfl⟩
  · have h' : 0 ≤ N := by omega
    go_enter Tryd.func32, Tryd.ntmps32
    go_wp2
    go_ret2
    exact ⟨rfl, rfl⟩

theorem strCells_text (s : ByteArray) : Lib.strCells s = u8s s.data.toList := rfl

/-! ### The references. -/
set_option maxHeartbeats 400000 in
theorem low_any (V k : Nat) (w : World) (hk : k ≤ 8) (hV : V < 18446744073709551616) :
    Calls Tryd.prog 25 #[.int .u64 V, .int .i64 k] w fun e w' =>
      ∃ A c, e = .returned (.slice A k c) ∧ Made w w' 5 A k c (low V k) := by
  obtain ⟨i0, hi0, hz0, hz1, hz2⟩ := info_parts info_u8
  have HV := Lib.hid hV
  clear hV
  go_enter Tryd.func25, Tryd.ntmps25
  go_wp2
  go_loopw [0, 5, 6] (fun x v i wr => ∃ (j X : Nat), j ≤ k ∧ i = .int .i64 j ∧ x = .int .u64 X ∧ X ≤ 18446744073709551615 ∧ Hid (X = V / 256 ^ j) ∧ Hid (wr.ownsRow w.heap.size 5 1 v j (u8s (low V j))) ∧ Below w.heap.size w wr) (fun _ _ i _ => k - (intOf i).toNat)
  case atStart => exact ⟨0, V, Nat.zero_le _, rfl, rfl, by have := HV.out; omega, Lib.hid (by simp), Lib.hid (by simpa [low, u8s] using World.ownsRow_nil w w.heap.size 5 1), Below.refl _ _⟩
  case round =>
    obtain ⟨j, X, hj, rfl, rfl, hX, HX, HO, hbr⟩ := hrel
    by_cases hlt : j < k
    · have hsz := hbr.size
      go_wp2_with (at_builtin; refine wpList_app rfl _ _ _ rfl w.heap.size 5 i0 _ 1 Tryd.underlying22 hi0 hz0 hz1 hz2 rfl _ _ _ rfl (HO.out.alloc _) _ _ 1 1 _ rfl (Reads.new1 wr _ _) (one1 _ _) (by unfold maxLen; omega) (by omega) (by simp; omega) w (hbr.alloc hsz _) ?_; intro A2 c2 w2 HO2 hb2 _)
      go_roundw
      case rel =>
        refine ⟨j + 1, X / 256, by omega, by go_num, by go_num, by omega, Lib.hid (div_step HX.out), ?_, hb2⟩
        have h := HO2.out
        rw [byte_mod V j X HX.out] at h
        rw [low_snoc, u8s_append]
        exact Lib.hid h
      case measure => simp [intOf]; omega
    · go_wp2
      go_ret
      obtain rfl : j = k := by omega
      obtain ⟨A2, c2, hv⟩ := own_slice HO.out
      have h := HO.out
      rw [hv] at h
      exact ⟨A2, c2, by rw [← hv]; rfl, h, hbr⟩

end Go.Proofs.YtgfnbfebcejocaaDoor
