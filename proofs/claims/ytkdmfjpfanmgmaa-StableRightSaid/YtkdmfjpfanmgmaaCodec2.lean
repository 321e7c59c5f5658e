/- The walks of package codec, on: what is put. -/
import Derived.Test.YtkdmfjpfanmgmaaCodec
import Derived.Lib.AppendStr
namespace Go.Proofs.Ytkdmfjpfanmgmaa
open Go.RowKit Le
set_option maxRecDepth 100000

/-- A whole number's eight bytes as a number. -/
def u64 (N : Int) : Nat := (N % 18446744073709551616).toNat
theorem u64_lt (N : Int) : u64 N < 18446744073709551616 := by unfold u64; omega
theorem u64_wrap (N : Int) : IntKind.u64.wrap N = (u64 N : Int) := by
  unfold u64
  rw [Int.toNat_of_nonneg (by omega)]
  rfl
theorem u64_nat {N : Int} (h0 : 0 ≤ N) (h1 : N < 18446744073709551616) : (u64 N : Int) = N := by unfold u64; omega

set_option maxHeartbeats 400000 in
theorem putNumber_ok (A : Option Addr) (n c : Nat) (l : List UInt8) (N : Int) (w : World) (hb : Reads w w.heap.size A n (u8s l)) (hn : n ≤ 1099511627776) (h0 : 0 ≤ N) (h1 : N ≤ 1000000000) :
    Calls Try.prog 64 #[.slice A n c, .int .i64 N] w fun e w' =>
      e = .returned (.tuple #[.slice (some ⟨w.heap.size, 0, none⟩) (n + 4) (n + 4), .int .i64 0]) ∧ Blk w' w.heap.size 5 (u8s (l ++ low N.toNat 4)) ∧ Below w.heap.size w w' := by
  obtain ⟨V, rfl⟩ := Int.eq_ofNat_of_zero_le h0
  go_enter Try.func64, Try.ntmps64
  go_wp2_with fail
  refine (laid_any A n c l V 4 w hb hn (by omega)).mono ?_
  rintro e w' ⟨rfl, hB, hw⟩
  have HB := Lib.hid hB
  clear hB
  go_wp2
  go_ret2
  exact ⟨rfl, HB.out, hw⟩

set_option maxHeartbeats 400000 in
theorem putNumber_no (A : Option Addr) (n c : Nat) (N : Int) (w : World) (h : N < 0 ∨ 1000000000 < N) :
    Calls Try.prog 64 #[.slice A n c, .int .i64 N] w fun e w' => e = .returned (.tuple #[.slice none 0 0, .int .i64 1]) ∧ w = w' := by
  rcases h with h | h
  · go_enter Try.func64, Try.ntmps64
    go_wp2
    go_ret2
    exact ⟨rfl, rfl⟩
  · have h' : 0 ≤ N := by omega
    go_enter Try.func64, Try.ntmps64
    go_wp2
    go_ret2
    exact ⟨rfl, rfl⟩

theorem strCells_text (s : ByteArray) : Lib.strCells s = u8s s.data.toList := rfl

set_option maxHeartbeats 400000 in
theorem putText_ok (A : Option Addr) (n c : Nat) (l : List UInt8) (s : ByteArray) (w : World) (hb : Reads w w.heap.size A n (u8s l)) (hn : n ≤ 1099511627776) (h1 : s.size ≤ 65536) :
    Calls Try.prog 66 #[.slice A n c, .string s] w fun e w' =>
      ∃ A c, e = .returned (.tuple #[.slice A (n + 4 + s.size) c, .int .i64 0]) ∧ Made w w' 5 A (n + 4 + s.size) c (l ++ low s.size 4 ++ s.data.toList) := by
  obtain ⟨i0, hi0, hz0, hz1, hz2⟩ := info_parts info_u8
  go_enter Try.func66, Try.ntmps66
  go_wp2_with fail
  refine (laid_any A n c l s.size 4 w hb hn (by omega)).mono ?_
  rintro e w1 ⟨rfl, hB, hw⟩
  have hz := hB.lt
  have HO : Hid (w1.ownsRow w.heap.size 5 1 (.slice (some ⟨w.heap.size, 0, none⟩) (n + 4) (n + 4)) (n + 4) (u8s (l ++ low s.size 4))) := by
    have hl := hb.len
    rw [u8s_length] at hl
    have h := hB.own (Nat.le_refl _) (Nat.le_refl (n + 4)) (by simp [hl]) (by unfold maxLen; omega)
    rw [List.take_of_length_le (by simp [hl])] at h
    exact Lib.hid h
  clear hB
  go_wp2_with (at_builtin; refine Lib.wpList_append_own_string _ rfl _ _ _ _ rfl w.heap.size 5 i0 Try.underlying59 Try.underlying9 hi0 hz0 hz1 hz2 (.slice (some ⟨w.heap.size, 0, none⟩) (n + 4) (n + 4)) _ _ rfl HO.out s rfl (by unfold maxLen; omega) (by omega) (by omega) ?_; intro v w2 hown hg _; have HO2 := Lib.hid hown; clear hown)
  go_ret2
  obtain ⟨A2, c2, hv⟩ := own_slice HO2.out
  have h := HO2.out
  rw [strCells_text, ← u8s_append, hv] at h
  exact ⟨A2, c2, by rw [hv]; rfl, h, hw.grown hg (by omega) (by simp [Value.ownBlock])⟩

set_option maxHeartbeats 400000 in
theorem putText_no (A : Option Addr) (n c : Nat) (s : ByteArray) (w : World) (h : 65536 < s.size) :
    Calls Try.prog 66 #[.slice A n c, .string s] w fun e w' => e = .returned (.tuple #[.slice none 0 0, .int .i64 2]) ∧ w = w' := by
  go_enter Try.func66, Try.ntmps66
  go_wp2
  go_ret2
  exact ⟨rfl, rfl⟩

/-! ### The references. -/
set_option maxHeartbeats 400000 in
theorem low_any (V k : Nat) (w : World) (hk : k ≤ 8) (hV : V < 18446744073709551616) :
    Calls Try.prog 71 #[.int .u64 V, .int .i64 k] w fun e w' =>
      ∃ A c, e = .returned (.slice A k c) ∧ Made w w' 5 A k c (low V k) := by
  obtain ⟨i0, hi0, hz0, hz1, hz2⟩ := info_parts info_u8
  have HV := Lib.hid hV
  clear hV
  go_enter Try.func71, Try.ntmps71
  go_wp2
  go_loopw [0, 5, 6] (fun x v i wr => ∃ (j X : Nat), j ≤ k ∧ i = .int .i64 j ∧ x = .int .u64 X ∧ X ≤ 18446744073709551615 ∧ Hid (X = V / 256 ^ j) ∧ Hid (wr.ownsRow w.heap.size 5 1 v j (u8s (low V j))) ∧ Below w.heap.size w wr) (fun _ _ i _ => k - (intOf i).toNat)
  case atStart => exact ⟨0, V, Nat.zero_le _, rfl, rfl, by have := HV.out; omega, Lib.hid (by simp), Lib.hid (by simpa [low, u8s] using World.ownsRow_nil w w.heap.size 5 1), Below.refl _ _⟩
  case round =>
    obtain ⟨j, X, hj, rfl, rfl, hX, HX, HO, hbr⟩ := hrel
    by_cases hlt : j < k
    · have hsz := hbr.size
      go_wp2_with (at_builtin; refine wpList_app rfl _ _ _ rfl w.heap.size 5 i0 _ 1 Try.underlying59 hi0 hz0 hz1 hz2 rfl _ _ _ rfl (HO.out.alloc _) _ _ 1 1 _ rfl (Reads.new1 wr _ _) (one1 _ _) (by unfold maxLen; omega) (by omega) (by simp; omega) w (hbr.alloc hsz _) ?_; intro A2 c2 w2 HO2 hb2 _)
      go_roundw
      case rel =>
        refine ⟨j + 1, X / 256, by omega, by go_num, by go_num, by omega, Lib.hid (div_step HX.out), ?_, hb2⟩
        have h := HO2.out
        rw [byte_mod V j X HX.out] at h
        rw [low_snoc, u8s_append]
        exact Lib.hid h
      case measure => simp [intOf]; omega
    · go_wp2
      go_ret
      obtain rfl : j = k := by omega
      obtain ⟨A2, c2, hv⟩ := own_slice HO.out
      have h := HO.out
      rw [hv] at h
      exact ⟨A2, c2, by rw [← hv]; rfl, h, hbr⟩

set_option maxHeartbeats 400000 in
theorem refNumber_ok (N : Int) (w : World) (h0 : 0 ≤ N) (h1 : N ≤ 1000000000) :
    Calls Try.prog 67 #[.int .i64 N] w fun e w' =>
      ∃ A c, e = .returned (.tuple #[.slice A 4 c, .bool true]) ∧ Made w w' 5 A 4 c (low N.toNat 4) := by
  obtain ⟨V, rfl⟩ := Int.eq_ofNat_of_zero_le h0
  go_enter Try.func67, Try.ntmps67
  go_wp2_with fail
  refine (low_any V 4 w (by omega) (by omega)).mono ?_
  rintro e w' ⟨A, c, rfl, hO⟩
  go_wp2
  go_ret2
  exact ⟨A, c, rfl, hO⟩

set_option maxHeartbeats 400000 in
theorem refNumber_no (N : Int) (w : World) (h : N < 0 ∨ 1000000000 < N) :
    Calls Try.prog 67 #[.int .i64 N] w fun e w' => e = .returned (.tuple #[.slice none 0 0, .bool false]) ∧ w = w' := by
  rcases h with h | h
  · go_enter Try.func67, Try.ntmps67
    go_wp2
    go_ret2
    exact ⟨rfl, rfl⟩
  · have h' : 0 ≤ N := by omega
    go_enter Try.func67, Try.ntmps67
    go_wp2
    go_ret2
    exact ⟨rfl, rfl⟩

set_option maxHeartbeats 400000 in
theorem refText_ok (s : ByteArray) (w : World) (h1 : s.size ≤ 65536) :
    Calls Try.prog 69 #[.string s] w fun e w' =>
      ∃ A c, e = .returned (.tuple #[.slice A (4 + s.size) c, .bool true]) ∧ Made w w' 5 A (4 + s.size) c (low s.size 4 ++ s.data.toList) := by
  obtain ⟨i0, hi0, hz0, hz1, hz2⟩ := info_parts info_u8
  go_enter Try.func69, Try.ntmps69
  go_wp2_with fail
  refine (low_any s.size 4 w (by omega) (by omega)).mono ?_
  rintro e w1 ⟨A, c, rfl, hM⟩
  have hsz := hM.below.size
  go_wp2_with (at_builtin; refine Lib.wpList_append_own_string _ rfl _ _ _ _ rfl w.heap.size 5 i0 Try.underlying59 Try.underlying9 hi0 hz0 hz1 hz2 (.slice A 4 c) _ _ rfl hM.own s rfl (by unfold maxLen; omega) (by omega) (by omega) ?_; intro v2 w2 hown hg _; have HO2 := Lib.hid hown; clear hown)
  go_ret2
  obtain ⟨A2, c2, hv⟩ := own_slice HO2.out
  have h := HO2.out
  rw [strCells_text, ← u8s_append, hv] at h
  exact ⟨A2, c2, by rw [hv]; rfl, h, hM.below.grown hg (by omega) (own_block_ge hM.own)⟩

set_option maxHeartbeats 400000 in
theorem refText_no (s : ByteArray) (w : World) (h : 65536 < s.size) :
    Calls Try.prog 69 #[.string s] w fun e w' => e = .returned (.tuple #[.slice none 0 0, .bool false]) ∧ w = w' := by
  go_enter Try.func69, Try.ntmps69
  go_wp2
  go_ret2
  exact ⟨rfl, rfl⟩

end Go.Proofs.Ytkdmfjpfanmgmaa
