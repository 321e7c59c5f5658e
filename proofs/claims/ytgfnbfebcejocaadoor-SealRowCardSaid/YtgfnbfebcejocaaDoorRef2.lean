/- The walks of package seal, on: the reference's first frame. -/
import Derived.Test.YtgfnbfebcejocaaDoorFirst2
namespace Go.Proofs.YtgfnbfebcejocaaDoor
open Go.RowKit Le

/-- The head stands before the body just if the four bytes behind the length are the sum's. -/
theorem head_iff {l : List UInt8} {X : Nat} (h8 : 8 ≤ l.length) (hV : num (l.take 4) = X) (hn : 8 + X ≤ l.length) :
    headOf ((l.drop 8).take X) = l.take 8 ↔ Crc.sum (low ((l.drop 8).take X).length 4 ++ (l.drop 8).take X) = num ((l.drop 4).take 4) := by
  have hlen : ((l.drop 8).take X).length = X := by rw [List.length_take, List.length_drop]; omega
  have e4 : (l.take 4).length = 4 := by rw [List.length_take]; omega
  have e4' : ((l.drop 4).take 4).length = 4 := by rw [List.length_take, List.length_drop]; omega
  have t8 : l.take 8 = l.take 4 ++ (l.drop 4).take 4 := by
    rw [show (8 : Nat) = 4 + 4 from rfl, List.take_add]
  have hX : low X 4 = l.take 4 := by
    have := low_num (l.take 4)
    rwa [e4, hV] at this
  unfold headOf
  rw [hlen, t8, hX]
  constructor
  · intro h
    have h2 := (List.append_inj h (by rw [e4])).2
    rw [← h2, num_low, Nat.mod_eq_of_lt (Crc.sum_lt _)]
  · intro h
    rw [h]
    have := low_num ((l.drop 4).take 4)
    rw [e4'] at this
    rw [this]

set_option maxHeartbeats 400000 in
theorem refFirst_short (A : Option Addr) (n c : Nat) (w : World) (h : n < 8) :
    Calls Tryd.prog 19 #[.slice A n c] w fun e w' => e = .returned (.tuple #[.slice none 0 0, .int .i64 0, .int .i64 20]) ∧ w = w' := by
  go_enter Tryd.func19, Tryd.ntmps19
  go_wp2
  go_ret3
  exact ⟨rfl, rfl⟩

set_option maxHeartbeats 400000 in
theorem refFirst_form (B : Nat) (ad : Addr) (n c X : Nat) (l : List UInt8) (w : World) (hb : Reads w B (some ad) n (u8s l)) (hnc : n ≤ c) (hm40 : n ≤ 1099511627776) (h : 8 ≤ n) (hV : num (l.take 4) = X) (hX : 1048576 < X) :
    Calls Tryd.prog 19 #[.slice (some ad) n c] w fun e w' => e = .returned (.tuple #[.slice none 0 0, .int .i64 0, .int .i64 21]) ∧ w = w' := by
  have hb4 := reads_take_u8 hb (k := 4) (by omega)
  go_enter Tryd.func19, Tryd.ntmps19
  go_wp2_with fail
  refine (of_any ad 4 c _ _ w hb4 (by omega)).mono ?_
  rw [hV]
  rintro e w' ⟨rfl, rfl⟩
  clear hb hb4 hV
  go_wp2
  go_ret3
  exact ⟨rfl, rfl⟩

set_option maxHeartbeats 400000 in
theorem refFirst_less (B : Nat) (ad : Addr) (n c X : Nat) (l : List UInt8) (w : World) (hb : Reads w B (some ad) n (u8s l)) (hnc : n ≤ c) (hm40 : n ≤ 1099511627776) (h : 8 ≤ n) (hV : num (l.take 4) = X) (hX : X ≤ 1048576) (hn : n < 8 + X) :
    Calls Tryd.prog 19 #[.slice (some ad) n c] w fun e w' => e = .returned (.tuple #[.slice none 0 0, .int .i64 0, .int .i64 20]) ∧ w = w' := by
  have hb4 := reads_take_u8 hb (k := 4) (by omega)
  go_enter Tryd.func19, Tryd.ntmps19
  go_wp2_with fail
  refine (of_any ad 4 c _ _ w hb4 (by omega)).mono ?_
  rw [hV]
  rintro e w' ⟨rfl, rfl⟩
  clear hb hb4 hV
  go_wp2
  go_ret3
  exact ⟨rfl, rfl⟩

set_option maxHeartbeats 1600000 in
theorem refFirst_at (b : Bool) (B : Nat) (ad : Addr) (n c X : Nat) (l : List UInt8) (w : World) (hb : Reads w B (some ad) n (u8s l)) (hB : B ≤ w.heap.size) (hnc : n ≤ c) (hm40 : n ≤ 1099511627776) (h : 8 ≤ n) (hV : num (l.take 4) = X) (hX : X ≤ 1048576) (hn : 8 + X ≤ n) (h8 : c ≠ 8)
    (hq : decide (headOf ((l.drop 8).take X) = l.take 8) = b) :
    Calls Tryd.prog 19 #[.slice (some ad) n c] w fun e w' => ∃ A' c', e = .returned (.tuple #[.slice A' (cond b X 0 : Nat) c', .int .i64 (cond b (8 + X) 0 : Nat), .int .i64 (cond b 0 21 : Nat)]) ∧ Reads w' B A' (cond b X 0) (u8s (cond b ((l.drop 8).take X) [])) ∧ Below w.heap.size w w' := by
  have hb4 := reads_take_u8 hb (k := 4) (by omega)
  have HL := Lib.hid (reads_len hb)
  have HBB : Hid (Reads w B (some ({ block := ad.block, off := ad.off + 8 } : Addr)) X (u8s ((l.drop 8).take X))) := by
    have h1 := reads_take_u8 (reads_cut_u8 hb (k := 8) (c := c) h hnc) (k := X) (by omega)
    rw [if_neg h8] at h1
    exact Lib.hid h1
  have HB4 : Hid (Reads w B (some ({ block := ad.block, off := ad.off + 4 } : Addr)) 4 (u8s ((l.drop 4).take 4))) := by
    have h1 := reads_take_u8 (reads_cut_u8 hb (k := 4) (c := c) (by omega) hnc) (k := 4) (by omega)
    rw [if_neg (by omega)] at h1
    exact Lib.hid h1
  have hq2 : decide (Crc.sum (low ((l.drop 8).take X).length 4 ++ (l.drop 8).take X) = num ((l.drop 4).take 4)) = b := by
    rw [← hq]
    exact decide_eq_decide.2 (head_iff (by have := HL.out; omega) hV (by have := HL.out; omega)).symm
  have hS : Crc.sum (low ((l.drop 8).take X).length 4 ++ (l.drop 8).take X) < 4294967296 := Crc.sum_lt _
  obtain ⟨S, HS⟩ : ∃ S, Hid (Crc.sum (low ((l.drop 8).take X).length 4 ++ (l.drop 8).take X) = S) := ⟨_, Lib.hid rfl⟩
  obtain ⟨Y, HY⟩ : ∃ Y, Hid (num ((l.drop 4).take 4) = Y) := ⟨_, Lib.hid rfl⟩
  rw [HS.out] at hS hq2
  rw [HY.out] at hq2
  have HQ := Lib.hid hq2
  have HB := Lib.hid hb
  clear hq hq2 hb
  go_enter Tryd.func19, Tryd.ntmps19
  go_wp2_with fail
  refine (of_any ad 4 c _ _ w hb4 (by omega)).mono ?_
  rw [hV]
  rintro e w' ⟨rfl, hww⟩
  have hww := hww.symm
  subst hww
  clear hb4 hV
  have CS := Lib.hid (summed_any _ X (c - 8) _ w.drew (HBB.out.drew.more hB) (by omega))
  rw [HS.out] at CS
  have hw : IntKind.u64.wrap (S : Int) = (S : Int) := u64_wrap_nat S (by omega)
  have t1 : ((S : Int) != (Y : Int)) = !b := by
    have h1 := HQ.out
    subst h1
    by_cases h2 : S = Y
    · subst h2; simp
    · have h3 : ¬ (S : Int) = (Y : Int) := by omega
      simp [h2, h3]
  clear HS HQ HL HB
  go_wp2_with fail
  go_region_with (first
    | (go_at_call 26
       refine (unhide CS).mono ?_
       rintro e w4 ⟨rfl, hw4⟩
       have HW4 : Hid (Below w.heap.size w w4) := Lib.hid (((Below.refl _ w).drew).trans hw4)
       have HB8 : Hid (Reads w4 B (some ({ block := ad.block, off := ad.off + 8 } : Addr)) X (u8s ((l.drop 8).take X))) := Lib.hid (HBB.out.drew.below (hw4.mono hB))
       have CE := Lib.hid (of_any _ 4 (c - 4) B _ w4 (HB4.out.drew.below (hw4.mono hB)) (by omega))
       rw [HY.out] at CE
       clear hw4)
    | (go_at_call 31
       refine (unhide CE).mono ?_
       rintro e w5 ⟨rfl, rfl⟩))
  all_goals
    cases b
    · go_wp2
      go_ret3
      exact ⟨none, 0, rfl, Reads.none_, HW4.out⟩
    · go_wp2
      go_ret3
      exact ⟨_, c - 8, rfl, HB8.out, HW4.out⟩

set_option maxHeartbeats 1600000 in
theorem refFirst_at0 (b : Bool) (B : Nat) (ad : Addr) (n c X : Nat) (l : List UInt8) (w : World) (hb : Reads w B (some ad) n (u8s l)) (hB : B ≤ w.heap.size) (hnc : n ≤ c) (hm40 : n ≤ 1099511627776) (h : 8 ≤ n) (hV : num (l.take 4) = X) (hX : X ≤ 1048576) (hn : 8 + X ≤ n) (h8 : c = 8)
    (hq : decide (headOf ((l.drop 8).take X) = l.take 8) = b) :
    Calls Tryd.prog 19 #[.slice (some ad) n c] w fun e w' => ∃ A' c', e = .returned (.tuple #[.slice A' (cond b X 0 : Nat) c', .int .i64 (cond b (8 + X) 0 : Nat), .int .i64 (cond b 0 21 : Nat)]) ∧ Reads w' B A' (cond b X 0) (u8s (cond b ((l.drop 8).take X) [])) ∧ Below w.heap.size w w' := by
  obtain rfl : n = 8 := by omega
  obtain rfl : X = 0 := by omega
  subst h8
  have hb4 := reads_take_u8 hb (k := 4) (by omega)
  have HL := Lib.hid (reads_len hb)
  have HBB : Hid (Reads w B (some ad) 0 (u8s ((l.drop 8).take 0))) := Lib.hid ⟨by simp, fun h => absurd h (by omega)⟩
  have HB4 : Hid (Reads w B (some ({ block := ad.block, off := ad.off + 4 } : Addr)) 4 (u8s ((l.drop 4).take 4))) := by
    have h1 := reads_take_u8 (reads_cut_u8 hb (k := 4) (c := 8) (by omega) hnc) (k := 4) (by omega)
    rw [if_neg (by omega)] at h1
    exact Lib.hid h1
  have hq2 : decide (Crc.sum (low ((l.drop 8).take 0).length 4 ++ (l.drop 8).take 0) = num ((l.drop 4).take 4)) = b := by
    rw [← hq]
    exact decide_eq_decide.2 (head_iff (by have := HL.out; omega) hV (by have := HL.out; omega)).symm
  have hS : Crc.sum (low ((l.drop 8).take 0).length 4 ++ (l.drop 8).take 0) < 4294967296 := Crc.sum_lt _
  obtain ⟨S, HS⟩ : ∃ S, Hid (Crc.sum (low ((l.drop 8).take 0).length 4 ++ (l.drop 8).take 0) = S) := ⟨_, Lib.hid rfl⟩
  obtain ⟨Y, HY⟩ : ∃ Y, Hid (num ((l.drop 4).take 4) = Y) := ⟨_, Lib.hid rfl⟩
  rw [HS.out] at hS hq2
  rw [HY.out] at hq2
  have HQ := Lib.hid hq2
  have HB := Lib.hid hb
  clear hq hq2 hb
  go_enter Tryd.func19, Tryd.ntmps19
  go_wp2_with fail
  refine (of_any ad 4 8 _ _ w hb4 (by omega)).mono ?_
  rw [hV]
  rintro e w' ⟨rfl, hww⟩
  have hww := hww.symm
  subst hww
  clear hb4 hV
  have CS := Lib.hid (summed_any _ 0 0 _ w.drew (HBB.out.drew.more hB) (by omega))
  rw [HS.out] at CS
  have hw : IntKind.u64.wrap (S : Int) = (S : Int) := u64_wrap_nat S (by omega)
  have t1 : ((S : Int) != (Y : Int)) = !b := by
    have h1 := HQ.out
    subst h1
    by_cases h2 : S = Y
    · subst h2; simp
    · have h3 : ¬ (S : Int) = (Y : Int) := by omega
      simp [h2, h3]
  clear HS HQ HL HB
  go_wp2_with fail
  go_region_with (first
    | (go_at_call 26
       refine (unhide CS).mono ?_
       rintro e w4 ⟨rfl, hw4⟩
       have HW4 : Hid (Below w.heap.size w w4) := Lib.hid (((Below.refl _ w).drew).trans hw4)
       have HB8 : Hid (Reads w4 B (some ad) 0 (u8s ((l.drop 8).take 0))) := Lib.hid (HBB.out.drew.below (hw4.mono hB))
       have CE := Lib.hid (of_any _ 4 4 B _ w4 (HB4.out.drew.below (hw4.mono hB)) (by omega))
       rw [HY.out] at CE
       clear hw4)
    | (go_at_call 31
       refine (unhide CE).mono ?_
       rintro e w5 ⟨rfl, rfl⟩))
  all_goals
    cases b
    · go_wp2
      go_ret3
      exact ⟨none, 0, rfl, Reads.none_, HW4.out⟩
    · go_wp2
      go_ret3
      exact ⟨_, 0, rfl, HB8.out, HW4.out⟩

end Go.Proofs.YtgfnbfebcejocaaDoor
