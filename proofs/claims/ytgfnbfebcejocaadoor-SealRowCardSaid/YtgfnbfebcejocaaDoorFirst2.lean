/- The walks of package seal, on: the first frame that bytes begin with. -/
import Derived.Test.YtgfnbfebcejocaaDoorFirst
namespace Go.Proofs.YtgfnbfebcejocaaDoor
open Go.RowKit Le

def bodyOf (l : List UInt8) : List UInt8 := (l.drop 8).take (num (l.take 4))
/-- The first frame of bytes: its body, how many bytes it takes, the error. -/
def firstOf (l : List UInt8) : List UInt8 × Nat × Nat :=
  if l.length < 8 then ([], 0, 20) else if 1048576 < num (l.take 4) then ([], 0, 21) else if l.length < 8 + num (l.take 4) then ([], 0, 20)
  else if headOf (bodyOf l) = l.take 8 then (bodyOf l, 8 + num (l.take 4), 0) else ([], 0, 21)

theorem made_none {w w' : World} {t : TypeId} (h : Below w.heap.size w w') : Made w w' t none 0 0 [] := ⟨⟨rfl, .inl ⟨rfl, rfl⟩⟩, h⟩
theorem reads_take_u8 {w : World} {B n k : Nat} {A : Option Addr} {l : List UInt8} (h : Reads w B A n (u8s l)) (hk : k ≤ n) : Reads w B A k (u8s (l.take k)) := by
  have := h.take hk
  rwa [show (u8s l).take k = u8s (l.take k) from by simp [u8s]] at this
theorem reads_cut_u8 {w : World} {B n k c : Nat} {A : Option Addr} {l : List UInt8} (h : Reads w B A n (u8s l)) (hk : k ≤ n) (hc : n ≤ c) : Reads w B (if c = k then A else A.map (·.add k)) (n - k) (u8s (l.drop k)) := by
  have := h.cut hk hc
  rwa [show (u8s l).drop k = u8s (l.drop k) from by simp [u8s]] at this

set_option maxHeartbeats 800000 in
theorem first_short_ (A : Option Addr) (n c : Nat) (l : List UInt8) (w : World) (hb : Reads w w.heap.size A n (u8s l)) (hnc : n ≤ c) (hm40 : n ≤ 1099511627776) (h : n < 8) :
    Calls Tryd.prog 18 #[.slice A n c] w fun e w' => e = .returned (.tuple #[.slice none 0 0, .int .i64 0, .int .i64 20]) ∧ Below w.heap.size w w' := by
  by_cases h4 : n < 4
  · have hm : min 4 n = n := by omega
    go_enter Tryd.func18, Tryd.ntmps18
    go_wp2_with fail
    refine (new_any A n c l w hb (by omega)).mono ?_
    rintro e w1 ⟨r, rfl, hr, hR, hw1⟩
    have HW1 := Lib.hid hw1
    clear hw1 hb
    go_wp2_with fail
    refine (number_all r l w1 hR).mono ?_
    obtain ⟨R, HR⟩ : ∃ R, Hid (rdNumber l = R) := ⟨_, Lib.hid rfl⟩
    rw [HR.out]
    rintro e w2 ⟨rfl, _, hg⟩
    have HW2 := Lib.hid (HW1.out.grown hg HW1.out.size (by intro k hk; injection hk with hk; omega))
    clear hg HR HW1
    go_wp2
    go_ret3
    exact ⟨rfl, HW2.out⟩
  · have hm : min 4 n = 4 := by omega
    have hb4 := reads_take_u8 hb (k := 4) (by omega)
    go_enter Tryd.func18, Tryd.ntmps18
    go_wp2_with fail
    refine (new_any A 4 c _ w hb4 (by omega)).mono ?_
    rintro e w1 ⟨r, rfl, hr, hR, hw1⟩
    have HW1 := Lib.hid hw1
    clear hw1 hb hb4
    go_wp2_with fail
    refine (number_all r _ w1 hR).mono ?_
    obtain ⟨R, HR⟩ : ∃ R, Hid (rdNumber (l.take 4) = R) := ⟨_, Lib.hid rfl⟩
    rw [HR.out]
    rintro e w2 ⟨rfl, _, hg⟩
    have HW2 := Lib.hid (HW1.out.grown hg HW1.out.size (by intro k hk; injection hk with hk; omega))
    clear hg HR HW1
    go_wp2
    go_ret3
    exact ⟨rfl, HW2.out⟩

/-- What the reader says of the first four bytes. -/
theorem rdNumber_four {l : List UInt8} (h : 4 ≤ l.length) : rdNumber (l.take 4) = if 1000000000 < num (l.take 4) then (0, 11, 0) else ((num (l.take 4) : Int), 0, 4) := by
  have h1 : (l.take 4).length = 4 := by rw [List.length_take]; omega
  unfold rdNumber
  rw [if_neg (by omega), List.take_take]
  rfl

set_option maxHeartbeats 800000 in
theorem first_form_ (A : Option Addr) (n c : Nat) (l : List UInt8) (w : World) (hb : Reads w w.heap.size A n (u8s l)) (hnc : n ≤ c) (hm40 : n ≤ 1099511627776) (h : 8 ≤ n) (hV : 1048576 < num (l.take 4)) :
    Calls Tryd.prog 18 #[.slice A n c] w fun e w' => e = .returned (.tuple #[.slice none 0 0, .int .i64 0, .int .i64 21]) ∧ Below w.heap.size w w' := by
  have hm : min 4 n = 4 := by omega
  have hb4 := reads_take_u8 hb (k := 4) (by omega)
  have HL := Lib.hid (reads_len hb)
  obtain ⟨X, HX⟩ : ∃ X, Hid (num (l.take 4) = X) := ⟨_, Lib.hid rfl⟩
  have hX : 1048576 < X := by rw [← HX.out]; exact hV
  have HR := Lib.hid (rdNumber_four (l := l) (by have := HL.out; omega))
  rw [HX.out] at HR
  clear hV
  by_cases hbig : 1000000000 < X
  · rw [if_pos hbig] at HR
    go_enter Tryd.func18, Tryd.ntmps18
    go_wp2_with fail
    refine (new_any A 4 c _ w hb4 (by omega)).mono ?_
    rintro e w1 ⟨r, rfl, hr, hR, hw1⟩
    have HW1 := Lib.hid hw1
    clear hw1 hb hb4
    go_wp2_with fail
    refine (number_all r _ w1 hR).mono ?_
    rw [HR.out]
    rintro e w2 ⟨rfl, _, hg⟩
    have HW2 := Lib.hid (HW1.out.grown hg HW1.out.size (by intro k hk; injection hk with hk; omega))
    clear hg HR HW1
    go_wp2
    go_ret3
    exact ⟨rfl, HW2.out⟩
  · rw [if_neg hbig] at HR
    go_enter Tryd.func18, Tryd.ntmps18
    go_wp2_with fail
    refine (new_any A 4 c _ w hb4 (by omega)).mono ?_
    rintro e w1 ⟨r, rfl, hr, hR, hw1⟩
    have HW1 := Lib.hid hw1
    clear hw1 hb hb4
    go_wp2_with fail
    refine (number_all r _ w1 hR).mono ?_
    rw [HR.out]
    rintro e w2 ⟨rfl, _, hg⟩
    have HW2 := Lib.hid (HW1.out.grown hg HW1.out.size (by intro k hk; injection hk with hk; omega))
    clear hg HR HW1
    go_wp2
    go_ret3
    exact ⟨rfl, HW2.out⟩

set_option maxHeartbeats 800000 in
theorem first_less_ (A : Option Addr) (n c X : Nat) (l : List UInt8) (w : World) (hb : Reads w w.heap.size A n (u8s l)) (hnc : n ≤ c) (hm40 : n ≤ 1099511627776) (h : 8 ≤ n) (hV : num (l.take 4) = X) (hX : X ≤ 1048576) (hn : n < 8 + X) :
    Calls Tryd.prog 18 #[.slice A n c] w fun e w' => e = .returned (.tuple #[.slice none 0 0, .int .i64 0, .int .i64 20]) ∧ Below w.heap.size w w' := by
  have hm : min 4 n = 4 := by omega
  have hb4 := reads_take_u8 hb (k := 4) (by omega)
  have HL := Lib.hid (reads_len hb)
  have HR := Lib.hid (rdNumber_four (l := l) (by have := HL.out; omega))
  rw [hV, if_neg (by omega)] at HR
  clear hV
  go_enter Tryd.func18, Tryd.ntmps18
  go_wp2_with fail
  refine (new_any A 4 c _ w hb4 (by omega)).mono ?_
  rintro e w1 ⟨r, rfl, hr, hR, hw1⟩
  have HW1 := Lib.hid hw1
  clear hw1 hb hb4
  go_wp2_with fail
  refine (number_all r _ w1 hR).mono ?_
  rw [HR.out]
  rintro e w2 ⟨rfl, _, hg⟩
  have HW2 := Lib.hid (HW1.out.grown hg HW1.out.size (by intro k hk; injection hk with hk; omega))
  clear hg HR HW1
  go_wp2
  go_ret3
  exact ⟨rfl, HW2.out⟩

theorem equal_is (b : Bool) (A1 A2 : Option Addr) (n1 n2 c1 c2 B1 B2 : Nat) (l1 l2 : List UInt8) (w : World) (h1 : Reads w B1 A1 n1 (u8s l1)) (h2 : Reads w B2 A2 n2 (u8s l2)) (hn : n1 ≤ 1099511627776) (hn2 : n2 ≤ 1099511627776) (hb : decide (l1 = l2) = b) :
    Calls Tryd.prog 30 #[.slice A1 n1 c1, .slice A2 n2 c2] w fun e w' => e = .returned (.bool b) ∧ ∃ m, w' = w.drewN m := by
  subst hb
  exact equal_any A1 A2 n1 n2 c1 c2 B1 B2 l1 l2 w h1 h2 hn hn2

set_option maxHeartbeats 1600000 in
theorem first_at (b : Bool) (ad : Addr) (n c X : Nat) (l : List UInt8) (w : World) (hT : Tab w) (hb : Reads w w.heap.size (some ad) n (u8s l)) (hnc : n ≤ c) (hm40 : n ≤ 1099511627776) (h : 8 ≤ n) (hV : num (l.take 4) = X) (hX : X ≤ 1048576) (hn : 8 + X ≤ n) (h8 : c ≠ 8)
    (hq : decide (headOf ((l.drop 8).take X) = l.take 8) = b) :
    Calls Tryd.prog 18 #[.slice (some ad) n c] w fun e w' => ∃ A' c', e = .returned (.tuple #[.slice A' (cond b X 0 : Nat) c', .int .i64 (cond b (8 + X) 0 : Nat), .int .i64 (cond b 0 21 : Nat)]) ∧ Made w w' 5 A' (cond b X 0) c' (cond b ((l.drop 8).take X) []) := by
  have hm : min 4 n = 4 := by omega
  have hb4 := reads_take_u8 hb (k := 4) (by omega)
  have HB8 := Lib.hid (reads_take_u8 hb (k := 8) (by omega))
  have HBB : Hid (Reads w w.heap.size (some ({ block := ad.block, off := ad.off + 8 } : Addr)) X (u8s ((l.drop 8).take X))) := by
    have h1 := reads_take_u8 (reads_cut_u8 hb (k := 8) (c := c) h hnc) (k := X) (by omega)
    rw [if_neg h8] at h1
    exact Lib.hid h1
  have HL := Lib.hid (reads_len hb)
  have HR := Lib.hid (rdNumber_four (l := l) (by have := HL.out; omega))
  rw [hV, if_neg (by omega)] at HR
  have HT := Lib.hid hT
  have HQ := Lib.hid hq
  clear hV hT hq
  go_enter Tryd.func18, Tryd.ntmps18
  go_wp2_with fail
  refine (new_any _ 4 c _ w hb4 (by omega)).mono ?_
  rintro e w1 ⟨r, rfl, hr, hR, hw1⟩
  have HW1 := Lib.hid hw1
  clear hw1 hb hb4
  go_wp2_with fail
  refine (number_all r _ w1 hR).mono ?_
  rw [HR.out]
  rintro e w2 ⟨rfl, _, hg⟩
  have HW2 := Lib.hid (HW1.out.grown hg HW1.out.size (by intro k hk; injection hk with hk; omega))
  have z2 := HW2.out.size
  clear hg HR HW1
  go_wp2_with fail
  refine (clone_any _ X (c - 8) _ w2 ((HBB.out.below HW2.out).more z2) (by omega)).mono ?_
  rintro e w3 ⟨A3, c3, rfl, hM3⟩
  have HW3 := Lib.hid (HW2.out.trans (hM3.below.mono z2))
  have z3 := HW3.out.size
  have HO3 : Hid (w3.ownsRow w.heap.size 5 1 (.slice A3 X c3) X (u8s ((l.drop 8).take X))) := Lib.hid (own_mono hM3.own z2)
  have HB83 := Lib.hid (HB8.out.below HW3.out)
  have CH := Lib.hid (head_any A3 X c3 _ w3.drew (HT.out.below HW3.out.drew HT.out.lt) hM3.reads.drew (by omega))
  clear hM3 HBB HB8 HW2 HL
  go_wp2_with fail
  go_region_with (first
    | (go_at_call 24
       refine (unhide CH).mono ?_
       rintro e w4 ⟨A4, c4, rfl, hM4⟩
       have HW4 : Hid (Below w.heap.size w w4) := Lib.hid (HW3.out.drew.trans (hM4.below.mono z3))
       have HO4 : Hid (w4.ownsRow w.heap.size 5 1 (.slice A3 X c3) X (u8s ((l.drop 8).take X))) := Lib.hid (HO3.out.drew.below_ hM4.below)
       have CE := Lib.hid (equal_is b A4 (some ad) 8 8 c4 c _ _ _ _ w4 hM4.reads (HB83.out.drew.below (hM4.below.mono z3)) (by omega) (by omega) HQ.out)
       clear hM4)
    | (go_at_call 30
       refine (unhide CE).mono ?_
       rintro e w5 ⟨rfl, q, rfl⟩))
  all_goals
    cases b
    · go_wp2
      go_ret3
      exact ⟨none, 0, rfl, made_none (HW4.out.drewN q)⟩
    · go_wp2
      go_ret3
      exact ⟨A3, c3, rfl, HO4.out, HW4.out.drewN q⟩
set_option maxHeartbeats 1600000 in
theorem first_at0 (b : Bool) (ad : Addr) (n c X : Nat) (l : List UInt8) (w : World) (hT : Tab w) (hb : Reads w w.heap.size (some ad) n (u8s l)) (hnc : n ≤ c) (hm40 : n ≤ 1099511627776) (h : 8 ≤ n) (hV : num (l.take 4) = X) (hX : X ≤ 1048576) (hn : 8 + X ≤ n) (h8 : c = 8)
    (hq : decide (headOf ((l.drop 8).take X) = l.take 8) = b) :
    Calls Tryd.prog 18 #[.slice (some ad) n c] w fun e w' => ∃ A' c', e = .returned (.tuple #[.slice A' (cond b X 0 : Nat) c', .int .i64 (cond b (8 + X) 0 : Nat), .int .i64 (cond b 0 21 : Nat)]) ∧ Made w w' 5 A' (cond b X 0) c' (cond b ((l.drop 8).take X) []) := by
  obtain rfl : n = 8 := by omega
  obtain rfl : X = 0 := by omega
  subst h8
  have hm : min 4 8 = 4 := by omega
  have hb4 := reads_take_u8 hb (k := 4) (by omega)
  have HB8 := Lib.hid (reads_take_u8 hb (k := 8) (by omega))
  have HBB : Hid (Reads w w.heap.size (some ad) 0 (u8s ((l.drop 8).take 0))) := Lib.hid ⟨by simp, fun h => absurd h (by omega)⟩
  have HL := Lib.hid (reads_len hb)
  have HR := Lib.hid (rdNumber_four (l := l) (by have := HL.out; omega))
  rw [hV, if_neg (by omega)] at HR
  have HT := Lib.hid hT
  have HQ := Lib.hid hq
  clear hV hT hq
  go_enter Tryd.func18, Tryd.ntmps18
  go_wp2_with fail
  refine (new_any _ 4 8 _ w hb4 (by omega)).mono ?_
  rintro e w1 ⟨r, rfl, hr, hR, hw1⟩
  have HW1 := Lib.hid hw1
  clear hw1 hb hb4
  go_wp2_with fail
  refine (number_all r _ w1 hR).mono ?_
  rw [HR.out]
  rintro e w2 ⟨rfl, _, hg⟩
  have HW2 := Lib.hid (HW1.out.grown hg HW1.out.size (by intro k hk; injection hk with hk; omega))
  have z2 := HW2.out.size
  clear hg HR HW1
  go_wp2_with fail
  refine (clone_any _ 0 0 _ w2 ((HBB.out.below HW2.out).more z2) (by omega)).mono ?_
  rintro e w3 ⟨A3, c3, rfl, hM3⟩
  have HW3 := Lib.hid (HW2.out.trans (hM3.below.mono z2))
  have z3 := HW3.out.size
  have HO3 : Hid (w3.ownsRow w.heap.size 5 1 (.slice A3 0 c3) 0 (u8s ((l.drop 8).take 0))) := Lib.hid (own_mono hM3.own z2)
  have HB83 := Lib.hid (HB8.out.below HW3.out)
  have CH := Lib.hid (head_any A3 0 c3 _ w3.drew (HT.out.below HW3.out.drew HT.out.lt) hM3.reads.drew (by omega))
  clear hM3 HBB HB8 HW2 HL
  go_wp2_with fail
  go_region_with (first
    | (go_at_call 24
       refine (unhide CH).mono ?_
       rintro e w4 ⟨A4, c4, rfl, hM4⟩
       have HW4 : Hid (Below w.heap.size w w4) := Lib.hid (HW3.out.drew.trans (hM4.below.mono z3))
       have HO4 : Hid (w4.ownsRow w.heap.size 5 1 (.slice A3 0 c3) 0 (u8s ((l.drop 8).take 0))) := Lib.hid (HO3.out.drew.below_ hM4.below)
       have CE := Lib.hid (equal_is b A4 (some ad) 8 8 c4 8 _ _ _ _ w4 hM4.reads (HB83.out.drew.below (hM4.below.mono z3)) (by omega) (by omega) HQ.out)
       clear hM4)
    | (go_at_call 30
       refine (unhide CE).mono ?_
       rintro e w5 ⟨rfl, q, rfl⟩))
  all_goals
    cases b
    · go_wp2
      go_ret3
      exact ⟨none, 0, rfl, made_none (HW4.out.drewN q)⟩
    · go_wp2
      go_ret3
      exact ⟨A3, c3, rfl, HO4.out, HW4.out.drewN q⟩
end Go.Proofs.YtgfnbfebcejocaaDoor
