/- Joined by mkmerge.py from the proof's texts First, First2. Conditions: each theorem's own hypotheses. -/
import Derived.Test.YtkdmfjpfanmgmaaGreatDoorM14
import Derived.Test.YtkdmfjpfanmgmaaGreatDoorM06
import Derived.Deep.RegionWith
import Derived.Lib.SliceRun
namespace Go.Proofs.YtkdmfjpfanmgmaaGreatDoor
open Go.RowKit Le
set_option maxRecDepth 100000
theorem own_mono {w : World} {base base' size n : Nat} {e : TypeId} {v : Value} {xs : List Value} (h : w.ownsRow base e size v n xs) (hb : base' ≤ base) : w.ownsRow base' e size v n xs := by
  refine ⟨h.1, ?_⟩
  rcases h.2 with h0 | ⟨g, cap, cur, hv, hg, rest⟩
  · exact .inl h0
  · exact .inr ⟨g, cap, cur, hv, Nat.le_trans hb hg, rest⟩
theorem _root_.Go.RowKit.Below.drewN {w w' : World} {B : Nat} (h : Below B w w') (m : Nat) : Below B w (w'.drewN m) := by
  induction m with
  | zero => exact h
  | succ m ih => exact ih.drew
/-- A slice that the text wrote out without elements, as a row of the call's own. -/
theorem sown_empty (w : World) (t : TypeId) (B : Nat) (hB : B ≤ w.heap.size) : (w.alloc (.cells #[] t)).ownsRow B t 1 (.slice (some ⟨w.heap.size, 0, none⟩) 0 0) 0 [] :=
  ⟨rfl, .inr ⟨w.heap.size, 0, #[], rfl, hB, heap_alloc_new w _, Nat.le_refl _, by simp [maxLen], rfl, rfl⟩⟩
set_option maxHeartbeats 800000 in
theorem clone_any (ad : Addr) (k c : Nat) (l : List UInt8) (w : World) (hb : Reads w w.heap.size (some ad) k (u8s l)) (hk : k ≤ 1099511627776) :
    Calls Tryz.prog 74 #[.slice (some ad) k c] w fun e w' => ∃ A' c', e = .returned (.slice A' k c') ∧ Made w w' 5 A' k c' l := by
  obtain ⟨i0, hi0, hz0, hz1, hz2⟩ := info_parts info_u8
  have hb2 := hb.alloc (Nat.le_refl _) (.cells #[] 5)
  have kn : ∀ w, (binOp .eql 72 (.slice (some ad) k c) (.slice none 0 0)).run Tryz.prog w = .ok (.bool false) w := fun w => Lib.run_eql_slice_nil w _ _ _ _ _ _ _ Tryz.underlying72
  go_enter Tryz.func74, Tryz.ntmps74
  go_wp2_with (at_builtin; refine wpList_app rfl _ _ _ rfl w.heap.size 5 i0 _ 1 Tryz.underlying72 hi0 hz0 hz1 hz2 rfl (.slice (some ⟨w.heap.size, 0, none⟩) 0 0) 0 [] rfl (sown_empty w _ _ (Nat.le_refl _)) _ _ k c _ rfl hb2 (u8s_one _) (by unfold maxLen; omega) (by omega) (by simp) w ((Below.refl _ _).alloc (Nat.le_refl _) _) ?_; intro A3 c3 w3 HO3 hb3 _)
  go_ret
  exact ⟨A3, c3, rfl, by have h := HO3.out; rw [Nat.zero_add] at h; simpa using h, hb3⟩
theorem take_ne {l1 l2 : List UInt8} {j : Nat} (h1 : j < l1.length) (h2 : j < l2.length) (h : (l1[j]'h1) ≠ (l2[j]'h2)) : l1 ≠ l2 := by
  rintro rfl
  exact h rfl
theorem take_snoc_eq {l1 l2 : List UInt8} {j : Nat} (h1 : j < l1.length) (h2 : j < l2.length) (h : l1.take j = l2.take j) (he : (l1[j]'h1) = (l2[j]'h2)) : l1.take (j + 1) = l2.take (j + 1) := by
  rw [List.take_succ_eq_append_getElem h1, List.take_succ_eq_append_getElem h2, h, he]
set_option maxHeartbeats 1600000 in
theorem equal_any (A1 A2 : Option Addr) (n1 n2 c1 c2 B1 B2 : Nat) (l1 l2 : List UInt8) (w : World) (h1 : Reads w B1 A1 n1 (u8s l1)) (h2 : Reads w B2 A2 n2 (u8s l2)) (hn : n1 ≤ 1099511627776) (hn2 : n2 ≤ 1099511627776) :
    Calls Tryz.prog 133 #[.slice A1 n1 c1, .slice A2 n2 c2] w fun e w' => e = .returned (.bool (decide (l1 = l2))) ∧ ∃ m, w' = w.drewN m := by
  have L1 := Lib.hid (sreads_len h1)
  have L2 := Lib.hid (sreads_len h2)
  by_cases hne : n1 = n2
  · subst hne
    go_enter Tryz.func133, Tryz.ntmps133
    go_wp2
    go_loopw [13] (fun i wr => ∃ (j m : Nat), j ≤ n1 ∧ i = .int .i64 j ∧ wr = w.drewN m ∧ Hid (l1.take j = l2.take j)) (fun i _ => n1 - (intOf i).toNat)
    case atStart => exact ⟨0, 0, Nat.zero_le _, rfl, rfl, Lib.hid rfl⟩
    case round =>
      obtain ⟨j, m, hj, rfl, rfl, HE⟩ := hrel
      by_cases hlt : j < n1
      · obtain ⟨a1, hA1, _, hc1⟩ := h1.2 (by omega)
        obtain ⟨a2, hA2, _, hc2⟩ := h2.2 (by omega)
        subst hA1
        subst hA2
        have j1 : j < l1.length := by have := L1.out; omega
        have j2 : j < l2.length := by have := L2.out; omega
        have k1 : w.cell? (a1.add j) = some (.int .u8 ((l1[j]'j1).toNat : Int)) := hc1 j _ (u8s_at l1 j j1)
        have k2 : w.cell? (a2.add j) = some (.int .u8 ((l2[j]'j2).toNat : Int)) := hc2 j _ (u8s_at l2 j j2)
        obtain ⟨X, HX⟩ : ∃ X, Hid ((l1[j]'j1).toNat = X) := ⟨_, Lib.hid rfl⟩
        obtain ⟨Y, HY⟩ : ∃ Y, Hid ((l2[j]'j2).toNat = Y) := ⟨_, Lib.hid rfl⟩
        rw [HX.out] at k1
        rw [HY.out] at k2
        have p1 : (j : Int) < (n1 : Int) := by omega
        clear hc1 hc2 h1 h2
        by_cases hXY : X = Y
        · subst hXY
          have HS := Lib.hid (take_snoc_eq j1 j2 HE.out (UInt8.toNat_inj.1 (HX.out.trans HY.out.symm)))
          go_wp2
          go_quiet (fail)
          go_wp2
          go_roundw
          case rel => exact ⟨j + 1, _, by omega, by go_num, rfl, HS⟩
          case measure => simp [intOf]; omega
        · have HN := Lib.hid (take_ne j1 j2 (fun h => hXY (by rw [← HX.out, ← HY.out, h])))
          have t0 : ¬ (X : Int) = (Y : Int) := by omega
          have t1 : ((X : Int) == (Y : Int)) = false := by simpa using t0
          have t2 : ((X : Int) != (Y : Int)) = true := by simpa using t0
          clear hXY
          go_wp2
          go_quiet (fail)
          go_wp2
          go_ret
          exact ⟨by rw [decide_eq_false HN.out]; rfl, _, World.drewN_drewN _ _ _⟩
      · obtain rfl : j = n1 := by omega
        have HQ : Hid (l1 = l2) := by
          have h := HE.out
          rw [List.take_of_length_le (by have := L1.out; omega), List.take_of_length_le (by have := L2.out; omega)] at h
          exact Lib.hid h
        go_wp2
        go_ret
        exact ⟨by rw [decide_eq_true HQ.out]; rfl, _, rfl⟩
  · have HN : Hid (l1 ≠ l2) := Lib.hid (fun h => hne (by rw [← L1.out, ← L2.out, h]))
    have t0 : ¬ (n1 : Int) = (n2 : Int) := by omega
    have t1 : ((n1 : Int) == (n2 : Int)) = false := by simpa using t0
    have t2 : ((n1 : Int) != (n2 : Int)) = true := by simpa using t0
    clear hne
    go_enter Tryz.func133, Tryz.ntmps133
    go_wp2
    go_ret
    exact ⟨by rw [decide_eq_false HN.out]; rfl, 0, rfl⟩
end Go.Proofs.YtkdmfjpfanmgmaaGreatDoor
namespace Go.Proofs.YtkdmfjpfanmgmaaGreatDoor
open Go.RowKit Le
set_option maxRecDepth 100000
def bodyOf (l : List UInt8) : List UInt8 := (l.drop 8).take (num (l.take 4))
/-- The first frame of bytes: its body, how many bytes it takes, the error. -/
def firstOf (l : List UInt8) : List UInt8 × Nat × Nat :=
  if l.length < 8 then ([], 0, 20) else if 1048576 < num (l.take 4) then ([], 0, 21) else if l.length < 8 + num (l.take 4) then ([], 0, 20)
  else if headOf (bodyOf l) = l.take 8 then (bodyOf l, 8 + num (l.take 4), 0) else ([], 0, 21)
theorem made_none {w w' : World} {t : TypeId} (h : Below w.heap.size w w') : Made w w' t none 0 0 [] := ⟨⟨rfl, .inl ⟨rfl, rfl⟩⟩, h⟩
theorem reads_take_u8 {w : World} {B n k : Nat} {A : Option Addr} {l : List UInt8} (h : Reads w B A n (u8s l)) (hk : k ≤ n) : Reads w B A k (u8s (l.take k)) := by
  have := h.take hk
  rwa [show (u8s l).take k = u8s (l.take k) from by simp [u8s]] at this
theorem reads_cut_u8 {w : World} {B n k c : Nat} {A : Option Addr} {l : List UInt8} (h : Reads w B A n (u8s l)) (hk : k ≤ n) (hc : n ≤ c) : Reads w B (if c = k then A else A.map (·.add k)) (n - k) (u8s (l.drop k)) := by
  have := h.cut hk hc
  rwa [show (u8s l).drop k = u8s (l.drop k) from by simp [u8s]] at this
set_option maxHeartbeats 800000 in
theorem first_short_ (A : Option Addr) (n c : Nat) (l : List UInt8) (w : World) (hb : Reads w w.heap.size A n (u8s l)) (hnc : n ≤ c) (hm40 : n ≤ 1099511627776) (h : n < 8) :
    Calls Tryz.prog 120 #[.slice A n c] w fun e w' => e = .returned (.tuple #[.slice none 0 0, .int .i64 0, .int .i64 20]) ∧ Below w.heap.size w w' := by
  by_cases h4 : n < 4
  · have hm : min 4 n = n := by omega
    go_enter Tryz.func120, Tryz.ntmps120
    go_wp2_with fail
    refine (new_any A n c l w hb (by omega)).mono ?_
    rintro e w1 ⟨r, rfl, hr, hR, hw1⟩
    have HW1 := Lib.hid hw1
    clear hw1 hb
    go_wp2_with fail
    refine (number_all r l w1 hR).mono ?_
    obtain ⟨R, HR⟩ : ∃ R, Hid (rdNumber l = R) := ⟨_, Lib.hid rfl⟩
    rw [HR.out]
    rintro e w2 ⟨rfl, _, hg⟩
    have HW2 := Lib.hid (HW1.out.grown hg HW1.out.size (by intro k hk; injection hk with hk; omega))
    clear hg HR HW1
    go_wp2
    go_ret3
    exact ⟨rfl, HW2.out⟩
  · have hm : min 4 n = 4 := by omega
    have hb4 := reads_take_u8 hb (k := 4) (by omega)
    go_enter Tryz.func120, Tryz.ntmps120
    go_wp2_with fail
    refine (new_any A 4 c _ w hb4 (by omega)).mono ?_
    rintro e w1 ⟨r, rfl, hr, hR, hw1⟩
    have HW1 := Lib.hid hw1
    clear hw1 hb hb4
    go_wp2_with fail
    refine (number_all r _ w1 hR).mono ?_
    obtain ⟨R, HR⟩ : ∃ R, Hid (rdNumber (l.take 4) = R) := ⟨_, Lib.hid rfl⟩
    rw [HR.out]
    rintro e w2 ⟨rfl, _, hg⟩
    have HW2 := Lib.hid (HW1.out.grown hg HW1.out.size (by intro k hk; injection hk with hk; omega))
    clear hg HR HW1
    go_wp2
    go_ret3
    exact ⟨rfl, HW2.out⟩
/-- What the reader says of the first four bytes. -/
theorem rdNumber_four {l : List UInt8} (h : 4 ≤ l.length) : rdNumber (l.take 4) = if 1000000000 < num (l.take 4) then (0, 11, 0) else ((num (l.take 4) : Int), 0, 4) := by
  have h1 : (l.take 4).length = 4 := by rw [List.length_take]; omega
  unfold rdNumber
  rw [if_neg (by omega), List.take_take]
  rfl
set_option maxHeartbeats 800000 in
theorem first_form_ (A : Option Addr) (n c : Nat) (l : List UInt8) (w : World) (hb : Reads w w.heap.size A n (u8s l)) (hnc : n ≤ c) (hm40 : n ≤ 1099511627776) (h : 8 ≤ n) (hV : 1048576 < num (l.take 4)) :
    Calls Tryz.prog 120 #[.slice A n c] w fun e w' => e = .returned (.tuple #[.slice none 0 0, .int .i64 0, .int .i64 21]) ∧ Below w.heap.size w w' := by
  have hm : min 4 n = 4 := by omega
  have hb4 := reads_take_u8 hb (k := 4) (by omega)
  have HL := Lib.hid (sreads_len hb)
  obtain ⟨X, HX⟩ : ∃ X, Hid (num (l.take 4) = X) := ⟨_, Lib.hid rfl⟩
  have hX : 1048576 < X := by rw [← HX.out]; exact hV
  have HR := Lib.hid (rdNumber_four (l := l) (by have := HL.out; omega))
  rw [HX.out] at HR
  clear hV
  by_cases hbig : 1000000000 < X
  · rw [if_pos hbig] at HR
    go_enter Tryz.func120, Tryz.ntmps120
    go_wp2_with fail
    refine (new_any A 4 c _ w hb4 (by omega)).mono ?_
    rintro e w1 ⟨r, rfl, hr, hR, hw1⟩
    have HW1 := Lib.hid hw1
    clear hw1 hb hb4
    go_wp2_with fail
    refine (number_all r _ w1 hR).mono ?_
    rw [HR.out]
    rintro e w2 ⟨rfl, _, hg⟩
    have HW2 := Lib.hid (HW1.out.grown hg HW1.out.size (by intro k hk; injection hk with hk; omega))
    clear hg HR HW1
    go_wp2
    go_ret3
    exact ⟨rfl, HW2.out⟩
  · rw [if_neg hbig] at HR
    go_enter Tryz.func120, Tryz.ntmps120
    go_wp2_with fail
    refine (new_any A 4 c _ w hb4 (by omega)).mono ?_
    rintro e w1 ⟨r, rfl, hr, hR, hw1⟩
    have HW1 := Lib.hid hw1
    clear hw1 hb hb4
    go_wp2_with fail
    refine (number_all r _ w1 hR).mono ?_
    rw [HR.out]
    rintro e w2 ⟨rfl, _, hg⟩
    have HW2 := Lib.hid (HW1.out.grown hg HW1.out.size (by intro k hk; injection hk with hk; omega))
    clear hg HR HW1
    go_wp2
    go_ret3
    exact ⟨rfl, HW2.out⟩
set_option maxHeartbeats 800000 in
theorem first_less_ (A : Option Addr) (n c X : Nat) (l : List UInt8) (w : World) (hb : Reads w w.heap.size A n (u8s l)) (hnc : n ≤ c) (hm40 : n ≤ 1099511627776) (h : 8 ≤ n) (hV : num (l.take 4) = X) (hX : X ≤ 1048576) (hn : n < 8 + X) :
    Calls Tryz.prog 120 #[.slice A n c] w fun e w' => e = .returned (.tuple #[.slice none 0 0, .int .i64 0, .int .i64 20]) ∧ Below w.heap.size w w' := by
  have hm : min 4 n = 4 := by omega
  have hb4 := reads_take_u8 hb (k := 4) (by omega)
  have HL := Lib.hid (sreads_len hb)
  have HR := Lib.hid (rdNumber_four (l := l) (by have := HL.out; omega))
  rw [hV, if_neg (by omega)] at HR
  clear hV
  go_enter Tryz.func120, Tryz.ntmps120
  go_wp2_with fail
  refine (new_any A 4 c _ w hb4 (by omega)).mono ?_
  rintro e w1 ⟨r, rfl, hr, hR, hw1⟩
  have HW1 := Lib.hid hw1
  clear hw1 hb hb4
  go_wp2_with fail
  refine (number_all r _ w1 hR).mono ?_
  rw [HR.out]
  rintro e w2 ⟨rfl, _, hg⟩
  have HW2 := Lib.hid (HW1.out.grown hg HW1.out.size (by intro k hk; injection hk with hk; omega))
  clear hg HR HW1
  go_wp2
  go_ret3
  exact ⟨rfl, HW2.out⟩
theorem equal_is (b : Bool) (A1 A2 : Option Addr) (n1 n2 c1 c2 B1 B2 : Nat) (l1 l2 : List UInt8) (w : World) (h1 : Reads w B1 A1 n1 (u8s l1)) (h2 : Reads w B2 A2 n2 (u8s l2)) (hn : n1 ≤ 1099511627776) (hn2 : n2 ≤ 1099511627776) (hb : decide (l1 = l2) = b) :
    Calls Tryz.prog 133 #[.slice A1 n1 c1, .slice A2 n2 c2] w fun e w' => e = .returned (.bool b) ∧ ∃ m, w' = w.drewN m := by
  subst hb
  exact equal_any A1 A2 n1 n2 c1 c2 B1 B2 l1 l2 w h1 h2 hn hn2
set_option maxHeartbeats 1600000 in
theorem first_at (b : Bool) (ad : Addr) (n c X : Nat) (l : List UInt8) (w : World) (hT : Tab w) (hb : Reads w w.heap.size (some ad) n (u8s l)) (hnc : n ≤ c) (hm40 : n ≤ 1099511627776) (h : 8 ≤ n) (hV : num (l.take 4) = X) (hX : X ≤ 1048576) (hn : 8 + X ≤ n) (h8 : c ≠ 8)
    (hq : decide (headOf ((l.drop 8).take X) = l.take 8) = b) :
    Calls Tryz.prog 120 #[.slice (some ad) n c] w fun e w' => ∃ A' c', e = .returned (.tuple #[.slice A' (cond b X 0 : Nat) c', .int .i64 (cond b (8 + X) 0 : Nat), .int .i64 (cond b 0 21 : Nat)]) ∧ Made w w' 5 A' (cond b X 0) c' (cond b ((l.drop 8).take X) []) := by
  have hm : min 4 n = 4 := by omega
  have hb4 := reads_take_u8 hb (k := 4) (by omega)
  have HB8 := Lib.hid (reads_take_u8 hb (k := 8) (by omega))
  have HBB : Hid (Reads w w.heap.size (some ({ block := ad.block, off := ad.off + 8 } : Addr)) X (u8s ((l.drop 8).take X))) := by
    have h1 := reads_take_u8 (reads_cut_u8 hb (k := 8) (c := c) h hnc) (k := X) (by omega)
    rw [if_neg h8] at h1
    exact Lib.hid h1
  have HL := Lib.hid (sreads_len hb)
  have HR := Lib.hid (rdNumber_four (l := l) (by have := HL.out; omega))
  rw [hV, if_neg (by omega)] at HR
  have HT := Lib.hid hT
  have HQ := Lib.hid hq
  clear hV hT hq
  go_enter Tryz.func120, Tryz.ntmps120
  go_wp2_with fail
  refine (new_any _ 4 c _ w hb4 (by omega)).mono ?_
  rintro e w1 ⟨r, rfl, hr, hR, hw1⟩
  have HW1 := Lib.hid hw1
  clear hw1 hb hb4
  go_wp2_with fail
  refine (number_all r _ w1 hR).mono ?_
  rw [HR.out]
  rintro e w2 ⟨rfl, _, hg⟩
  have HW2 := Lib.hid (HW1.out.grown hg HW1.out.size (by intro k hk; injection hk with hk; omega))
  have z2 := HW2.out.size
  clear hg HR HW1
  go_wp2_with fail
  refine (clone_any _ X (c - 8) _ w2 ((HBB.out.below HW2.out).more z2) (by omega)).mono ?_
  rintro e w3 ⟨A3, c3, rfl, hM3⟩
  have HW3 := Lib.hid (HW2.out.trans (hM3.below.mono z2))
  have z3 := HW3.out.size
  have HO3 : Hid (w3.ownsRow w.heap.size 5 1 (.slice A3 X c3) X (u8s ((l.drop 8).take X))) := Lib.hid (own_mono hM3.own z2)
  have HB83 := Lib.hid (HB8.out.below HW3.out)
  have CH := Lib.hid (head_any A3 X c3 _ w3.drew (HT.out.below HW3.out.drew HT.out.lt) hM3.reads.drew (by omega))
  clear hM3 HBB HB8 HW2 HL
  go_wp2_with fail
  go_region_with (first
    | (go_at_call 94
       refine (unhide CH).mono ?_
       rintro e w4 ⟨A4, c4, rfl, hM4⟩
       have HW4 : Hid (Below w.heap.size w w4) := Lib.hid (HW3.out.drew.trans (hM4.below.mono z3))
       have HO4 : Hid (w4.ownsRow w.heap.size 5 1 (.slice A3 X c3) X (u8s ((l.drop 8).take X))) := Lib.hid (HO3.out.drew.below_ hM4.below)
       have CE := Lib.hid (equal_is b A4 (some ad) 8 8 c4 c _ _ _ _ w4 hM4.reads (HB83.out.drew.below (hM4.below.mono z3)) (by omega) (by omega) HQ.out)
       clear hM4)
    | (go_at_call 133
       refine (unhide CE).mono ?_
       rintro e w5 ⟨rfl, q, rfl⟩))
  all_goals
    cases b
    · go_wp2
      go_ret3
      exact ⟨none, 0, rfl, made_none (HW4.out.drewN q)⟩
    · go_wp2
      go_ret3
      exact ⟨A3, c3, rfl, HO4.out, HW4.out.drewN q⟩
set_option maxHeartbeats 1600000 in
theorem first_at0 (b : Bool) (ad : Addr) (n c X : Nat) (l : List UInt8) (w : World) (hT : Tab w) (hb : Reads w w.heap.size (some ad) n (u8s l)) (hnc : n ≤ c) (hm40 : n ≤ 1099511627776) (h : 8 ≤ n) (hV : num (l.take 4) = X) (hX : X ≤ 1048576) (hn : 8 + X ≤ n) (h8 : c = 8)
    (hq : decide (headOf ((l.drop 8).take X) = l.take 8) = b) :
    Calls Tryz.prog 120 #[.slice (some ad) n c] w fun e w' => ∃ A' c', e = .returned (.tuple #[.slice A' (cond b X 0 : Nat) c', .int .i64 (cond b (8 + X) 0 : Nat), .int .i64 (cond b 0 21 : Nat)]) ∧ Made w w' 5 A' (cond b X 0) c' (cond b ((l.drop 8).take X) []) := by
  obtain rfl : n = 8 := by omega
  obtain rfl : X = 0 := by omega
  subst h8
  have hm : min 4 8 = 4 := by omega
  have hb4 := reads_take_u8 hb (k := 4) (by omega)
  have HB8 := Lib.hid (reads_take_u8 hb (k := 8) (by omega))
  have HBB : Hid (Reads w w.heap.size (some ad) 0 (u8s ((l.drop 8).take 0))) := Lib.hid ⟨by simp, fun h => absurd h (by omega)⟩
  have HL := Lib.hid (sreads_len hb)
  have HR := Lib.hid (rdNumber_four (l := l) (by have := HL.out; omega))
  rw [hV, if_neg (by omega)] at HR
  have HT := Lib.hid hT
  have HQ := Lib.hid hq
  clear hV hT hq
  go_enter Tryz.func120, Tryz.ntmps120
  go_wp2_with fail
  refine (new_any _ 4 8 _ w hb4 (by omega)).mono ?_
  rintro e w1 ⟨r, rfl, hr, hR, hw1⟩
  have HW1 := Lib.hid hw1
  clear hw1 hb hb4
  go_wp2_with fail
  refine (number_all r _ w1 hR).mono ?_
  rw [HR.out]
  rintro e w2 ⟨rfl, _, hg⟩
  have HW2 := Lib.hid (HW1.out.grown hg HW1.out.size (by intro k hk; injection hk with hk; omega))
  have z2 := HW2.out.size
  clear hg HR HW1
  go_wp2_with fail
  refine (clone_any _ 0 0 _ w2 ((HBB.out.below HW2.out).more z2) (by omega)).mono ?_
  rintro e w3 ⟨A3, c3, rfl, hM3⟩
  have HW3 := Lib.hid (HW2.out.trans (hM3.below.mono z2))
  have z3 := HW3.out.size
  have HO3 : Hid (w3.ownsRow w.heap.size 5 1 (.slice A3 0 c3) 0 (u8s ((l.drop 8).take 0))) := Lib.hid (own_mono hM3.own z2)
  have HB83 := Lib.hid (HB8.out.below HW3.out)
  have CH := Lib.hid (head_any A3 0 c3 _ w3.drew (HT.out.below HW3.out.drew HT.out.lt) hM3.reads.drew (by omega))
  clear hM3 HBB HB8 HW2 HL
  go_wp2_with fail
  go_region_with (first
    | (go_at_call 94
       refine (unhide CH).mono ?_
       rintro e w4 ⟨A4, c4, rfl, hM4⟩
       have HW4 : Hid (Below w.heap.size w w4) := Lib.hid (HW3.out.drew.trans (hM4.below.mono z3))
       have HO4 : Hid (w4.ownsRow w.heap.size 5 1 (.slice A3 0 c3) 0 (u8s ((l.drop 8).take 0))) := Lib.hid (HO3.out.drew.below_ hM4.below)
       have CE := Lib.hid (equal_is b A4 (some ad) 8 8 c4 8 _ _ _ _ w4 hM4.reads (HB83.out.drew.below (hM4.below.mono z3)) (by omega) (by omega) HQ.out)
       clear hM4)
    | (go_at_call 133
       refine (unhide CE).mono ?_
       rintro e w5 ⟨rfl, q, rfl⟩))
  all_goals
    cases b
    · go_wp2
      go_ret3
      exact ⟨none, 0, rfl, made_none (HW4.out.drewN q)⟩
    · go_wp2
      go_ret3
      exact ⟨A3, c3, rfl, HO4.out, HW4.out.drewN q⟩
end Go.Proofs.YtkdmfjpfanmgmaaGreatDoor
