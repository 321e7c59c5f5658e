/- The walks of package seal, on: what is framed is found again; a byte of another value. -/
import Derived.Test.YtgfnbfebcejocaaDoorSeal4
import Derived.Laws.OwnMore
namespace Go.Proofs.YtgfnbfebcejocaaDoor
open Go.RowKit Le

theorem frameOf_take4 (l L : List UInt8) : (frameOf l ++ L).take 4 = low l.length 4 := by
  unfold frameOf headOf
  rw [List.append_assoc, List.append_assoc, List.take_left' (by simp)]
theorem frameOf_take8 (l L : List UInt8) : (frameOf l ++ L).take 8 = headOf l := by
  unfold frameOf
  rw [List.append_assoc, List.take_left' (by simp)]
theorem frameOf_drop8 (l L : List UInt8) : (frameOf l ++ L).drop 8 = l ++ L := by
  unfold frameOf
  rw [List.append_assoc, List.drop_left' (by simp)]
theorem num_frame (l L : List UInt8) (h : l.length ≤ 1048576) : num ((frameOf l ++ L).take 4) = l.length := by
  rw [frameOf_take4, num_low, Nat.mod_eq_of_lt (by omega)]
theorem first_frame (l L : List UInt8) (h : l.length ≤ 1048576) : firstOf (frameOf l ++ L) = (l, 8 + l.length, 0) := by
  have hn := num_frame l L h
  have hb : bodyOf (frameOf l ++ L) = l := by
    unfold bodyOf
    rw [hn, frameOf_drop8, List.take_left' rfl]
  unfold firstOf
  rw [hn, hb, frameOf_take8, if_neg (by simp; omega), if_neg (by omega), if_neg (by simp), if_pos rfl]

theorem own_cap {w : World} {base : Nat} {e : TypeId} {size n m c : Nat} {A : Option Addr} {xs : List Value} (h : w.ownsRow base e size (.slice A n c) m xs) : n ≤ c := by
  rcases h.2 with ⟨h, _⟩ | ⟨g, cap, cur, h, _, _, hc, _⟩
  · injection h with h1 h2 h3; omega
  · injection h with h1 h2 h3; omega

set_option maxHeartbeats 1600000 in
theorem sealBack_small (A1 A2 : Option Addr) (n1 c1 n2 c2 : Nat) (l L : List UInt8) (w : World) (hT : Tab w) (hb : Reads w w.heap.size A1 n1 (u8s l)) (hb2 : Reads w w.heap.size A2 n2 (u8s L)) (hn : n1 ≤ 1048576) (hn2 : n2 ≤ 2097152) :
    Calls Tryd.prog 6 #[.slice A1 n1 c1, .slice A2 n2 c2] w fun e w' => e = .returned (.bool true) ∧ Below w.heap.size w w' := by
  obtain ⟨i0, hi0, hz0, hz1, hz2⟩ := info_parts info_u8
  have HL := Lib.hid (reads_len hb)
  have HT := Lib.hid hT
  go_enter Tryd.func6, Tryd.ntmps6
  go_wp2_with fail
  refine (frame_ok A1 n1 c1 l w hT hb hn).mono ?_
  rintro e w1 ⟨A3, c3, rfl, hM⟩
  have HO := Lib.hid hM.own
  have HW1 := Lib.hid hM.below
  have z1 := hM.below.size
  have HB1 := Lib.hid (hb.below hM.below)
  have HB2 := Lib.hid (hb2.below hM.below)
  clear hM hb hb2 hT
  go_wp2_with (first
    | (at_builtin
       refine wpList_app rfl _ _ _ rfl w.heap.size 5 i0 _ 1 Tryd.underlying22 hi0 hz0 hz1 hz2 rfl (.slice A3 (8 + n1) c3) _ _ rfl HO.out _ _ n2 c2 _ rfl HB2.out (u8s_one _) (by unfold maxLen; omega) (by omega) z1 w HW1.out ?_
       intro A4 c4 w4 HO4 hb4 HG4
       have HW4 := Lib.hid hb4
       have HB4 := Lib.hid (HB1.out.grown HG4.out z1 (own_block_ge HO.out))
       have z4 := hb4.size
       clear hb4 HG4)
    | fail)
  have hc4 : 8 + n1 + n2 ≤ c4 := own_cap HO4.out
  have HT4 := Lib.hid (HT.out.below HW4.out HT.out.lt)
  refine (first_any A4 (8 + n1 + n2) c4 (frameOf l ++ L) w4 HT4.out (by rw [u8s_append]; exact Reads.of_own HO4.out) hc4 (by omega)).mono ?_
  rw [first_frame l L (by have := HL.out; omega), HL.out]
  rintro e w5 ⟨A5, c5, rfl, hM5⟩
  have HW5 := Lib.hid (HW4.out.trans (hM5.below.mono z4))
  have HB5 := Lib.hid (HB4.out.below (hM5.below.mono z4))
  have HR5 := Lib.hid hM5.reads
  have HT5 := Lib.hid (HT.out.below HW5.out HT.out.lt)
  have z5 := HW5.out.size
  clear hM5 HB4 HW4 HT4 HO4 HO HB1 HB2 HW1
  go_wp2_with fail
  refine (frames_any w5 HT5.out).mono ?_
  rintro e w6 ⟨rfl, hw6⟩
  have HW6 := Lib.hid (HW5.out.trans (hw6.mono z5))
  have HB6 := Lib.hid (HB5.out.below (hw6.mono z5))
  have HR6 := Lib.hid (HR5.out.below hw6)
  have HT6 := Lib.hid (HT.out.below HW6.out HT.out.lt)
  have z6 := HW6.out.size
  have z56 := hw6.size
  clear hw6 HW5 HB5 HR5 HT5
  go_wp2_with fail
  refine (finds_any w6 HT6.out).mono ?_
  rintro e w7 ⟨rfl, hw7⟩
  have HW7 := Lib.hid (HW6.out.trans (hw7.mono z6))
  have k1 := conv_at _ A1 n1 c1 _ w7 (HB6.out.below (hw7.mono z6))
  have k2 := conv_at _ A5 _ c5 _ w7 (HR6.out.below (hw7.mono z56))
  clear hw7 HW6 HB6 HR6 HT6
  go_wp2
  go_ret
  exact ⟨by (simp) <;> rfl, HW7.out⟩

set_option maxHeartbeats 800000 in
theorem sealBack_no (A1 A2 : Option Addr) (n1 c1 n2 c2 : Nat) (w : World) (hT : Tab w) (hn : 1048576 < n1) (hn1 : n1 ≤ 2097152) (hn2 : n2 ≤ 2097152) :
    Calls Tryd.prog 6 #[.slice A1 n1 c1, .slice A2 n2 c2] w fun e w' => e = .returned (.bool true) ∧ Below w.heap.size w w' := by
  have HT := Lib.hid hT
  clear hT
  go_enter Tryd.func6, Tryd.ntmps6
  go_wp2_with fail
  refine (frame_no A1 n1 c1 w hn).mono ?_
  rintro e w' ⟨rfl, rfl⟩
  go_wp2_with fail
  refine (frames_any w HT.out).mono ?_
  rintro e w1 ⟨rfl, hw1⟩
  have HT1 := Lib.hid (HT.out.below hw1 HT.out.lt)
  have HW1 := Lib.hid hw1
  have z1 := hw1.size
  clear hw1
  go_wp2_with fail
  refine (finds_any w1 HT1.out).mono ?_
  rintro e w2 ⟨rfl, hw2⟩
  have HW2 := Lib.hid (HW1.out.trans (hw2.mono z1))
  clear hw2
  go_wp2
  go_ret
  exact ⟨by (simp) <;> first | rfl | omega, HW2.out⟩

set_option maxHeartbeats 400000 in
theorem sealBack_big1 (A1 A2 : Option Addr) (n1 c1 n2 c2 : Nat) (w : World) (hn : 2097152 < n1) :
    Calls Tryd.prog 6 #[.slice A1 n1 c1, .slice A2 n2 c2] w fun e w' => e = .returned (.bool true) ∧ Below w.heap.size w w' := by
  go_enter Tryd.func6, Tryd.ntmps6
  go_wp2
  go_ret
  exact ⟨rfl, Below.refl _ _⟩
set_option maxHeartbeats 400000 in
theorem sealBack_big2 (A1 A2 : Option Addr) (n1 c1 n2 c2 : Nat) (w : World) (hn1 : n1 ≤ 2097152) (hn : 2097152 < n2) :
    Calls Tryd.prog 6 #[.slice A1 n1 c1, .slice A2 n2 c2] w fun e w' => e = .returned (.bool true) ∧ Below w.heap.size w w' := by
  go_enter Tryd.func6, Tryd.ntmps6
  go_wp2
  go_ret
  exact ⟨rfl, Below.refl _ _⟩

/-! ### A byte of another value. -/
theorem set_ne (l : List UInt8) (i : Nat) (h : i < l.length) (v : UInt8) (hv : v ≠ l[i]) : l.set i v ≠ l := by
  intro e
  have : (l.set i v)[i]'(by simpa using h) = l[i] := by simp only [e]
  rw [List.getElem_set_self] at this
  exact hv this

theorem sum_set (p l : List UInt8) (i : Nat) (h : i < l.length) (v : UInt8) (hv : v ≠ l[i]) : Crc.sum (p ++ l.set i v) ≠ Crc.sum (p ++ l) := by
  intro e
  have e1 : l = l.take i ++ l[i] :: l.drop (i + 1) := by simp
  have e2 : l.set i v = l.take i ++ v :: l.drop (i + 1) := by rw [List.set_eq_take_append_cons_drop, if_pos h]
  rw [e2] at e
  have e3 : Crc.sum (p ++ l) = Crc.sum ((p ++ l.take i) ++ l[i] :: l.drop (i + 1)) := by
    congr 1
    rw [List.append_assoc]
    congr 1
  rw [e3, ← List.append_assoc] at e
  exact hv (Crc.sum_one _ _ _ _ e)

theorem frameOf_at_lo (l : List UInt8) (i : Nat) (h : i < (frameOf l).length) (h8 : i < (headOf l).length) : (frameOf l)[i]'h = (headOf l)[i]'h8 := List.getElem_append_left h8
theorem frameOf_at_hi (l : List UInt8) (i : Nat) (h : i < (frameOf l).length) (h8 : 8 ≤ i) (hj : i - 8 < l.length) : (frameOf l)[i]'h = l[i - 8]'hj := by
  have e : (frameOf l)[i]'h = (headOf l ++ l)[i]'(by simpa [frameOf] using h) := rfl
  rw [e, List.getElem_append_right (by simp; omega)]
  simp
theorem first_turned (l : List UInt8) (h : l.length ≤ 1048576) (i : Nat) (hi4 : 4 ≤ i) (hi : i < (frameOf l).length) (v : UInt8) (hv : v ≠ (frameOf l)[i]) :
    firstOf ((frameOf l).set i v) = ([], 0, 21) := by
  have hn := num_frame l [] h
  have ht8 := frameOf_take8 l []
  have hd8 := frameOf_drop8 l []
  rw [List.append_nil] at hn ht8 hd8
  rw [List.append_nil] at hd8
  have hlen := frameOf_length l
  have hn' : num (((frameOf l).set i v).take 4) = l.length := by
    rw [List.take_set_of_le hi4]; exact hn
  have hbody : bodyOf ((frameOf l).set i v) = ((frameOf l).set i v).drop 8 := by
    unfold bodyOf
    rw [hn', List.take_of_length_le (by simp)]
  have hne : headOf (((frameOf l).set i v).drop 8) ≠ ((frameOf l).set i v).take 8 := by
    by_cases h8 : i < 8
    · rw [List.drop_set, if_pos h8, hd8, List.take_set, ht8]
      have hi2 : i < (headOf l).length := by simpa using h8
      refine (set_ne _ i hi2 v ?_).symm
      intro e
      apply hv
      rw [e, frameOf_at_lo l i hi hi2]
    · have hj : i - 8 < l.length := by omega
      rw [List.drop_set, if_neg h8, hd8, List.take_set_of_le (by omega), ht8]
      intro e
      have hv2 : v ≠ l[i - 8] := by
        intro e2
        apply hv
        rw [e2, frameOf_at_hi l i hi (by omega) hj]
      refine sum_set (low l.length 4) l (i - 8) hj v hv2 ?_
      unfold headOf at e
      rw [List.length_set] at e
      exact low_inj (Crc.sum_lt _) (Crc.sum_lt _) (List.append_inj e rfl).2
  unfold firstOf
  rw [hn', hbody, if_neg (by simp), if_neg (by omega), if_neg (by simp), if_neg hne]

theorem u8s_set (l : List UInt8) (i : Nat) (v : UInt8) : (u8s l).set i (.int .u8 (v.toNat : Int)) = u8s (l.set i v) := by
  unfold u8s
  rw [List.map_set]
theorem xor_ne {a b : UInt8} (h : b ≠ 0) : a ^^^ b ≠ a := by
  intro e
  apply h
  have : a ^^^ (a ^^^ b) = a ^^^ a := by rw [e]
  rw [← UInt8.xor_assoc] at this
  simpa using this

set_option maxHeartbeats 1600000 in
theorem sealByte_small (A : Option Addr) (n c at_ : Nat) (u : UInt8) (l : List UInt8) (w : World) (hT : Tab w) (hb : Reads w w.heap.size A n (u8s l)) (hn : n ≤ 4000) (hu : u ≠ 0) (h4 : 4 ≤ at_) (hat : at_ < 8 + n) :
    Calls Tryd.prog 7 #[.slice A n c, .int .i64 at_, .int .u8 (u.toNat : Int)] w fun e w' => e = .returned (.bool true) ∧ Below w.heap.size w w' := by
  have HL := Lib.hid (reads_len hb)
  have HT := Lib.hid hT
  have hU : u.toNat < 256 := u.toNat_lt
  have hU0 : 0 < u.toNat := by
    rcases Nat.eq_zero_or_pos u.toNat with h0 | h0
    · exact absurd (UInt8.toNat_inj.1 h0) hu
    · exact h0
  have HU := Lib.hid hu
  obtain ⟨U, HUU⟩ : ∃ U, Hid (u.toNat = U) := ⟨_, Lib.hid rfl⟩
  rw [HUU.out] at hU hU0 ⊢
  clear hu
  have u0 : ¬ (U : Int) = 0 := by omega
  have u1 : ((U : Int) == 0) = false := by simpa using u0
  go_enter Tryd.func7, Tryd.ntmps7
  go_wp2_with fail
  refine (frame_ok A n c l w hT hb (by omega)).mono ?_
  rintro e w1 ⟨A3, c3, rfl, hM⟩
  have hc3 := own_cap hM.own
  obtain ⟨g, cap, hA, hgb, hgl⟩ := hM.own.form (by omega)
  have hA3 : A3 = some ⟨g, 0, none⟩ := by injection hA
  subst hA3
  have HO := Lib.hid hM.own
  have HW1 := Lib.hid hM.below
  have z1 := hM.below.size
  have hlt : at_ < (frameOf l).length := by have := HL.out; simp; omega
  obtain ⟨X, HX⟩ : ∃ X, Hid (((frameOf l)[at_]'hlt).toNat = X) := ⟨_, Lib.hid rfl⟩
  have hX : X < 256 := by rw [← HX.out]; exact UInt8.toNat_lt _
  have hcell : w1.cell? ⟨g, at_, none⟩ = some (.int .u8 X) := by
    have h1 := hM.own.cellAt at_ (by omega)
    rw [u8s_at _ at_ hlt, HX.out] at h1
    exact h1
  have hfr : w1.frozen? ⟨g, at_, none⟩ = false := hM.own.frozenAt at_
  have hxor : bits .xor .u8 (X : Int) (U : Int) = ((X ^^^ U : Nat) : Int) := u8_xor_nat X U hX hU
  have hO2 := hM.own.stored at_ (.int .u8 ((((frameOf l)[at_]'hlt) ^^^ u).toNat : Int))
  have hv : ((((frameOf l)[at_]'hlt) ^^^ u).toNat : Int) = ((X ^^^ U : Nat) : Int) := by
    rw [UInt8.toNat_xor, HX.out, HUU.out]
  have hF := first_turned l (by have := HL.out; omega) at_ h4 hlt _ (xor_ne HU.out)
  obtain ⟨V, HV⟩ : ∃ V, Hid ((((frameOf l)[at_]'hlt) ^^^ u) = V) := ⟨_, Lib.hid rfl⟩
  rw [u8s_set, hv, HV.out] at hO2
  rw [HV.out] at hF
  have HF := Lib.hid hF
  have HO2 := Lib.hid hO2
  obtain ⟨Z, HZ⟩ : ∃ Z, Hid (X ^^^ U = Z) := ⟨_, Lib.hid rfl⟩
  rw [HZ.out] at hxor HO2
  clear hM hb hT hA hO2 hF hv HV HX HUU HU hlt
  go_wp2_with fail
  have HWs : Hid (Below w.heap.size w (w1.setCell ⟨g, at_, none⟩ (.int .u8 Z))) := Lib.hid (HW1.out.setCell hgb _)
  refine (first_any _ (8 + n) c3 _ _ (HT.out.below HWs.out HT.out.lt) (Reads.of_own HO2.out.1) hc3 (by omega)).mono ?_
  rw [HF.out]
  rintro e w2 ⟨A2, c2, rfl, hM2⟩
  have HW2 := Lib.hid (HWs.out.trans (hM2.below.mono HWs.out.size))
  have HT2 := Lib.hid (HT.out.below HW2.out HT.out.lt)
  have z2 := HW2.out.size
  clear hM2 HO HO2 HWs HF hcell hfr hxor
  go_wp2_with fail
  refine (frames_any w2 HT2.out).mono ?_
  rintro e w3 ⟨rfl, hw3⟩
  have HW3 := Lib.hid (HW2.out.trans (hw3.mono z2))
  have HT3 := Lib.hid (HT.out.below HW3.out HT.out.lt)
  have z3 := HW3.out.size
  clear hw3
  go_wp2_with fail
  refine (finds_any w3 HT3.out).mono ?_
  rintro e w4 ⟨rfl, hw4⟩
  have HW4 := Lib.hid (HW3.out.trans (hw4.mono z3))
  clear hw4
  go_wp2
  go_ret
  exact ⟨by (simp) <;> rfl, HW4.out⟩

set_option maxHeartbeats 400000 in
theorem sealByte_out (A : Option Addr) (n c : Nat) (at_ : Int) (U : Nat) (l : List UInt8) (w : World) (hT : Tab w) (hb : Reads w w.heap.size A n (u8s l)) (hn : n ≤ 4000) (hU0 : 0 < U) (hat : at_ < 4 ∨ 8 + n ≤ at_) :
    Calls Tryd.prog 7 #[.slice A n c, .int .i64 at_, .int .u8 U] w fun e w' => e = .returned (.bool true) ∧ Below w.heap.size w w' := by
  have HT := Lib.hid hT
  have u0 : ¬ (U : Int) = 0 := by omega
  have u1 : ((U : Int) == 0) = false := by simpa using u0
  rcases hat with hat | hat
  all_goals
    go_enter Tryd.func7, Tryd.ntmps7
    go_wp2_with fail
    refine (frame_ok A n c l w hT hb (by omega)).mono ?_
    rintro e w1 ⟨A3, c3, rfl, hM⟩
    have HW1 := Lib.hid hM.below
    have z1 := hM.below.size
    have HT1 := Lib.hid (HT.out.below HW1.out HT.out.lt)
    clear hM hb hT
    go_wp2_with fail
    refine (frames_any w1 HT1.out).mono ?_
    rintro e w2 ⟨rfl, hw2⟩
    have HW2 := Lib.hid (HW1.out.trans (hw2.mono z1))
    clear hw2
    go_wp2
    go_ret
    exact ⟨rfl, HW2.out⟩

set_option maxHeartbeats 400000 in
theorem sealByte_big (A : Option Addr) (n c : Nat) (at_ : Int) (U : Int) (w : World) (hn : 4000 < n) :
    Calls Tryd.prog 7 #[.slice A n c, .int .i64 at_, .int .u8 U] w fun e w' => e = .returned (.bool true) ∧ Below w.heap.size w w' := by
  go_enter Tryd.func7, Tryd.ntmps7
  go_wp2
  go_ret
  exact ⟨rfl, Below.refl _ _⟩
set_option maxHeartbeats 400000 in
theorem sealByte_zero (A : Option Addr) (n c : Nat) (at_ : Int) (w : World) (hn : n ≤ 4000) :
    Calls Tryd.prog 7 #[.slice A n c, .int .i64 at_, .int .u8 0] w fun e w' => e = .returned (.bool true) ∧ Below w.heap.size w w' := by
  go_enter Tryd.func7, Tryd.ntmps7
  go_wp2
  go_ret
  exact ⟨rfl, Below.refl _ _⟩
end Go.Proofs.YtgfnbfebcejocaaDoor
