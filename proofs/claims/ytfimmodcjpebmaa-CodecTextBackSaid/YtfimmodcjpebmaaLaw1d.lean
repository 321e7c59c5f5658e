/- The walks of the statements of layer 1 on texts. -/
import Derived.Test.YtfimmodcjpebmaaLaw1c
namespace Go.Proofs.Ytfimmodcjpebmaa
open Go.RowKit Le

theorem size_toList (s : ByteArray) : s.data.toList.length = s.size := by rw [Array.length_toList]; rfl
theorem num_size (s : ByteArray) (h : s.size ≤ 65536) (L : List UInt8) : num ((low s.size 4 ++ s.data.toList ++ L).take 4) = s.size := by
  rw [List.append_assoc]
  exact num_nat4 s.size (by omega) _
theorem text_size_of (s : ByteArray) (L : List UInt8) : text (((low s.size 4 ++ s.data.toList ++ L).drop 4).take s.size) = s := by
  rw [List.append_assoc, List.drop_left' (by simp), List.take_left' (size_toList s)]
  exact text_of s
theorem drop_size (s : ByteArray) (L : List UInt8) : (low s.size 4 ++ s.data.toList ++ L).drop (4 + s.size) = L :=
  List.drop_left' (by rw [List.length_append, low_length, size_toList])

set_option maxHeartbeats 800000 in
theorem codecTexts_no (A : Option Addr) (n c : Nat) (l : List UInt8) (s : ByteArray) (w : World) (hb : Reads w w.heap.size A n (u8s l)) (hn : n ≤ 262144) (hs : s.size ≤ 262144) (hN : 65536 < s.size) :
    Calls Try.prog 5 #[.slice A n c, .string s] w fun e w' => e = .returned (.bool true) ∧ Below w.heap.size w w' := by
  go_enter Try.func5, Try.ntmps5
  go_wp2_with fail
  refine (lend_any A n c l w hb (by omega)).mono ?_
  rintro e w1 ⟨rfl, hX, hw1⟩
  have HX := Lib.hid hX
  have hb1 := hb.below hw1
  clear hX hb
  go_wp2_with fail
  refine (putText_no _ _ _ s w1 hN).mono ?_
  rintro e w' ⟨rfl, rfl⟩
  go_wp2_with fail
  refine (back_any A n c w.heap.size w.heap.size l w1 hb1 (Nat.le_refl _) HX.out (by omega)).mono ?_
  rintro e w2 ⟨rfl, hg2⟩
  have HW2 := Lib.hid (hw1.grown hg2 hw1.size (by intro k hk; injection hk with hk; omega))
  clear hg2 hw1 hb1 HX
  go_wp2_with fail
  refine (refText_no s w2 hN).mono ?_
  rintro e w' ⟨rfl, rfl⟩
  go_wp2_with fail
  refine (writes_any w2).mono ?_
  rintro e w3 ⟨rfl, hw3⟩
  have HW3 := Lib.hid (HW2.out.trans (hw3.mono HW2.out.size))
  clear hw3 HW2
  go_wp2
  go_ret
  exact ⟨rfl, HW3.out⟩

set_option maxHeartbeats 1600000 in
theorem codecTexts_ok (A : Option Addr) (n c : Nat) (l : List UInt8) (s : ByteArray) (w : World) (hb : Reads w w.heap.size A n (u8s l)) (hn : n ≤ 262144) (hV : s.size ≤ 65536) :
    Calls Try.prog 5 #[.slice A n c, .string s] w fun e w' => e = .returned (.bool true) ∧ Below w.heap.size w w' := by
  have HL : Hid (l.length = n) := by have := hb.len; rw [u8s_length] at this; exact Lib.hid this
  have hs2 : s.size ≤ 262144 := by omega
  go_enter Try.func5, Try.ntmps5
  go_wp2_with fail
  refine (lend_any A n c l w hb (by omega)).mono ?_
  rintro e w1 ⟨rfl, hX, hw1⟩
  have HX := Lib.hid hX
  have z1 := hX.lt
  have r1 : Reads w1 w1.heap.size (some ⟨w.heap.size, 0, none⟩) n (u8s l) := by
    have h := hX.reads (n := n) (by have := HL.out; simp; omega)
    rwa [u8s_append, List.take_left' (by have := HL.out; simpa using this)] at h
  have HB1 := Lib.hid (hb.below hw1)
  clear hX hb
  go_wp2_with fail
  refine (putText_ok _ n (n + 2) l s w1 r1 (by omega) hV).mono ?_
  rintro e w2 ⟨A2, c2, rfl, hM2⟩
  have z2 := hM2.below.size
  have HX2 := Lib.hid (HX.out.below hM2.below z1)
  have HB2 := Lib.hid (HB1.out.below (hM2.below.mono (by omega)))
  have HW2 := Lib.hid (hw1.trans (hM2.below.mono (by omega)))
  have HM2 := Lib.hid hM2.own
  clear hM2 r1 HX HB1 hw1
  go_wp2_with fail
  refine (back_any A n c w.heap.size w.heap.size l w2 HB2.out (Nat.le_refl _) HX2.out (by omega)).mono ?_
  rintro e w3 ⟨rfl, hg3⟩
  have HW3 := Lib.hid (HW2.out.grown hg3 HW2.out.size (by intro k hk; injection hk with hk; omega))
  have HB3 := Lib.hid (HB2.out.grown hg3 HW2.out.size (by intro k hk; injection hk with hk; omega))
  have HM3 := Lib.hid (HM2.out.kept hg3 (by
    rcases hA : (Value.slice A2 (n + 4 + s.size) c2).ownBlock with _ | k
    · exact .inl rfl
    · refine .inr fun h => ?_
      injection h with h
      have := (HM2.out.lt k hA).1
      omega))
  clear hg3 HW2 HB2 HM2 HX2
  go_wp2_with fail
  refine (refText_ok s w3 hV).mono ?_
  rintro e w4 ⟨A4, c4, rfl, hM⟩
  have HW4 := Lib.hid (HW3.out.trans (hM.below.mono HW3.out.size))
  have HB4 := Lib.hid (HB3.out.below (hM.below.mono HW3.out.size))
  have HO4 := Lib.hid ((Reads.of_own HM3.out).below hM.below)
  have HR4 := Lib.hid hM.reads
  have z3 := hM.below.size
  clear hM HW3 HB3 HM3
  go_wp2_with fail
  refine (writes_any w4).mono ?_
  rintro e w5 ⟨rfl, hw5⟩
  have HW5 := Lib.hid (HW4.out.trans (hw5.mono HW4.out.size))
  have k1 := conv_any _ A n c l w5 (HB4.out.below (hw5.mono HW4.out.size))
  have k2 := conv_any _ A2 (n + 4 + s.size) c2 _ w5 (HO4.out.below (hw5.mono z3))
  have k3 := conv_any _ A4 (4 + s.size) c4 _ w5 (HR4.out.below hw5)
  have hsum : (text l).size + (text (low s.size 4 ++ s.data.toList)).size ≤ 9223372036854775807 := by
    rw [text_size, text_size, HL.out, List.length_append, low_length, size_toList]; omega
  obtain ⟨T, HT⟩ : ∃ T, Hid (T = low s.size 4 ++ s.data.toList) := ⟨_, rfl⟩
  rw [List.append_assoc, ← HT.out] at k2
  rw [← HT.out] at k3 hsum
  clear hw5 HW4 HB4 HO4 HR4
  go_wp2
  go_ret
  exact ⟨by (simp [text_append]) <;> rfl, HW5.out⟩

set_option maxHeartbeats 400000 in
theorem codecTexts_big (A : Option Addr) (n c : Nat) (s : ByteArray) (w : World) (hn : 262144 < n ∨ 262144 < s.size) :
    Calls Try.prog 5 #[.slice A n c, .string s] w fun e w' => e = .returned (.bool true) ∧ Below w.heap.size w w' := by
  by_cases h1 : 262144 < n
  · go_enter Try.func5, Try.ntmps5
    go_wp2
    go_ret
    exact ⟨rfl, Below.refl _ _⟩
  · have h2 : 262144 < s.size := by omega
    clear hn
    go_enter Try.func5, Try.ntmps5
    go_wp2
    go_ret
    exact ⟨rfl, Below.refl _ _⟩

set_option maxHeartbeats 400000 in
theorem codecTextBack_big (s : ByteArray) (A : Option Addr) (n c : Nat) (w : World) (hn : 262144 < n ∨ 262144 < s.size) :
    Calls Try.prog 10 #[.string s, .slice A n c] w fun e w' => e = .returned (.bool true) ∧ Below w.heap.size w w' := by
  by_cases h1 : 262144 < n
  · go_enter Try.func10, Try.ntmps10
    go_wp2
    go_ret
    exact ⟨rfl, Below.refl _ _⟩
  · have h2 : 262144 < s.size := by omega
    clear hn
    go_enter Try.func10, Try.ntmps10
    go_wp2
    go_ret
    exact ⟨rfl, Below.refl _ _⟩

set_option maxHeartbeats 400000 in
theorem codecTextBack_no (s : ByteArray) (A : Option Addr) (n c : Nat) (w : World) (hn : n ≤ 262144) (hs : s.size ≤ 262144) (hN : 65536 < s.size) :
    Calls Try.prog 10 #[.string s, .slice A n c] w fun e w' => e = .returned (.bool true) ∧ Below w.heap.size w w' := by
  go_enter Try.func10, Try.ntmps10
  go_wp2_with fail
  refine (putText_no none 0 0 s w hN).mono ?_
  rintro e w' ⟨rfl, rfl⟩
  go_wp2_with fail
  refine (writes_any w).mono ?_
  rintro e w1 ⟨rfl, hw1⟩
  go_wp2_with fail
  refine (reads_any w1).mono ?_
  rintro e w2 ⟨rfl, hw2⟩
  go_wp2
  go_ret
  have hd : decide (65536 < (s.size : Int)) = true := by simp; omega
  exact ⟨by show Ending.returned (Value.bool (decide (65536 < (s.size : Int)))) = _; rw [hd], hw1.trans (hw2.mono hw1.size)⟩

theorem textBack_short (s : ByteArray) {w w1 : World} {A1 : Option Addr} {c1 : Nat} {t : TypeId} (h : Made w w1 t A1 (4 + s.size) c1 (low s.size 4 ++ s.data.toList)) :
    Reads w1 w1.heap.size A1 (3 + s.size) (u8s ((low s.size 4 ++ s.data.toList).take (3 + s.size))) := by
  have := h.reads.take (k := 3 + s.size) (by omega)
  rwa [show (u8s (low s.size 4 ++ s.data.toList)).take (3 + s.size) = u8s ((low s.size 4 ++ s.data.toList).take (3 + s.size)) from by simp [u8s]] at this
theorem _root_.Go.World.ownsRow.below_ {w w' : World} {base : Nat} {e : TypeId} {size n : Nat} {v : Value} {xs : List Value} (h : w.ownsRow base e size v n xs) (hb : Below w.heap.size w w') : w'.ownsRow base e size v n xs := by
  refine ⟨h.1, ?_⟩
  rcases h.2 with hn | ⟨g, cap, cur, rfl, hbg, hg, rest⟩
  · exact .inl hn
  · exact .inr ⟨g, cap, cur, rfl, hbg, by rw [hb.block g (Array.getElem?_eq_some_iff.1 hg).1]; exact hg, rest⟩
theorem Rd.grown_ {w w' : World} {r r' : Nat} {l : List UInt8} (h : Rd w r l) (hg : w.grownBy w' (some r')) (hr : r < r') : Rd w' r l := by
  obtain ⟨A, n, c, hB, hrd, h1, h2⟩ := h
  refine ⟨A, n, c, hB.grown hg (by intro h; injection h with h; omega), hrd.grown hg (Nat.le_of_lt hB.lt) (by intro k hk; injection hk with hk; omega), h1, h2⟩
theorem Rd.lt {w : World} {r : Nat} {l : List UInt8} (h : Rd w r l) : r < w.heap.size := by
  obtain ⟨A, n, c, hB, _⟩ := h
  exact hB.lt

set_option maxHeartbeats 1600000 in
theorem codecTextBack_ok (s : ByteArray) (A : Option Addr) (n c : Nat) (L : List UInt8) (w : World) (hb : Reads w w.heap.size A n (u8s L)) (hn : n ≤ 262144) (hV : s.size ≤ 65536) :
    Calls Try.prog 10 #[.string s, .slice A n c] w fun e w' => e = .returned (.bool true) ∧ Below w.heap.size w w' := by
  obtain ⟨i0, hi0, hz0, hz1, hz2⟩ := info_parts info_u8
  have HL : Hid (L.length = n) := by have := hb.len; rw [u8s_length] at this; exact Lib.hid this
  have hs2 : s.size ≤ 262144 := by omega
  go_enter Try.func10, Try.ntmps10
  go_wp2_with fail
  refine (putText_ok none 0 0 [] s w Reads.none_ (by omega) hV).mono ?_
  rintro e w1 ⟨A1, c1, rfl, hM⟩
  rw [List.nil_append] at hM
  rw [show 0 + 4 + s.size = 4 + s.size by omega] at hM
  rw [show 0 + 4 + s.size = 4 + s.size by omega]
  have hc1 : 4 + s.size ≤ c1 := by
    rcases hM.own.2 with ⟨h, h2⟩ | ⟨g, cap, cur, h, _, _, hnc, _⟩
    · omega
    · injection h with _ _ h; omega
  have HM := Lib.hid hM
  have HB1 := Lib.hid (hb.below hM.below)
  have z1 := hM.below.size
  clear hM hb
  go_wp2_with fail
  refine (new_far A1 (3 + s.size) c1 _ w1 (textBack_short s HM.out) (by omega)).mono ?_
  rintro e w2 ⟨r1, rfl, hr1, hR1, hw2⟩
  have HR1 := Lib.hid hR1
  have HO2 : Hid (w2.ownsRow w.heap.size 5 1 (.slice A1 (4 + s.size) c1) (4 + s.size) (u8s (low s.size 4 ++ s.data.toList))) := HM.out.own.below_ hw2
  have HW2 := Lib.hid (HM.out.below.trans (hw2.mono z1))
  have hA1 : ∀ k, (Value.slice A1 (4 + s.size) c1).ownBlock = some k → k < w1.heap.size := fun k hk => (HM.out.own.lt k hk).2
  have HB2 := Lib.hid (HB1.out.below (hw2.mono z1))
  have z2 := HW2.out.size
  have zw := hw2.size
  clear hR1 hw2 HM HB1
  go_wp2_with (at_builtin; refine wpList_app rfl _ _ _ rfl w.heap.size 5 i0 _ 1 Try.underlying22 hi0 hz0 hz1 hz2 rfl (.slice A1 (4 + s.size) c1) _ _ rfl HO2.out _ _ n c _ rfl HB2.out (u8s_one L) (by unfold maxLen; omega) (by omega) (by omega) w HW2.out ?_; intro A3 c3 w3 HO3 hb3 HG3)
  have hR3 : Rd w3 r1 ((low s.size 4 ++ s.data.toList).take (3 + s.size)) := HR1.out w3 fun k hk hk2 => HG3.out.block k hk2 fun h => by
    have := hA1 k h.symm
    omega
  have hO3 : w3.ownsRow w.heap.size 5 1 (.slice A3 (4 + s.size + n) c3) (4 + s.size + n) (u8s (low s.size 4 ++ s.data.toList ++ L)) := by rw [u8s_append _ L]; exact HO3.out
  have HR3 := Lib.hid hR3
  have z3 := HG3.out.size
  have hr3 := Reads.of_own hO3
  clear HG3 HO3 HO2 HR1 HW2 HB2 hR3 hO3 hA1
  refine (new_any A3 (4 + s.size + n) c3 _ w3 hr3 (by omega)).mono ?_
  rintro e w4 ⟨r, rfl, hr, hR, hw4⟩
  have HW4 := Lib.hid (hb3.trans (hw4.mono (by omega)))
  have HR := Lib.hid hR
  have HR4 : Hid (Rd w4 r1 _) := HR3.out.below hw4
  have hrr : r1 < r := by have := HR3.out.lt; omega
  clear hw4 hR hr3 hb3 HR3
  go_wp2_with fail
  have HT := text_ok r _ w4 HR.out (by simp) (by rw [num_size s hV]; exact hV) (by rw [num_size s hV]; simp)
  rw [num_size s hV, text_size_of, drop_size] at HT
  refine HT.mono ?_
  rintro e w5 ⟨rfl, hR5, hg5⟩
  have HR5 := Lib.hid hR5
  have HW5 := Lib.hid (HW4.out.grown hg5 HW4.out.size (by intro k hk; injection hk with hk; omega))
  have HR6 : Hid (Rd w5 r1 _) := HR4.out.grown_ hg5 hrr
  clear hR5 hg5 HR HW4 HR4 HT
  go_wp2_with fail
  have HE : Calls Try.prog 29 #[.pointer (some ⟨r1, 0, none⟩)] w5 fun e w' => e = .returned (.tuple #[.string (text []), .int .i64 10]) ∧ w5 = w' := by
    by_cases h0 : s.size = 0
    · exact text_end r1 _ w5 HR6.out (by simp; omega)
    · have e1 : ((low s.size 4 ++ s.data.toList).take (3 + s.size)).take 4 = low s.size 4 := by
        rw [List.take_take, Nat.min_eq_left (by omega), List.take_left' (by simp)]
      have e2 : num (low s.size 4) = s.size := by have := num_nat4 s.size (by omega) []; rwa [List.append_nil, List.take_of_length_le (by simp)] at this
      refine text_less r1 _ w5 HR6.out (by simp; omega) (by rw [e1, e2]; exact hV) ?_
      rw [e1, e2]
      simp
  refine HE.mono ?_
  rintro e w6 ⟨rfl, rfl⟩
  clear HE HR6
  go_wp2_with fail
  refine (writes_any w5).mono ?_
  rintro e w6 ⟨rfl, hw6⟩
  have HW6 := Lib.hid (HW5.out.trans (hw6.mono HW5.out.size))
  have HR7 : Hid (Rd w6 r L) := HR5.out.below hw6
  clear hw6 HR5 HW5
  go_wp2_with fail
  refine (reads_any w6).mono ?_
  rintro e w7 ⟨rfl, hw7⟩
  have HW7 := Lib.hid (HW6.out.trans (hw7.mono HW6.out.size))
  have HR8 : Hid (Rd w7 r L) := HR7.out.below hw7
  clear hw7 HR7 HW6
  go_wp2_with fail
  refine (left_any r L w7 HR8.out).mono ?_
  rintro e w8 ⟨rfl, rfl⟩
  rw [HL.out]
  go_wp2
  go_ret
  exact ⟨rfl, HW7.out⟩
end Go.Proofs.Ytfimmodcjpebmaa
