/- The walks of package seal, on: the reference's All and Same; SealAll. -/
import Derived.Test.YtgfnbfebcejocaaDoorSeal6
namespace Go.Proofs.YtgfnbfebcejocaaDoor
open Go.RowKit Le

set_option maxHeartbeats 1600000 in
theorem refAll_any (A : Option Addr) (n c : Nat) (l : List UInt8) (w : World) (hb : Reads w w.heap.size A n (u8s l)) (hnc : n ≤ c) (hm40 : n ≤ 2147483648) :
    Calls Tryd.prog 22 #[.slice A n c] w fun e w' => ∃ A' c', e = .returned (.tuple #[.slice A' (allOf l).1.length c', .int .i64 (allOf l).2.1, .int .i64 (allOf l).2.2]) ∧ Lists w' w.heap.size (RdB w' w.heap.size) (.slice A' (allOf l).1.length c') (allOf l).1 ∧ Below w.heap.size w w' := by
  obtain ⟨i0, hi0, hz0, hz1, hz2⟩ := info_parts info_sl
  have HL := Lib.hid (reads_len hb)
  have HB := Lib.hid hb
  clear hb
  go_enter Tryd.func22, Tryd.ntmps22
  go_wp2
  go_loopw [5, 6] (fun v i wr => ∃ (at_ : Nat) (bs : List (List UInt8)) (A' : Option Addr) (m c' : Nat), at_ ≤ n ∧ m ≤ at_ ∧ i = .int .i64 at_ ∧ v = .slice A' m c' ∧ Hid (bs.length = m) ∧ Hid (SoFar l bs at_) ∧ Hid (Below w.heap.size w wr) ∧ Hid (Lists wr w.heap.size (RdB wr w.heap.size) (.slice A' m c') bs)) (fun _ i _ => n - (intOf i).toNat)
  case atStart => exact ⟨0, [], none, 0, 0, Nat.zero_le _, Nat.le_refl _, rfl, rfl, Lib.hid rfl, Lib.hid (SoFar.start l), Lib.hid (Below.refl _ _), Lib.hid (Lists.nil _ _ _)⟩
  case round =>
    obtain ⟨at_, bs, A', m, c', hat, hma, rfl, rfl, HM, HS, HW, HLs⟩ := hrel
    by_cases hlt : at_ < n
    · have zr := HW.out.size
      obtain ⟨ad, hA, _, _⟩ := HB.out.2 (by omega)
      subst hA
      have hcut := reads_cut_u8 (HB.out.below HW.out) (k := at_) (c := c) (by omega) hnc
      have hca : ¬ c = at_ := by omega
      rw [if_neg hca] at hcut
      have C := refFirst_low w.heap.size _ (n - at_) (c - at_) (l.drop at_) wr hcut zr (by omega) (by omega)
      have HP := fun h => @firstOf_pos (l.drop at_) h
      have HS1 := fun h => HS.out.step (by have := HL.out; omega) h
      have HS2 := fun h => HS.out.stop (by have := HL.out; omega) h
      have hdl : (l.drop at_).length = n - at_ := by rw [List.length_drop, HL.out]
      rw [hdl] at HP
      obtain ⟨⟨b, K, E⟩, HF⟩ : ∃ R, Hid (firstOf (l.drop at_) = R) := ⟨_, Lib.hid rfl⟩
      rw [HF.out] at C HP HS1 HS2
      dsimp only at C HP HS1 HS2
      have HC := Lib.hid C
      have HPP := Lib.hid HP
      have HSS1 := Lib.hid HS1
      have HSS2 := Lib.hid HS2
      clear C HP HS1 HS2 hcut HF HS hdl
      by_cases hE : E = 0
      · subst hE
        obtain ⟨hK8, hKl, hKb⟩ := HPP.out (by simp)
        clear hKb
        clear HPP HSS2
        go_wp2_with fail
        refine (unhide HC).mono ?_
        rintro e w1 ⟨A1, c1, rfl, hR, hw1⟩
        obtain ⟨xs, hO, hEa⟩ := HLs.out.own
        rw [HM.out] at hO
        have z1 := hw1.size
        have HO1 := Lib.hid (hO.below_ hw1)
        have HE1 := Lib.hid (hEa.imp (fun x b (h : RdB wr w.heap.size x b) => h.below (hw1.mono zr)))
        have HW1 := Lib.hid (HW.out.trans (hw1.mono zr))
        have HB1 : Hid (RdB w1 w.heap.size (.slice A1 b.length c1) b) := Lib.hid ⟨A1, c1, rfl, hR⟩
        have zw1 := HW1.out.size
        clear hw1 hR hO hEa HLs HC
        go_wp2_with (at_builtin; refine wpList_app rfl _ _ _ rfl w.heap.size 22 i0 _ 24 Tryd.underlying35 hi0 hz0 hz1 hz2 rfl (.slice A' m c') m xs rfl (HO1.out.alloc _) _ _ 1 1 _ rfl (Reads.new1 w1 _ _) (fun u hu => by simp at hu; subst hu; rfl) (by unfold maxLen; omega) (by omega) (by simp; omega) w (HW1.out.alloc zw1 _) ?_; intro A3 c3 w3 HO3 hb3 HG3)
        have HW3 := Lib.hid hb3
        have HA1 : Hid (Below w.heap.size w1 w3) := Lib.hid (((Below.refl _ _).alloc zw1 (.cells #[.slice A1 b.length c1] 22)).grown HG3.out (by simp; omega) (own_block_ge HO1.out))
        have HE3 := Lib.hid (HE1.out.imp (fun x b (h : RdB w1 w.heap.size x b) => h.below HA1.out))
        have HB3 := Lib.hid (HB1.out.below HA1.out)
        go_roundw
        case rel => exact ⟨at_ + K, bs ++ [b], A3, m + 1, c3, by omega, by omega, rfl, rfl, Lib.hid (by simp [HM.out]), Lib.hid (HSS1.out (by simp)), HW3, Lib.hid ⟨_, by rw [List.length_append, HM.out]; exact HO3.out, HE3.out.snoc HB3.out⟩⟩
        case measure => simp [intOf]; omega
      · have HA := Lib.hid (HSS2.out (by simpa using hE))
        have t0 : ¬ (E : Int) = 0 := by omega
        have t1 : ((E : Int) == 0) = false := by simpa using t0
        have t2 : ((E : Int) != 0) = true := by simpa using t0
        clear HPP HSS1 HSS2
        go_wp2_with fail
        refine (unhide HC).mono ?_
        rintro e w1 ⟨A1, c1, rfl, hR, hw1⟩
        obtain ⟨xs, hO, hEa⟩ := HLs.out.own
        have HO1 := Lib.hid (hO.below_ hw1)
        have HE1 := Lib.hid (hEa.imp (fun x b (h : RdB wr w.heap.size x b) => h.below (hw1.mono zr)))
        have HW1 := Lib.hid (HW.out.trans (hw1.mono zr))
        clear hw1 hR hO hEa HLs HC
        go_wp2
        go_ret3
        rw [HA.out]
        exact ⟨A', c', by rw [← HM.out]; rfl, ⟨xs, by have h := HO1.out; rw [← HM.out] at h; exact h, HE1.out⟩, HW1.out⟩
    · obtain rfl : at_ = n := by omega
      have HA := Lib.hid (HS.out.end_ (by have := HL.out; omega))
      go_wp2
      go_ret3
      rw [HA.out]
      refine ⟨A', c', by rw [← HM.out]; rfl, ?_, HW.out⟩
      have h := HLs.out
      rw [← HM.out] at h
      exact h

/-! ### Same -/
theorem text_inj {a b : List UInt8} (h : text a = text b) : a = b := by
  have := congrArg ByteArray.toList h
  simpa using this
theorem take_ne' {l1 l2 : List (List UInt8)} {j : Nat} (h1 : j < l1.length) (h2 : j < l2.length) (h : (l1[j]'h1) ≠ (l2[j]'h2)) : l1 ≠ l2 := by
  rintro rfl
  exact h rfl
theorem take_snoc_eq' {l1 l2 : List (List UInt8)} {j : Nat} (h1 : j < l1.length) (h2 : j < l2.length) (h : l1.take j = l2.take j) (he : (l1[j]'h1) = (l2[j]'h2)) : l1.take (j + 1) = l2.take (j + 1) := by
  rw [List.take_succ_eq_append_getElem h1, List.take_succ_eq_append_getElem h2, h, he]

/-- A row of byte slices, as it reads. -/
def RowB (w : World) (A : Option Addr) (n : Nat) (bs : List (List UInt8)) : Prop := bs.length = n ∧ ∃ xs, Reads w w.heap.size A n xs ∧ Each (RdB w w.heap.size) xs bs
theorem RowB.below {w w' : World} {A : Option Addr} {n : Nat} {bs : List (List UInt8)} (h : RowB w A n bs) (hb : Below w.heap.size w w') : RowB w' A n bs := by
  obtain ⟨hl, xs, hr, he⟩ := h
  exact ⟨hl, xs, (hr.below hb).more hb.size, he.imp fun x b h => (h.below hb).more hb.size⟩
theorem Lists.row {w : World} {base : Nat} {A : Option Addr} {n c : Nat} {Q : Value → List UInt8 → Prop} {bs : List (List UInt8)} (h : Lists w base Q (.slice A n c) bs) (hn : bs.length = n) (hq : ∀ x b, Q x b → RdB w w.heap.size x b) : RowB w A n bs := by
  obtain ⟨xs, hO, hE⟩ := h.own
  refine ⟨hn, xs, ?_, hE.imp hq⟩
  rw [hn] at hO
  exact Reads.of_own hO

set_option maxHeartbeats 1600000 in
theorem same_any (A1 A2 : Option Addr) (n1 n2 c1 c2 : Nat) (l1 l2 : List (List UInt8)) (w : World) (h1 : RowB w A1 n1 l1) (h2 : RowB w A2 n2 l2) (hn : n1 ≤ 2147483648) (hn2 : n2 ≤ 2147483648) :
    Calls Tryd.prog 23 #[.slice A1 n1 c1, .slice A2 n2 c2] w fun e w' => e = .returned (.bool (decide (l1 = l2))) ∧ ∃ m, w' = w.drewN m := by
  have L1 := Lib.hid h1.1
  have L2 := Lib.hid h2.1
  by_cases hne : n1 = n2
  · subst hne
    go_enter Tryd.func23, Tryd.ntmps23
    go_wp2
    go_loopw [5] (fun i wr => ∃ (j m : Nat), j ≤ n1 ∧ i = .int .i64 j ∧ wr = w.drewN m ∧ Hid (l1.take j = l2.take j)) (fun i _ => n1 - (intOf i).toNat)
    case atStart => exact ⟨0, 0, Nat.zero_le _, rfl, rfl, Lib.hid rfl⟩
    case round =>
      obtain ⟨j, m, hj, rfl, rfl, HE⟩ := hrel
      by_cases hlt : j < n1
      · obtain ⟨_, xs1, hr1, he1⟩ := h1
        obtain ⟨_, xs2, hr2, he2⟩ := h2
        obtain ⟨a1, hA1, _, hc1⟩ := hr1.2 (by omega)
        obtain ⟨a2, hA2, _, hc2⟩ := hr2.2 (by omega)
        subst hA1
        subst hA2
        have j1 : j < l1.length := by have := L1.out; omega
        have j2 : j < l2.length := by have := L2.out; omega
        obtain ⟨x1, hx1, D1, d1, rfl, q1⟩ := he1.at_ j1
        obtain ⟨x2, hx2, D2, d2, rfl, q2⟩ := he2.at_ j2
        have k1 : w.cell? (a1.add j) = some (.slice D1 (l1[j]'j1).length d1) := hc1 j _ hx1
        have k2 : w.cell? (a2.add j) = some (.slice D2 (l2[j]'j2).length d2) := hc2 j _ hx2
        have g1 := fun k => conv_at _ D1 (l1[j]'j1).length d1 _ (w.drewN k) (q1.drewN k)
        have g2 := fun k => conv_at _ D2 (l2[j]'j2).length d2 _ (w.drewN k) (q2.drewN k)
        obtain ⟨X, HX⟩ : ∃ X, Hid ((l1[j]'j1) = X) := ⟨_, Lib.hid rfl⟩
        obtain ⟨Y, HY⟩ : ∃ Y, Hid ((l2[j]'j2) = Y) := ⟨_, Lib.hid rfl⟩
        rw [HX.out] at k1 g1
        rw [HY.out] at k2 g2
        have p1 : (j : Int) < (n1 : Int) := by omega
        clear hc1 hc2 hr1 hr2 he1 he2 q1 q2 hx1 hx2
        by_cases hXY : X = Y
        · subst hXY
          have HS := Lib.hid (take_snoc_eq' j1 j2 HE.out (HX.out.trans HY.out.symm))
          go_wp2
          go_quiet (fail)
          go_wp2
          go_roundw
          case rel => exact ⟨j + 1, _, by omega, by go_num, rfl, HS⟩
          case measure => simp [intOf]; omega
        · have HN := Lib.hid (take_ne' j1 j2 (fun h => hXY (by rw [← HX.out, ← HY.out, h])))
          have t1 : (X == Y) = false := by simpa using hXY
          have t0 : text X ≠ text Y := fun h => hXY (text_inj h)
          clear hXY
          go_wp2
          go_quiet (fail)
          go_wp2
          go_ret
          exact ⟨by rw [decide_eq_false HN.out]; rfl, _, World.drewN_drewN _ _ _⟩
      · obtain rfl : j = n1 := by omega
        have HQ : Hid (l1 = l2) := by
          have h := HE.out
          rw [List.take_of_length_le (by have := L1.out; omega), List.take_of_length_le (by have := L2.out; omega)] at h
          exact Lib.hid h
        go_wp2
        go_ret
        exact ⟨by rw [decide_eq_true HQ.out]; rfl, _, rfl⟩
  · have HN : Hid (l1 ≠ l2) := Lib.hid (fun h => hne (by rw [← L1.out, ← L2.out, h]))
    have t0 : ¬ (n1 : Int) = (n2 : Int) := by omega
    have t1 : ((n1 : Int) == (n2 : Int)) = false := by simpa using t0
    have t2 : ((n1 : Int) != (n2 : Int)) = true := by simpa using t0
    clear hne
    go_enter Tryd.func23, Tryd.ntmps23
    go_wp2
    go_ret
    exact ⟨by rw [decide_eq_false HN.out]; rfl, 0, rfl⟩
end Go.Proofs.YtgfnbfebcejocaaDoor
