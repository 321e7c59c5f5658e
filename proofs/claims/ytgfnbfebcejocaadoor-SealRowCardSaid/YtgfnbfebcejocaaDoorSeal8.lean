/- The walks of package seal, on: SealRow. -/
import Derived.Test.YtgfnbfebcejocaaDoorSeal7
namespace Go.Proofs.YtgfnbfebcejocaaDoor
open Go.RowKit Le

theorem RowB.take {w : World} {A : Option Addr} {n : Nat} {bs : List (List UInt8)} (h : RowB w A n bs) {k : Nat} (hk : k ≤ n) : RowB w A k (bs.take k) := by
  obtain ⟨hl, xs, hr, he⟩ := h
  refine ⟨by rw [List.length_take]; omega, xs.take k, hr.take hk, by rw [List.length_take, List.length_take, he.1], fun i x b hx hb => ?_⟩
  rw [List.getElem?_take] at hx hb
  split at hx
  · rename_i hi
    rw [if_pos hi] at hb
    exact he.2 i x b hx hb
  · cases hx
theorem flat_take_succ (ls : List (List UInt8)) (j : Nat) (h : j < ls.length) : flat (ls.take (j + 1)) = flat (ls.take j) ++ frameOf (ls[j]'h) := by
  rw [List.take_succ_eq_append_getElem h, flat_snoc]
theorem mem_take_succ {ls : List (List UInt8)} {j : Nat} (h : j < ls.length) (p : ∀ l ∈ ls.take j, l.length ≤ 1000) (q : (ls[j]'h).length ≤ 1000) : ∀ l ∈ ls.take (j + 1), l.length ≤ 1000 := by
  intro l hl
  rw [List.take_succ_eq_append_getElem h, List.mem_append] at hl
  rcases hl with hl | hl
  · exact p l hl
  · simp at hl; subst hl; exact q

set_option maxHeartbeats 400000 in
theorem sealRow_big (A : Option Addr) (n c : Nat) (cut : Int) (w : World) (hn : 50 < n) :
    Calls Tryd.prog 9 #[.slice A n c, .int .i64 cut] w fun e w' => e = .returned (.bool true) ∧ Below w.heap.size w w' := by
  set_option maxRecDepth 100000 in
  go_enter Tryd.func9, Tryd.ntmps9
  go_wp2
  go_ret
  exact ⟨rfl, Below.refl _ _⟩

set_option maxHeartbeats 3200000 in
set_option maxRecDepth 100000 in
theorem sealRow_small (A : Option Addr) (n c : Nat) (cut : Int) (ls : List (List UInt8)) (w : World) (hT : Tab w) (hb : RowB w A n ls) (hnc : n ≤ c) (hn : n ≤ 50) (hcut : -9223372036854775808 ≤ cut ∧ cut ≤ 9223372036854775807) :
    Calls Tryd.prog 9 #[.slice A n c, .int .i64 cut] w fun e w' => e = .returned (.bool true) ∧ Below w.heap.size w w' := by
  obtain ⟨i0, hi0, hz0, hz1, hz2⟩ := info_parts info_u8
  have HL := Lib.hid hb.1
  have HT := Lib.hid hT
  have HB := Lib.hid hb
  clear hT hb
  go_enter Tryd.func9, Tryd.ntmps9
  go_wp2
  go_loopw [5, 6] (fun v i wr => ∃ (j m : Nat) (A' : Option Addr) (c' : Nat), j ≤ n ∧ m ≤ j * 1008 ∧ i = .int .i64 j ∧ v = .slice A' m c' ∧ Hid (wr.ownsRow w.heap.size 5 1 (.slice A' m c') m (u8s (flat (ls.take j)))) ∧ Hid (Below w.heap.size w wr) ∧ Hid (∀ l ∈ ls.take j, l.length ≤ 1000)) (fun _ i _ => n - (intOf i).toNat)
  case atStart => exact ⟨0, 0, none, 0, Nat.zero_le _, by omega, rfl, rfl, Lib.hid ⟨rfl, .inl ⟨rfl, rfl⟩⟩, Lib.hid (Below.refl _ _), Lib.hid (by simp)⟩
  case round =>
    obtain ⟨j, m, A', c', hj, hm, rfl, rfl, HO, HW, HS⟩ := hrel
    have zr := HW.out.size
    by_cases hlt : j < n
    · obtain ⟨_, xs, hr, he⟩ := HB.out
      obtain ⟨ad, hA, hab, hc1⟩ := hr.2 (by omega)
      have hjl : j < ls.length := by have := HL.out; omega
      obtain ⟨x, hx, D, d, rfl, q⟩ := he.at_ hjl
      obtain ⟨X, HX⟩ : ∃ X, Hid ((ls[j]'hjl) = X) := ⟨_, Lib.hid rfl⟩
      rw [HX.out] at q hx
      subst hA
      have k1 : wr.cell? (ad.add j) = some (.slice D X.length d) := (HW.out.cell (p := ad.add j) (by rw [block_of_add]; exact hab)).trans (hc1 j _ hx)
      have HQ := Lib.hid ((q.below HW.out).more zr)
      have hTr := HT.out.below HW.out HT.out.lt
      have HJ := Lib.hid hjl
      have HTr := Lib.hid hTr
      obtain ⟨y, HY⟩ : ∃ y, Hid (X.length = y) := ⟨_, Lib.hid rfl⟩
      rw [HY.out] at k1 HQ
      clear hc1 hr he q hx hTr
      by_cases hbig : 1000 < y
      · go_wp2
        go_ret
        exact ⟨rfl, HW.out⟩
      · go_wp2_with fail
        refine (frame_ok D y d X wr HTr.out HQ.out (by omega)).mono ?_
        rintro e w1 ⟨A3, c3, rfl, hM⟩
        have HR1 := Lib.hid hM.reads
        have HW1 := Lib.hid (HW.out.trans (hM.below.mono zr))
        have HO1 := Lib.hid (HO.out.below_ hM.below)
        have z1 := HW1.out.size
        clear hM HO HTr HQ
        go_wp2_with (at_builtin; refine wpList_app rfl _ _ _ rfl w.heap.size 5 i0 _ 1 Tryd.underlying22 hi0 hz0 hz1 hz2 rfl (.slice A' m c') _ _ rfl HO1.out _ _ (8 + y) c3 _ rfl HR1.out (u8s_one _) (by unfold maxLen; omega) (by omega) z1 w HW1.out ?_; intro A4 c4 w4 HO4 hb4 _)
        have HW4 := Lib.hid hb4
        go_roundw
        case rel => exact ⟨j + 1, m + (8 + y), A4, c4, by omega, by omega, by go_num, rfl, Lib.hid (by rw [flat_take_succ ls j HJ.out, HX.out, u8s_append]; exact HO4.out), HW4, Lib.hid (mem_take_succ HJ.out HS.out (by rw [HX.out, HY.out]; omega))⟩
        case measure => simp [intOf]; omega
    · obtain rfl : j = n := by omega
      have HF : Hid (wr.ownsRow w.heap.size 5 1 (.slice A' m c') m (u8s (flat ls))) := by
        have h := HO.out
        rw [List.take_of_length_le (by have := HL.out; omega)] at h
        exact Lib.hid h
      have HS2 : Hid (∀ l ∈ ls, l.length ≤ 1048576) := by
        have h := HS.out
        rw [List.take_of_length_le (by have := HL.out; omega)] at h
        exact Lib.hid (fun l hl => by have := h l hl; omega)
      have hmc := own_cap HF.out
      have HFL : Hid ((flat ls).length = m) := Lib.hid (reads_len (Reads.of_own HF.out))
      have HTr := Lib.hid (HT.out.below HW.out HT.out.lt)
      clear HO HS
      go_wp2_with fail
      refine (all_any A' m c' (flat ls) wr HTr.out (Reads.of_own HF.out) hmc (by omega)).mono ?_
      rw [allOf_flat ls HS2.out]
      dsimp only
      rw [HFL.out, HL.out]
      rintro e w1 ⟨A1, c1, rfl, hL1, hw1⟩
      have HW1 := Lib.hid (HW.out.trans (hw1.mono zr))
      have HF1 := Lib.hid (HF.out.below_ hw1)
      have HG1 := Lib.hid (hL1.own_row HL.out)
      have HB1 := Lib.hid ((HB.out.below HW1.out))
      have z1 := HW1.out.size
      have HT1 := Lib.hid (HT.out.below HW1.out HT.out.lt)
      clear hL1 hw1 HF HTr
      go_wp2_with fail
      refine (same_any A1 A j j c1 c ls ls w1 HG1.out HB1.out (by omega) (by omega)).mono ?_
      rw [decide_eq_true rfl]
      rintro e w2 ⟨rfl, q, rfl⟩
      clear HG1
      by_cases hout : cut < 0 ∨ (m : Int) < cut
      · rcases hout with hout | hout
        all_goals
          go_wp2_with fail
          refine (frames_any _ (HT1.out.drewN q)).mono ?_
          rintro e w3 ⟨rfl, hw3⟩
          have HW3 := Lib.hid ((HW1.out.drewN q).trans (hw3.mono z1))
          have HT3 := Lib.hid (HT.out.below HW3.out HT.out.lt)
          have z3 := HW3.out.size
          clear hw3
          go_wp2_with fail
          refine (finds_any _ HT3.out).mono ?_
          rintro e w4 ⟨rfl, hw4⟩
          have HW4 := Lib.hid (HW3.out.trans (hw4.mono z3))
          clear hw4
          go_wp2
          go_ret
          exact ⟨rfl, HW4.out⟩
      · obtain ⟨u, rfl⟩ : ∃ u : Nat, cut = u := ⟨cut.toNat, by omega⟩
        have hu : u ≤ m := by omega
        obtain ⟨k, N, E, hA, hk, hN, hE⟩ := allOf_cut ls HS2.out u (by rw [HFL.out]; exact hu)
        have HA := Lib.hid hA
        have hkn : k ≤ j := by have := HL.out; omega
        have HR := Lib.hid (reads_take_u8 (Reads.of_own HF1.out) hu)
        have HKL : Hid ((ls.take k).length = k) := Lib.hid (by rw [List.length_take]; omega)
        clear hout hA hcut hk
        go_wp2_with fail
        refine (all_any A' u c' ((flat ls).take u) _ (HT1.out.drewN q) (HR.out.drewN q) (by omega) (by omega)).mono ?_
        rw [HA.out]
        dsimp only
        rw [HKL.out]
        rintro e w3 ⟨A3, c3, rfl, hL3, hw3⟩
        have HW3 := Lib.hid ((HW1.out.drewN q).trans (hw3.mono z1))
        have HG3 := Lib.hid (hL3.own_row HKL.out)
        have HB3 := Lib.hid (HB.out.below HW3.out)
        have HT3 := Lib.hid (HT.out.below HW3.out HT.out.lt)
        have z3 := HW3.out.size
        clear hL3 hw3 HR HF1 HB1
        go_wp2_with fail
        refine (frames_any _ HT3.out).mono ?_
        rintro e w4 ⟨rfl, hw4⟩
        have HW4 := Lib.hid (HW3.out.trans (hw4.mono z3))
        have HG4 := Lib.hid (HG3.out.below hw4)
        have HT4 := Lib.hid (HT.out.below HW4.out HT.out.lt)
        have z4 := HW4.out.size
        clear hw4 HG3
        go_wp2_with fail
        refine (finds_any _ HT4.out).mono ?_
        rintro e w5 ⟨rfl, hw5⟩
        have HW5 := Lib.hid (HW4.out.trans (hw5.mono z4))
        have HG5 := Lib.hid (HG4.out.below hw5)
        have HB5 := Lib.hid ((HB.out.below HW5.out).take hkn)
        clear hw5 HG4
        have T1 : ((N : Int) ≤ (u : Int)) := by omega
        rcases hE with ⟨rfl, hE2⟩ | ⟨rfl, hE2⟩
        · have t1 : ((N : Int) == (u : Int)) = true := by subst hE2; simp
          go_wp2_with fail
          refine (same_any A3 A k k c3 c (ls.take k) (ls.take k) w5 HG5.out HB5.out (by omega) (by omega)).mono ?_
          rw [decide_eq_true rfl]
          rintro e w6 ⟨rfl, p, rfl⟩
          go_wp2
          go_ret
          exact ⟨by (simp) <;> rfl, HW5.out.drewN p⟩
        · have t0 : ¬ (N : Int) = (u : Int) := by omega
          have t1 : ((N : Int) == (u : Int)) = false := by simpa using t0
          go_wp2_with fail
          refine (same_any A3 A k k c3 c (ls.take k) (ls.take k) w5 HG5.out HB5.out (by omega) (by omega)).mono ?_
          rw [decide_eq_true rfl]
          rintro e w6 ⟨rfl, p, rfl⟩
          go_wp2
          go_ret
          exact ⟨by (simp) <;> rfl, HW5.out.drewN p⟩
end Go.Proofs.YtgfnbfebcejocaaDoor
