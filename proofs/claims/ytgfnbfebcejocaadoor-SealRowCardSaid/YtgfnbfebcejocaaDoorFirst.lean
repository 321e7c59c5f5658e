/- The walks of package seal, on: the first frame. -/
import Derived.Test.YtgfnbfebcejocaaDoorSeal3
import Derived.Test.YtgfnbfebcejocaaDoorReader1
import Derived.Deep.RegionWith
import Derived.Lib.SliceRun
namespace Go.Proofs.YtgfnbfebcejocaaDoor
open Go.RowKit Le

theorem own_mono {w : World} {base base' size n : Nat} {e : TypeId} {v : Value} {xs : List Value} (h : w.ownsRow base e size v n xs) (hb : base' ≤ base) : w.ownsRow base' e size v n xs := by
  refine ⟨h.1, ?_⟩
  rcases h.2 with h0 | ⟨g, cap, cur, hv, hg, rest⟩
  · exact .inl h0
  · exact .inr ⟨g, cap, cur, hv, Nat.le_trans hb hg, rest⟩
theorem _root_.Go.RowKit.Below.drewN {w w' : World} {B : Nat} (h : Below B w w') (m : Nat) : Below B w (w'.drewN m) := by
  induction m with
  | zero => exact h
  | succ m ih => exact ih.drew

/-- A slice that the text wrote out without elements, as a row of the call's own. -/
theorem own_empty (w : World) (t : TypeId) (B : Nat) (hB : B ≤ w.heap.size) : (w.alloc (.cells #[] t)).ownsRow B t 1 (.slice (some ⟨w.heap.size, 0, none⟩) 0 0) 0 [] :=
  ⟨rfl, .inr ⟨w.heap.size, 0, #[], rfl, hB, heap_alloc_new w _, Nat.le_refl _, by simp [maxLen], rfl, rfl⟩⟩

set_option maxHeartbeats 800000 in
theorem clone_any (ad : Addr) (k c : Nat) (l : List UInt8) (w : World) (hb : Reads w w.heap.size (some ad) k (u8s l)) (hk : k ≤ 1099511627776) :
    Calls Tryd.prog 29 #[.slice (some ad) k c] w fun e w' => ∃ A' c', e = .returned (.slice A' k c') ∧ Made w w' 5 A' k c' l := by
  obtain ⟨i0, hi0, hz0, hz1, hz2⟩ := info_parts info_u8
  have hb2 := hb.alloc (Nat.le_refl _) (.cells #[] 5)
  have kn : ∀ w, (binOp .eql 22 (.slice (some ad) k c) (.slice none 0 0)).run Tryd.prog w = .ok (.bool false) w := fun w => Lib.run_eql_slice_nil w _ _ _ _ _ _ _ Tryd.underlying22
  go_enter Tryd.func29, Tryd.ntmps29
  go_wp2_with (at_builtin; refine wpList_app rfl _ _ _ rfl w.heap.size 5 i0 _ 1 Tryd.underlying22 hi0 hz0 hz1 hz2 rfl (.slice (some ⟨w.heap.size, 0, none⟩) 0 0) 0 [] rfl (own_empty w _ _ (Nat.le_refl _)) _ _ k c _ rfl hb2 (u8s_one _) (by unfold maxLen; omega) (by omega) (by simp) w ((Below.refl _ _).alloc (Nat.le_refl _) _) ?_; intro A3 c3 w3 HO3 hb3 _)
  go_ret
  exact ⟨A3, c3, rfl, by have h := HO3.out; rw [Nat.zero_add] at h; simpa using h, hb3⟩

theorem take_ne {l1 l2 : List UInt8} {j : Nat} (h1 : j < l1.length) (h2 : j < l2.length) (h : (l1[j]'h1) ≠ (l2[j]'h2)) : l1 ≠ l2 := by
  rintro rfl
  exact h rfl
theorem take_snoc_eq {l1 l2 : List UInt8} {j : Nat} (h1 : j < l1.length) (h2 : j < l2.length) (h : l1.take j = l2.take j) (he : (l1[j]'h1) = (l2[j]'h2)) : l1.take (j + 1) = l2.take (j + 1) := by
  rw [List.take_succ_eq_append_getElem h1, List.take_succ_eq_append_getElem h2, h, he]

set_option maxHeartbeats 1600000 in
theorem equal_any (A1 A2 : Option Addr) (n1 n2 c1 c2 B1 B2 : Nat) (l1 l2 : List UInt8) (w : World) (h1 : Reads w B1 A1 n1 (u8s l1)) (h2 : Reads w B2 A2 n2 (u8s l2)) (hn : n1 ≤ 1099511627776) (hn2 : n2 ≤ 1099511627776) :
    Calls Tryd.prog 30 #[.slice A1 n1 c1, .slice A2 n2 c2] w fun e w' => e = .returned (.bool (decide (l1 = l2))) ∧ ∃ m, w' = w.drewN m := by
  have L1 := Lib.hid (reads_len h1)
  have L2 := Lib.hid (reads_len h2)
  by_cases hne : n1 = n2
  · subst hne
    go_enter Tryd.func30, Tryd.ntmps30
    go_wp2
    go_loopw [13] (fun i wr => ∃ (j m : Nat), j ≤ n1 ∧ i = .int .i64 j ∧ wr = w.drewN m ∧ Hid (l1.take j = l2.take j)) (fun i _ => n1 - (intOf i).toNat)
    case atStart => exact ⟨0, 0, Nat.zero_le _, rfl, rfl, Lib.hid rfl⟩
    case round =>
      obtain ⟨j, m, hj, rfl, rfl, HE⟩ := hrel
      by_cases hlt : j < n1
      · obtain ⟨a1, hA1, _, hc1⟩ := h1.2 (by omega)
        obtain ⟨a2, hA2, _, hc2⟩ := h2.2 (by omega)
        subst hA1
        subst hA2
        have j1 : j < l1.length := by have := L1.out; omega
        have j2 : j < l2.length := by have := L2.out; omega
        have k1 : w.cell? (a1.add j) = some (.int .u8 ((l1[j]'j1).toNat : Int)) := hc1 j _ (u8s_at l1 j j1)
        have k2 : w.cell? (a2.add j) = some (.int .u8 ((l2[j]'j2).toNat : Int)) := hc2 j _ (u8s_at l2 j j2)
        obtain ⟨X, HX⟩ : ∃ X, Hid ((l1[j]'j1).toNat = X) := ⟨_, Lib.hid rfl⟩
        obtain ⟨Y, HY⟩ : ∃ Y, Hid ((l2[j]'j2).toNat = Y) := ⟨_, Lib.hid rfl⟩
        rw [HX.out] at k1
        rw [HY.out] at k2
        have p1 : (j : Int) < (n1 : Int) := by omega
        clear hc1 hc2 h1 h2
        by_cases hXY : X = Y
        · subst hXY
          have HS := Lib.hid (take_snoc_eq j1 j2 HE.out (UInt8.toNat_inj.1 (HX.out.trans HY.out.symm)))
          go_wp2
          go_quiet (fail)
          go_wp2
          go_roundw
          case rel => exact ⟨j + 1, _, by omega, by go_num, rfl, HS⟩
          case measure => simp [intOf]; omega
        · have HN := Lib.hid (take_ne j1 j2 (fun h => hXY (by rw [← HX.out, ← HY.out, h])))
          have t0 : ¬ (X : Int) = (Y : Int) := by omega
          have t1 : ((X : Int) == (Y : Int)) = false := by simpa using t0
          have t2 : ((X : Int) != (Y : Int)) = true := by simpa using t0
          clear hXY
          go_wp2
          go_quiet (fail)
          go_wp2
          go_ret
          exact ⟨by rw [decide_eq_false HN.out]; rfl, _, World.drewN_drewN _ _ _⟩
      · obtain rfl : j = n1 := by omega
        have HQ : Hid (l1 = l2) := by
          have h := HE.out
          rw [List.take_of_length_le (by have := L1.out; omega), List.take_of_length_le (by have := L2.out; omega)] at h
          exact Lib.hid h
        go_wp2
        go_ret
        exact ⟨by rw [decide_eq_true HQ.out]; rfl, _, rfl⟩
  · have HN : Hid (l1 ≠ l2) := Lib.hid (fun h => hne (by rw [← L1.out, ← L2.out, h]))
    have t0 : ¬ (n1 : Int) = (n2 : Int) := by omega
    have t1 : ((n1 : Int) == (n2 : Int)) = false := by simpa using t0
    have t2 : ((n1 : Int) != (n2 : Int)) = true := by simpa using t0
    clear hne
    go_enter Tryd.func30, Tryd.ntmps30
    go_wp2
    go_ret
    exact ⟨by rw [decide_eq_false HN.out]; rfl, 0, rfl⟩
end Go.Proofs.YtgfnbfebcejocaaDoor
