/- The walks of the reference that reads bytes from the front. -/
import Derived.Test.YtgfnbfebcejocaaDoorRead
namespace Go.Proofs.YtgfnbfebcejocaaDoor
open Go.RowKit Le

theorem num_drop (l : List UInt8) (j : Nat) (h : j < l.length) : num (l.drop j) = (l[j]'h).toNat + 256 * num (l.drop (j + 1)) := by
  rw [List.drop_eq_getElem_cons h]; rfl
theorem num_drop_lt (l : List UInt8) (j : Nat) (hl : l.length ≤ 8) (hj : 0 < j) : 256 * num (l.drop j) + 255 ≤ 18446744073709551615 := by
  have h1 := num_lt (l.drop j)
  have h2 : (256 : Nat) ^ (l.drop j).length ≤ 256 ^ 7 := Nat.pow_le_pow_right (by omega) (by rw [List.length_drop]; omega)
  have h3 : (256 : Nat) ^ 7 = 72057594037927936 := by decide
  omega

set_option maxHeartbeats 400000 in
theorem of_any (ad : Addr) (k c B : Nat) (l : List UInt8) (w : World) (hb : Reads w B (some ad) k (u8s l)) (hk : k ≤ 8) :
    Calls Tryd.prog 31 #[.slice (some ad) k c] w fun e w' => e = .returned (.int .u64 (num l)) ∧ w' = w := by
  have HL : Hid (l.length = k) := by have := hb.len; rw [u8s_length] at this; exact Lib.hid this
  go_enter Tryd.func31, Tryd.ntmps31
  go_wp2
  go_loop [3, 4] (fun v i => ∃ (j X : Nat), j ≤ k ∧ i = .int .i64 ((j : Int) - 1) ∧ v = .int .u64 X ∧ (0 < j → 256 * X + 255 ≤ 18446744073709551615) ∧ Hid (X = num (l.drop j))) (fun _ i => (intOf i + 1).toNat)
  case atStart =>
    refine ⟨k, 0, Nat.le_refl _, rfl, rfl, by omega, ?_⟩
    rw [List.drop_of_length_le (by have := HL.out; omega)]
    exact Lib.hid rfl
  case round =>
    obtain ⟨j, X, hj, rfl, rfl, hX, HX⟩ := hrel
    by_cases hlt : 0 < j
    · obtain ⟨i, rfl⟩ : ∃ i, j = i + 1 := ⟨j - 1, by omega⟩
      have hX' := hX (by omega)
      obtain ⟨_, hA, _, hcs⟩ := hb.2 (by omega)
      injection hA with hA
      subst hA
      have hc2 := hcs i _ (u8s_at l i (by have := HL.out; omega))
      have hlt2 := (l[i]'(by have := HL.out; omega)).toNat_lt
      rw [show ((i + 1 : Nat) : Int) - 1 = (i : Int) by omega]
      clear hcs hb hX
      go_wp2
      go_round
      case rel =>
        have hX2 := num_drop l i (by have := HL.out; omega)
        rw [← HX.out] at hX2
        refine ⟨i, _, by omega, rfl, by rw [show (256 * (X : Int) + ((l[i]'(by have := HL.out; omega)).toNat : Int)) = ((num (l.drop i) : Nat) : Int) by rw [hX2]; omega], ?_, Lib.hid rfl⟩
        intro h
        exact num_drop_lt l i (by have := HL.out; omega) h
      case measure => simp [intOf]
    · go_wp2
      go_ret
      obtain rfl : j = 0 := by omega
      exact ⟨by rw [show l = l.drop 0 from rfl, ← HX.out]; rfl, rfl⟩

theorem grownBy_drewN {w0 w : World} {r : Option Nat} (h : w0.grownBy w r) (m : Nat) : w0.grownBy (w.drewN m) r := ⟨h.os, h.tape, h.output, h.size, h.block⟩
end Go.Proofs.YtgfnbfebcejocaaDoor
