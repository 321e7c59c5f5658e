/- The walks of package codec, on: what is read; and the references that read. -/
import Derived.Test.YtkdmfjpfanmgmaaCel
import Derived.Test.YtkdmfjpfanmgmaaKeep
import Derived.Deep.Fields1
namespace Go.Proofs.Ytkdmfjpfanmgmaa
open Go.RowKit Le
set_option maxRecDepth 100000

/-- The capacity, and the kind of block. -/
def CapT (w : World) (n c : Nat) (A : Option Addr) : Prop := c ≤ 1099511627776 ∧ (0 < n → ∀ ad, A = some ad → TypeAt w ad.block 5)
theorem pow256_le {j : Nat} (h : j < 8) : 256 ^ (j + 1) ≤ 18446744073709551616 := by
  have : (256 : Nat) ^ (j + 1) ≤ 256 ^ 8 := Nat.pow_le_pow_right (by omega) (by omega)
  simpa using this
theorem u64_wrap_nat (x : Nat) (h : x < 18446744073709551616) : IntKind.u64.wrap (x : Int) = (x : Int) := by
  have : IntKind.u64.wrap (x : Int) = (x : Int) % 18446744073709551616 := rfl
  rw [this]; omega
theorem or_step (l : List UInt8) (j X : Nat) (hX : X = num (l.take j)) (h : j < l.length) (hj : j < 8) :
    bits .or .u64 (X : Int) (IntKind.u64.wrap (IntKind.u64.wrap ((l[j]'h).toNat : Int) * 2 ^ (8 * j))) = ((num (l.take (j + 1)) : Nat) : Int) := by
  have h8 := pow256_le hj
  have hc := (l[j]'h).toNat_lt
  have ha : X < 256 ^ j := by
    have := num_lt (l.take j)
    rwa [List.length_take, Nat.min_eq_left (by omega), ← hX] at this
  have hb : (l[j]'h).toNat * 256 ^ j < 256 ^ (j + 1) := by
    rw [Nat.pow_succ, Nat.mul_comm (256 ^ j)]
    exact Nat.mul_lt_mul_of_pos_right hc (Nat.pow_pos (by omega))
  have e2 : (2 : Int) ^ (8 * j) = ((256 ^ j : Nat) : Int) := by
    rw [Int.pow_mul, Int.natCast_pow]; rfl
  rw [u64_wrap_nat _ (by omega), e2, ← Int.natCast_mul, u64_wrap_nat _ (by omega)]
  have hp : (256 : Nat) ^ j ≤ 256 ^ (j + 1) := Nat.pow_le_pow_right (by omega) (by omega)
  rw [u64_or_nat _ _ (by omega) (by omega)]
  have e3 : (l[j]'h).toNat * 256 ^ j = (l[j]'h).toNat <<< (8 * j) := by rw [Nat.shiftLeft_eq, Nat.pow_mul]
  rw [e3, or_shift _ _ _ ha, List.take_succ_eq_append_getElem h, num_snoc, ← hX, List.length_take, Nat.min_eq_left (by omega)]
theorem num_take_lt (l : List UInt8) (j : Nat) (hj : j ≤ 8) : num (l.take j) ≤ 18446744073709551615 := by
  have h1 := num_lt (l.take j)
  have h2 : (256 : Nat) ^ (l.take j).length ≤ 256 ^ 8 := Nat.pow_le_pow_right (by omega) (by rw [List.length_take]; omega)
  have h3 : (256 : Nat) ^ 8 = 18446744073709551616 := by decide
  omega

/-- A number of 64 bits as a whole number. -/
def i64 (V : Nat) : Int := wrap64 (V : Int)

end Go.Proofs.Ytkdmfjpfanmgmaa
