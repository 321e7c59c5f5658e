/- The walks of the reference that reads bytes from the front. -/
import Derived.Test.YtkdmfjpfanmgmaaRead
namespace Go.Proofs.Ytkdmfjpfanmgmaa
open Go.RowKit Le
set_option maxRecDepth 100000

theorem num_drop (l : List UInt8) (j : Nat) (h : j < l.length) : num (l.drop j) = (l[j]'h).toNat + 256 * num (l.drop (j + 1)) := by
  rw [List.drop_eq_getElem_cons h]; rfl
theorem num_drop_lt (l : List UInt8) (j : Nat) (hl : l.length ≤ 8) (hj : 0 < j) : 256 * num (l.drop j) + 255 ≤ 18446744073709551615 := by
  have h1 := num_lt (l.drop j)
  have h2 : (256 : Nat) ^ (l.drop j).length ≤ 256 ^ 7 := Nat.pow_le_pow_right (by omega) (by rw [List.length_drop]; omega)
  have h3 : (256 : Nat) ^ 7 = 72057594037927936 := by decide
  omega

theorem grownBy_drewN {w0 w : World} {r : Option Nat} (h : w0.grownBy w r) (m : Nat) : w0.grownBy (w.drewN m) r := ⟨h.os, h.tape, h.output, h.size, h.block⟩
end Go.Proofs.Ytkdmfjpfanmgmaa
