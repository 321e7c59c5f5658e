/- Joined by mkmerge.py from the proof's texts Law2. Conditions: each theorem's own hypotheses. -/
import Derived.Test.YtkdmfjpfanmgmaaGreatDoorM12
import Derived.Lib.SlBytesConst
namespace Go.Proofs.YtkdmfjpfanmgmaaGreatDoor
open Go.RowKit Le
set_option maxRecDepth 100000
theorem sreads_len {w : World} {B n : Nat} {A : Option Addr} {l : List UInt8} (h : Reads w B A n (u8s l)) : l.length = n := by
  have := h.len; rwa [u8s_length] at this
theorem sum_nil : Crc.sum [] = 0 := by decide
end Go.Proofs.YtkdmfjpfanmgmaaGreatDoor
