/- The walks of package folkmootkeep: bytes that are lent, and looked at when they come back. -/
import Derived.Test.YtkdmfjpfanmgmaaCodec2
namespace Go.Proofs.Ytkdmfjpfanmgmaa
open Go.RowKit Le
set_option maxRecDepth 100000

def marks : List UInt8 := [0xa5, 0x5a]

theorem lend_0 {w : World} {g : Nat} (l : List UInt8) (n : Nat) (_h : l.length = n) (t : TypeId) (hB : Blk w g t (u8s l ++ List.drop n (List.replicate (n + 2) (Value.int .u8 0)))) : Blk w g t (u8s (l ++ [0, 0])) := by
  have e : u8s l ++ List.drop n (List.replicate (n + 2) (Value.int .u8 0)) = u8s (l ++ [0, 0]) := by
    rw [List.drop_replicate, show n + 2 - n = 2 by omega, u8s_append]; rfl
  exact e ▸ hB
theorem lend_c0 (l : List UInt8) (n : Nat) (h : l.length = n) : (u8s (l ++ [0, 0]))[n]? = some (.int .u8 0) := by
  rw [u8s_append, List.getElem?_append_right (by simp; omega)]
  simp [h, u8s]
theorem lend_c1 (l : List UInt8) (n : Nat) (h : l.length = n) (x : Value) : ((u8s (l ++ [0, 0])).set n x)[n + 1]? = some (.int .u8 0) := by
  rw [List.getElem?_set_ne (by omega), u8s_append, List.getElem?_append_right (by simp; omega)]
  simp [h, u8s]

theorem lend_2 (l : List UInt8) (n : Nat) (h : l.length = n) : ((u8s (l ++ [0, 0])).set n (.int .u8 165)).set (n + 1) (.int .u8 90) = u8s (l ++ marks) := by
  have h2 : (u8s l).length = n := by simp [h]
  rw [u8s_append, List.set_append, if_neg (by omega), h2, Nat.sub_self, List.set_append, if_neg (by omega), h2, show n + 1 - n = 1 by omega, u8s_append]
  rfl

theorem grownBy_setCell {w0 w : World} {g : Nat} (h : w0.grownBy w (some g)) (i : Nat) (u : Value) : w0.grownBy (w.setCell ⟨g, i, none⟩ u) (some g) :=
  ⟨h.os, h.tape, h.output, by simpa [World.setCell] using h.size, fun k hk hne => (Below.heap_setCell w ⟨g, i, none⟩ u k (by rintro rfl; exact hne rfl)).trans (h.block k hk hne)⟩

theorem back_c0 (l : List UInt8) (n : Nat) (h : l.length = n) : (u8s (l ++ marks))[n]? = some (.int .u8 165) := by
  rw [u8s_append, List.getElem?_append_right (by simp; omega)]
  simp [h, u8s, marks]
theorem back_c1 (l : List UInt8) (n : Nat) (h : l.length = n) : (u8s (l ++ marks))[n + 1]? = some (.int .u8 90) := by
  rw [u8s_append, List.getElem?_append_right (by simp; omega)]
  simp [h, u8s, marks]

/-- Block g is n bytes, whichever. -/
def Turned (w : World) (g : Nat) (t : TypeId) (n : Nat) : Prop := ∃ l : List UInt8, l.length = n ∧ Blk w g t (u8s l)
theorem Turned.at_ {w : World} {g n : Nat} {t : TypeId} (h : Turned w g t n) {j : Nat} (hj : j < n) : ∃ u : Nat, w.cell? ⟨g, j, none⟩ = some (.int .u8 u) ∧ w.frozen? ⟨g, j, none⟩ = false := by
  obtain ⟨l, hl, hB⟩ := h
  exact ⟨(l[j]'(by omega)).toNat, (hB.cell j).trans (u8s_at l j (by omega)), hB.frozen j⟩
theorem Turned.set_ {w : World} {g n : Nat} {t : TypeId} (h : Turned w g t n) (j : Nat) (u : Int) : Turned (w.setCell ⟨g, j, none⟩ (.int .u8 (u % 256))) g t n := by
  obtain ⟨l, hl, hB⟩ := h
  refine ⟨l.set j (UInt8.ofNat (u % 256).toNat), by simp [hl], ?_⟩
  have h2 := hB.set_ j (.int .u8 (u % 256))
  have e : (u8s l).set j (.int .u8 (u % 256)) = u8s (l.set j (UInt8.ofNat (u % 256).toNat)) := by
    unfold u8s
    rw [List.map_set]
    congr 2
    have : (UInt8.ofNat (u % 256).toNat).toNat = (u % 256).toNat % 256 := UInt8.toNat_ofNat'
    rw [this]
    omega
  exact e ▸ h2

end Go.Proofs.Ytkdmfjpfanmgmaa
