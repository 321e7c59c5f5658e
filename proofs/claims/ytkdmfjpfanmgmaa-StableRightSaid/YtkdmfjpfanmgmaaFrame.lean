/- From arguments that came in to what the walks ask of them. No condition: lemmas over every program and world. -/
import Derived.Test.YtkdmfjpfanmgmaaWords
namespace Go.Proofs.Ytkdmfjpfanmgmaa
open Go.RowKit

/-- A slice of integers that came in: it is nil; or it leads to a row of 'cap' cells, the numbers 'zs', each fitting its kind. -/
def IsRow (k : IntKind) (w : World) (a : Option Addr) (len cap : Nat) (zs : List Int) : Prop :=
  (a = none ∧ len = 0 ∧ cap = 0 ∧ zs = []) ∨
  ∃ x, a = some x ∧ len ≤ cap ∧ cap ≤ maxLen ∧ zs.length = cap ∧ (∀ i, i < zs.length → w.cell? (x.add i) = some (.int k (zs.getD i 0))) ∧ ∀ n ∈ zs, (Lit.int k n).wf = true

theorem IsRow.ints {k : IntKind} {w : World} {a : Option Addr} {len cap : Nat} {zs : List Int} (h : IsRow k w a len cap zs) :
    Reads w w.heap.size a len ((zs.take len).map (Value.int k)) ∧ len ≤ cap ∧ (zs.take len).length = len := by
  rcases h with ⟨rfl, rfl, rfl, rfl⟩ | ⟨x, rfl, hl, hm, hz, hc, hw⟩
  · exact ⟨by simpa using Reads.none_, Nat.le_refl _, rfl⟩
  · have hlen : (zs.take len).length = len := by rw [List.length_take]; omega
    refine ⟨⟨by simpa using hlen, fun hn => ⟨x, rfl, ?_, fun j u hu => ?_⟩⟩, hl, hlen⟩
    · have := World.block_lt_of_cell? w _ (hc 0 (by omega))
      rwa [block_of_add] at this
    · simp only [List.getElem?_map, List.getElem?_take] at hu
      split at hu
      · have hj : j < zs.length := by
          rcases Nat.lt_or_ge j zs.length with h | h
          · exact h
          · rw [List.getElem?_eq_none h] at hu; simp at hu
        rw [List.getElem?_eq_getElem hj] at hu
        simp only [Option.map_some, Option.some.injEq] at hu
        subst hu
        have := hc j hj
        rwa [List.getD_eq_getElem?_getD, List.getElem?_eq_getElem hj, Option.getD_some] at this
      · simp at hu

theorem IsRow.bytes {w : World} {a : Option Addr} {len cap : Nat} {zs : List Int} (h : IsRow .u8 w a len cap zs) :
    ∃ l : List UInt8, Reads w w.heap.size a len (u8s l) ∧ len ≤ cap := by
  obtain ⟨h1, h2, h3⟩ := h.ints
  have hw : ∀ n ∈ zs, (Lit.int .u8 n).wf = true := by
    rcases h with ⟨_, _, _, rfl⟩ | ⟨_, _, _, _, _, _, hw⟩
    · intro n hn; cases hn
    · exact hw
  refine ⟨(zs.take len).map fun n => UInt8.ofNat n.toNat, ?_, h2⟩
  have e : u8s ((zs.take len).map fun n => UInt8.ofNat n.toNat) = (zs.take len).map (Value.int .u8) := by
    unfold u8s
    rw [List.map_map]
    refine List.map_congr_left fun n hn => ?_
    have hb := hw n (List.mem_of_mem_take hn)
    have hb2 : 0 ≤ n ∧ n ≤ 255 := by simpa [Lit.wf, IntKind.min, IntKind.max, IntKind.signed, IntKind.bits] using hb
    have : (UInt8.ofNat n.toNat).toNat = n.toNat % 256 := UInt8.toNat_ofNat'
    simp only [Function.comp]
    rw [this]
    congr 1
    omega
  rw [e]
  exact h1
end Go.Proofs.Ytkdmfjpfanmgmaa
