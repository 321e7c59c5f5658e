/- What is kept and a record that came in are such as a machine can hold. No condition: plain lemmas. -/
import Derived.Test.YtkdmfjpfanmgmaaOpen3
import Derived.Test.YtkdmfjpfanmgmaaFold25
namespace Go.Proofs.Ytkdmfjpfanmgmaa
open Go.RowKit

theorem tame_ints {l : List Int} (h : tame (.rows (nums l))) : l.length ≤ 140737488355328 := by
  have := h.1
  rwa [nums_len] at this
theorem ent_tame {e : Ent} (h : tames e.da) : e.Tame := by
  obtain ⟨_, _, _, h1, h2, h3, _⟩ := h
  exact ⟨tame_ints h1, tame_ints h2, h3⟩
theorem snp_tame {s : Snp} (h : tames s.da) : s.Tame := by
  obtain ⟨_, _, h1, h2, h3, _⟩ := h
  exact ⟨tame_ints h1, tame_ints h2, h3⟩
theorem rcd_tame {r : Rcd} (h : tames r.da) : r.Tame := by
  obtain ⟨_, _, _, _, _, _, h1, h2, h3, _, _, _, h4, h5, h6, _⟩ := h
  exact ⟨⟨tame_ints h1, tame_ints h2, h3⟩, ⟨tame_ints h4, tame_ints h5, h6⟩⟩
theorem kep_tame {k : Kep} (h : tames k.da) : k.Tame := by
  obtain ⟨_, _, _, _, h4, h5, h6, h7, _⟩ := h
  refine ⟨⟨tame_ints h4, tame_ints h5, h6⟩, by have := h7.1; simpa using this, fun x hx => ent_tame (tamess_mem h7.2 _ (List.mem_map.2 ⟨x, hx, rfl⟩))⟩
end Go.Proofs.Ytkdmfjpfanmgmaa
