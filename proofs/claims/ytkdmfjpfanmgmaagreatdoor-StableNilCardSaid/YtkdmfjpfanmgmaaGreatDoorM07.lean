/- Joined by mkmerge.py from the proof's texts Writ. Conditions: each theorem's own hypotheses. -/
import Derived.Test.YtkdmfjpfanmgmaaGreatDoorM06
import Derived.Test.YtkdmfjpfanmgmaaGreatDoorM03
namespace Go.Proofs.YtkdmfjpfanmgmaaGreatDoor
open Go.RowKit Le
set_option maxRecDepth 100000
theorem blk_own_ne {w : World} {g : Nat} {t e : TypeId} {cs : List Value} {base size n : Nat} {v : Value} {xs : List Value} (hg : Blk w g t cs) (h : w.ownsRow base e size v n xs) (hte : t ≠ e) : some g ≠ v.ownBlock := by
  intro he
  rcases h.2 with ⟨rfl, _⟩ | ⟨g', cap, cur, rfl, _, hg', _⟩
  · simp [Value.ownBlock] at he
  · simp [Value.ownBlock] at he
    subst he
    unfold Blk at hg
    rw [hg] at hg'
    simp at hg'
    exact hte hg'.2
theorem text_data (l : List UInt8) : (text l).data.toList = l := by simp [text]
end Go.Proofs.YtkdmfjpfanmgmaaGreatDoor
