/- The walks of noConfig, noSnap, noEntry. -/
import Derived.Test.YtkdmfjpfanmgmaaFold5
namespace Go.Proofs.Ytkdmfjpfanmgmaa
open Go.RowKit Le
set_option maxRecDepth 100000
set_option linter.unusedSimpArgs false
set_option linter.unusedVariables false

/-- A test's answer; what was there is as it was. -/
def TestEnd (w : World) (b : Bool) (e : Ending) (w' : World) : Prop := e = .returned (.bool b) ∧ Below w.heap.size w w'

set_option maxHeartbeats 800000 in
theorem noConfig_any (l1 l2 : List Int) (A : Option Addr) (c : Nat) (B : Option Addr) (d : Nat) (w : World) (hl1 : l1.length ≤ 1048576) (hl2 : l2.length ≤ 1048576) :
    Calls Try.prog 45 #[.agg #[.slice A l1.length c, .slice B l2.length d]] w (TestEnd w (decide (l1 = [] ∧ l2 = []))) := by
  have hz : (l1 = [] ∧ l2 = []) ↔ l1.length + l2.length = 0 := by rw [← List.length_eq_zero_iff, ← List.length_eq_zero_iff]; omega
  obtain ⟨b, hb⟩ : ∃ b, decide (l1 = [] ∧ l2 = []) = b := ⟨_, rfl⟩
  rw [hb]
  have hb2 : decide ((l1.length : Int) + l2.length = 0) = b := by rw [← hb]; apply decide_eq_decide.2; rw [hz]; omega
  have hb3 : ((l1.length : Int) + l2.length == 0) = b := by rw [← hb2]; rfl
  clear hb hb2 hz
  generalize l1.length = n1 at *
  generalize l2.length = n2 at *
  go_enter Try.func45, Try.ntmps45
  go_wp2
  go_ret
  exact ⟨rfl, (by repeat (first | with_reducible exact Below.refl _ _ | with_reducible assumption | (with_reducible refine Below.setCell ?_ (by dsimp only; (first | omega | (simp; done) | (simp; omega))) _) | (with_reducible refine Below.alloc ?_ (by (first | omega | (simp; done) | (simp; omega))) _) | with_reducible refine Below.drew ?_))⟩

set_option maxHeartbeats 800000 in
theorem noSnap_any (x : Snp) (A : Option Addr) (c : Nat) (B : Option Addr) (d : Nat) (w : World) (hs : x.Small) :
    Calls Try.prog 26 #[.agg (x.cs A c B d).toArray] w (TestEnd w (decide (x = .zero))) := by
  unfold Snp.cs
  by_cases h0 : x.idx = 0
  · have r0 := h0
    by_cases h1 : x.term = 0
    · have r1 := h1
      by_cases h2 : x.b = []
      · have e : decide (x = Snp.zero) = decide (x.v = [] ∧ x.l = []) := by
          apply decide_eq_decide.2
          cases x
          simp only [Snp.zero, Snp.mk.injEq] at *
          simp [h0, h1, h2]
        rw [e]
        rw [h0, h1, h2]
        clear e h0 h1 h2 r0 r1
        have C := fun w => Lib.hid (noConfig_any x.v x.l A c B d w hs.v hs.l)
        generalize decide (x.v = [] ∧ x.l = []) = b at *
        go_enter Try.func26, Try.ntmps26
        go_wp2_with fail
        refine at_below w _ (by repeat (first | with_reducible exact Below.refl _ _ | with_reducible assumption | (with_reducible refine Below.setCell ?_ (by dsimp only; (first | omega | (simp; done) | (simp; omega))) _) | (with_reducible refine Below.alloc ?_ (by (first | omega | (simp; done) | (simp; omega))) _) | with_reducible refine Below.drew ?_)) fun HBx => ?_
        refine (C _).out.mono ?_
        rintro e w1 ⟨rfl, hb⟩
        have HB := Lib.hid (HBx.trans (hb.mono (by (first | omega | (simp; done) | (simp; omega)))))
        clear hb HBx C
        go_wp2
        go_ret
        exact ⟨rfl, HB.out⟩
      · have e : decide (x = Snp.zero) = false := decide_eq_false (by rintro rfl; exact h2 rfl)
        rw [e]
        rw [h0, h1]
        have t : decide (x.b = []) = false := by simpa using h2
        clear e h0 h1
        go_enter Try.func26, Try.ntmps26
        go_wp2
        go_ret
        exact ⟨rfl, (by repeat (first | with_reducible exact Below.refl _ _ | with_reducible assumption | (with_reducible refine Below.setCell ?_ (by dsimp only; (first | omega | (simp; done) | (simp; omega))) _) | (with_reducible refine Below.alloc ?_ (by (first | omega | (simp; done) | (simp; omega))) _) | with_reducible refine Below.drew ?_))⟩
    · have e : decide (x = Snp.zero) = false := decide_eq_false (by rintro rfl; exact h1 rfl)
      rw [e]
      rw [h0]
      have t : (x.term == 0) = false := by simpa using h1
      clear e h0 h1
      go_enter Try.func26, Try.ntmps26
      go_wp2
      go_ret
      exact ⟨rfl, (by repeat (first | with_reducible exact Below.refl _ _ | with_reducible assumption | (with_reducible refine Below.setCell ?_ (by dsimp only; (first | omega | (simp; done) | (simp; omega))) _) | (with_reducible refine Below.alloc ?_ (by (first | omega | (simp; done) | (simp; omega))) _) | with_reducible refine Below.drew ?_))⟩
  · have e : decide (x = Snp.zero) = false := decide_eq_false (by rintro rfl; exact h0 rfl)
    rw [e]
    have t : (x.idx == 0) = false := by simpa using h0
    clear e h0
    go_enter Try.func26, Try.ntmps26
    go_wp2
    go_ret
    exact ⟨rfl, (by repeat (first | with_reducible exact Below.refl _ _ | with_reducible assumption | (with_reducible refine Below.setCell ?_ (by dsimp only; (first | omega | (simp; done) | (simp; omega))) _) | (with_reducible refine Below.alloc ?_ (by (first | omega | (simp; done) | (simp; omega))) _) | with_reducible refine Below.drew ?_))⟩

set_option maxHeartbeats 800000 in
theorem noEntry_any (x : Ent) (A : Option Addr) (c : Nat) (B : Option Addr) (d : Nat) (w : World) (hs : x.Small) :
    Calls Try.prog 49 #[.agg (x.cs A c B d).toArray] w (TestEnd w (decide (x = .zero))) := by
  unfold Ent.cs
  by_cases h0 : x.idx = 0
  · have r0 := h0
    by_cases h1 : x.term = 0
    · have r1 := h1
      by_cases h2 : x.kind = 0
      · have r2 := h2
        by_cases h3 : x.b = []
        · have e : decide (x = Ent.zero) = decide (x.v = [] ∧ x.l = []) := by
            apply decide_eq_decide.2
            cases x
            simp only [Ent.zero, Ent.mk.injEq] at *
            simp [h0, h1, h2, h3]
          rw [e]
          rw [h0, h1, h2, h3]
          clear e h0 h1 h2 h3 r0 r1 r2
          have C := fun w => Lib.hid (noConfig_any x.v x.l A c B d w hs.v hs.l)
          generalize decide (x.v = [] ∧ x.l = []) = b at *
          go_enter Try.func49, Try.ntmps49
          go_wp2_with fail
          refine at_below w _ (by repeat (first | with_reducible exact Below.refl _ _ | with_reducible assumption | (with_reducible refine Below.setCell ?_ (by dsimp only; (first | omega | (simp; done) | (simp; omega))) _) | (with_reducible refine Below.alloc ?_ (by (first | omega | (simp; done) | (simp; omega))) _) | with_reducible refine Below.drew ?_)) fun HBx => ?_
          refine (C _).out.mono ?_
          rintro e w1 ⟨rfl, hb⟩
          have HB := Lib.hid (HBx.trans (hb.mono (by (first | omega | (simp; done) | (simp; omega)))))
          clear hb HBx C
          go_wp2
          go_ret
          exact ⟨rfl, HB.out⟩
        · have e : decide (x = Ent.zero) = false := decide_eq_false (by rintro rfl; exact h3 rfl)
          rw [e]
          rw [h0, h1, h2]
          have t : decide (x.b = []) = false := by simpa using h3
          clear e h0 h1 h2
          go_enter Try.func49, Try.ntmps49
          go_wp2
          go_ret
          exact ⟨rfl, (by repeat (first | with_reducible exact Below.refl _ _ | with_reducible assumption | (with_reducible refine Below.setCell ?_ (by dsimp only; (first | omega | (simp; done) | (simp; omega))) _) | (with_reducible refine Below.alloc ?_ (by (first | omega | (simp; done) | (simp; omega))) _) | with_reducible refine Below.drew ?_))⟩
      · have e : decide (x = Ent.zero) = false := decide_eq_false (by rintro rfl; exact h2 rfl)
        rw [e]
        rw [h0, h1]
        have t : (x.kind == 0) = false := by simpa using h2
        clear e h0 h1 h2
        go_enter Try.func49, Try.ntmps49
        go_wp2
        go_ret
        exact ⟨rfl, (by repeat (first | with_reducible exact Below.refl _ _ | with_reducible assumption | (with_reducible refine Below.setCell ?_ (by dsimp only; (first | omega | (simp; done) | (simp; omega))) _) | (with_reducible refine Below.alloc ?_ (by (first | omega | (simp; done) | (simp; omega))) _) | with_reducible refine Below.drew ?_))⟩
    · have e : decide (x = Ent.zero) = false := decide_eq_false (by rintro rfl; exact h1 rfl)
      rw [e]
      rw [h0]
      have t : (x.term == 0) = false := by simpa using h1
      clear e h0 h1
      go_enter Try.func49, Try.ntmps49
      go_wp2
      go_ret
      exact ⟨rfl, (by repeat (first | with_reducible exact Below.refl _ _ | with_reducible assumption | (with_reducible refine Below.setCell ?_ (by dsimp only; (first | omega | (simp; done) | (simp; omega))) _) | (with_reducible refine Below.alloc ?_ (by (first | omega | (simp; done) | (simp; omega))) _) | with_reducible refine Below.drew ?_))⟩
  · have e : decide (x = Ent.zero) = false := decide_eq_false (by rintro rfl; exact h0 rfl)
    rw [e]
    have t : (x.idx == 0) = false := by simpa using h0
    clear e h0
    go_enter Try.func49, Try.ntmps49
    go_wp2
    go_ret
    exact ⟨rfl, (by repeat (first | with_reducible exact Below.refl _ _ | with_reducible assumption | (with_reducible refine Below.setCell ?_ (by dsimp only; (first | omega | (simp; done) | (simp; omega))) _) | (with_reducible refine Below.alloc ?_ (by (first | omega | (simp; done) | (simp; omega))) _) | with_reducible refine Below.drew ?_))⟩

end Go.Proofs.Ytkdmfjpfanmgmaa
