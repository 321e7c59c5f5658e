/- The program's readers' contracts, each in one: what is read is a function of the bytes that are left. -/
import Derived.Test.YteohhgkehkmgcaaRead
namespace Go.Proofs.Yteohhgkehkmgcaa
open Go.RowKit Le
set_option maxRecDepth 100000

/-- A number off the front: what it is, the error, how many bytes are taken. -/
def rdNumber (l : List UInt8) : Int × Int × Nat :=
  if l.length < 4 then (0, 10, 0) else if 1000000000 < num (l.take 4) then (0, 11, 0) else ((num (l.take 4) : Int), 0, 4)
def rdInt (l : List UInt8) : Int × Int × Nat :=
  if l.length < 8 then (0, 10, 0) else (i64 (num (l.take 8)), 0, 8)
def rdText (l : List UInt8) : ByteArray × Int × Nat :=
  if l.length < 4 then (text [], 10, 0) else if 65536 < num (l.take 4) then (text [], 11, 0)
  else if l.length < 4 + num (l.take 4) then (text [], 10, 0) else (text ((l.drop 4).take (num (l.take 4))), 0, 4 + num (l.take 4))
theorem rdNumber_le (l : List UInt8) : (rdNumber l).2.2 ≤ l.length := by
  unfold rdNumber; split
  · simp
  · split <;> simp; omega
theorem rdInt_le (l : List UInt8) : (rdInt l).2.2 ≤ l.length := by
  unfold rdInt; split <;> simp; omega
theorem rdText_le (l : List UInt8) : (rdText l).2.2 ≤ l.length := by
  unfold rdText; split
  · simp
  · split
    · simp
    · split <;> simp; omega

theorem number_all (r : Nat) (l : List UInt8) (w : World) (hr : Rd w r l) :
    Calls Try.prog 147 #[.pointer (some ⟨r, 0, none⟩)] w fun e w' =>
      e = .returned (.tuple #[.int .i64 (rdNumber l).1, .int .i64 (rdNumber l).2.1]) ∧ Rd w' r (l.drop (rdNumber l).2.2) ∧ w.grownBy w' (some r) := by
  unfold rdNumber
  by_cases h1 : l.length < 4
  · rw [if_pos h1]
    exact (number_end r l w hr h1).mono fun e w' ⟨he, hw⟩ => ⟨he, hw ▸ hr, hw ▸ World.grownBy.refl _ _⟩
  · rw [if_neg h1]
    by_cases h2 : 1000000000 < num (l.take 4)
    · rw [if_pos h2]
      exact (number_form r l w hr (by omega) h2).mono fun e w' ⟨he, hw⟩ => ⟨he, hw ▸ hr, hw ▸ World.grownBy.refl _ _⟩
    · rw [if_neg h2]
      exact number_ok r l w hr (by omega) (by omega)
theorem int_all (r : Nat) (l : List UInt8) (w : World) (hr : Rd w r l) :
    Calls Try.prog 167 #[.pointer (some ⟨r, 0, none⟩)] w fun e w' =>
      e = .returned (.tuple #[.int .i64 (rdInt l).1, .int .i64 (rdInt l).2.1]) ∧ Rd w' r (l.drop (rdInt l).2.2) ∧ w.grownBy w' (some r) := by
  unfold rdInt
  by_cases h1 : l.length < 8
  · rw [if_pos h1]
    exact (int_end r l w hr h1).mono fun e w' ⟨he, hw⟩ => ⟨he, hw ▸ hr, hw ▸ World.grownBy.refl _ _⟩
  · rw [if_neg h1]
    exact int_ok r l w hr (by omega)
theorem text_all (r : Nat) (l : List UInt8) (w : World) (hr : Rd w r l) :
    Calls Try.prog 151 #[.pointer (some ⟨r, 0, none⟩)] w fun e w' =>
      e = .returned (.tuple #[.string (rdText l).1, .int .i64 (rdText l).2.1]) ∧ Rd w' r (l.drop (rdText l).2.2) ∧ w.grownBy w' (some r) := by
  unfold rdText
  by_cases h1 : l.length < 4
  · rw [if_pos h1]
    exact (text_end r l w hr h1).mono fun e w' ⟨he, hw⟩ => ⟨he, hw ▸ hr, hw ▸ World.grownBy.refl _ _⟩
  · rw [if_neg h1]
    by_cases h2 : 65536 < num (l.take 4)
    · rw [if_pos h2]
      exact (text_form r l w hr (by omega) h2).mono fun e w' ⟨he, hw⟩ => ⟨he, hw ▸ hr, hw ▸ World.grownBy.refl _ _⟩
    · rw [if_neg h2]
      by_cases h3 : l.length < 4 + num (l.take 4)
      · rw [if_pos h3]
        exact (text_less r l w hr (by omega) (by omega) h3).mono fun e w' ⟨he, hw⟩ => ⟨he, hw ▸ hr, hw ▸ World.grownBy.refl _ _⟩
      · rw [if_neg h3]
        exact text_ok r l w hr (by omega) (by omega) (by omega)

end Go.Proofs.Yteohhgkehkmgcaa
