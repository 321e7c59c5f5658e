/- The readers' contracts, each in one: what is read is a function of the bytes that are left. -/
import Derived.Test.YteohhgkehkmgcaaCut
import Derived.Test.YteohhgkehkmgcaaReader1
namespace Go.Proofs.Yteohhgkehkmgcaa
open Go.RowKit Le

theorem ct_same {w w' : World} {g n c i : Nat} {A : Option Addr} (h : Ct w g A n c i) : (∃ m, w' = w.drewN m) → Ct w' g A n c (i + 0) ∧ w.grownBy w' (some g) := by
  rintro ⟨m, rfl⟩
  exact ⟨Blk.drewN h m, grownBy_drewN (World.grownBy.refl _ _) m⟩
theorem reads_length {w : World} {B n : Nat} {A : Option Addr} {l : List UInt8} (h : Reads w B A n (u8s l)) : l.length = n := by
  have := h.len; rwa [u8s_length] at this

theorem cnumber_all (g : Nat) (A : Option Addr) (n c i : Nat) (l : List UInt8) (w : World) (h : Ct w g A n c i) (B : Nat) (hb : Reads w B A n (u8s l)) (hi : i ≤ n) (hnc : n ≤ c) (hn : n ≤ 1099511627776) :
    Calls Try.prog 148 #[.pointer (some ⟨g, 0, none⟩)] w fun e w' =>
      e = .returned (.tuple #[.int .i64 (rdNumber (l.drop i)).1, .int .i64 (rdNumber (l.drop i)).2.1]) ∧ Ct w' g A n c (i + (rdNumber (l.drop i)).2.2) ∧ w.grownBy w' (some g) := by
  have hl := reads_length hb
  unfold rdNumber
  by_cases h1 : (l.drop i).length < 4
  · rw [if_pos h1]
    rw [List.length_drop] at h1
    exact (cnumber_end g A n c i w h hi hn (by omega)).mono fun e w' ⟨he, hw⟩ => ⟨he, ct_same h hw⟩
  · rw [if_neg h1]
    rw [List.length_drop] at h1
    by_cases h2 : 1000000000 < num ((l.drop i).take 4)
    · rw [if_pos h2]
      exact (cnumber_form g A n c i l w h B hb (by omega) hnc hn h2).mono fun e w' ⟨he, hw⟩ => ⟨he, ct_same h hw⟩
    · rw [if_neg h2]
      exact cnumber_ok g A n c i l w h B hb (by omega) hnc hn (by omega)
theorem cint_all (g : Nat) (A : Option Addr) (n c i : Nat) (l : List UInt8) (w : World) (h : Ct w g A n c i) (B : Nat) (hb : Reads w B A n (u8s l)) (hi : i ≤ n) (hnc : n ≤ c) (hn : n ≤ 1099511627776) :
    Calls Try.prog 168 #[.pointer (some ⟨g, 0, none⟩)] w fun e w' =>
      e = .returned (.tuple #[.int .i64 (rdInt (l.drop i)).1, .int .i64 (rdInt (l.drop i)).2.1]) ∧ Ct w' g A n c (i + (rdInt (l.drop i)).2.2) ∧ w.grownBy w' (some g) := by
  have hl := reads_length hb
  unfold rdInt
  by_cases h1 : (l.drop i).length < 8
  · rw [if_pos h1]
    rw [List.length_drop] at h1
    exact (cint_end g A n c i w h hi hn (by omega)).mono fun e w' ⟨he, hw⟩ => ⟨he, ct_same h hw⟩
  · rw [if_neg h1]
    rw [List.length_drop] at h1
    exact cint_ok g A n c i l w h B hb (by omega) hnc hn
theorem ctext_all (g : Nat) (A : Option Addr) (n c i : Nat) (l : List UInt8) (w : World) (h : Ct w g A n c i) (B : Nat) (hb : Reads w B A n (u8s l)) (hi : i ≤ n) (hnc : n ≤ c) (hn : n ≤ 1099511627776) :
    Calls Try.prog 153 #[.pointer (some ⟨g, 0, none⟩)] w fun e w' =>
      e = .returned (.tuple #[.string (rdText (l.drop i)).1, .int .i64 (rdText (l.drop i)).2.1]) ∧ Ct w' g A n c (i + (rdText (l.drop i)).2.2) ∧ w.grownBy w' (some g) := by
  have hl := reads_length hb
  unfold rdText
  by_cases h1 : (l.drop i).length < 4
  · rw [if_pos h1]
    rw [List.length_drop] at h1
    exact (ctext_end g A n c i w h hi hn (by omega)).mono fun e w' ⟨he, hw⟩ => ⟨he, ct_same h hw⟩
  · rw [if_neg h1]
    by_cases h2 : 65536 < num ((l.drop i).take 4)
    · rw [if_pos h2]
      rw [List.length_drop] at h1
      exact (ctext_form g A n c i l w h B hb (by omega) hnc hn h2).mono fun e w' ⟨he, hw⟩ => ⟨he, ct_same h hw⟩
    · rw [if_neg h2]
      by_cases h3 : (l.drop i).length < 4 + num ((l.drop i).take 4)
      · rw [if_pos h3]
        rw [List.length_drop] at h1 h3
        exact (ctext_less g A n c i l w h B hb (by omega) hnc hn (by omega) (by omega)).mono fun e w' ⟨he, hw⟩ => ⟨he, ct_same h hw⟩
      · rw [if_neg h3]
        rw [List.length_drop] at h1 h3
        have := ctext_ok g A n c i l w h B hb (by omega) hnc hn (by omega) (by omega)
        rw [List.drop_drop]
        rw [Nat.add_assoc] at this
        exact this

end Go.Proofs.Yteohhgkehkmgcaa
