/- Joined by mkmerge.py from the proof's texts Crc. Conditions: each theorem's own hypotheses. -/
namespace Go.Proofs.YtkdmfjpfanmgmaaGreatDoor
namespace Crc
def poly : Nat := 0xedb88320
def bit (n : Nat) : Nat := (n / 2) ^^^ (if n % 2 = 1 then poly else 0)
def tab : List Nat := [0x00000000, 0x1db71064, 0x3b6e20c8, 0x26d930ac, 0x76dc4190, 0x6b6b51f4, 0x4db26158, 0x5005713c, 0xedb88320, 0xf00f9344, 0xd6d6a3e8, 0xcb61b38c, 0x9b64c2b0, 0x86d3d2d4, 0xa00ae278, 0xbdbdf21c]
def nib (n : Nat) : Nat := (n / 16) ^^^ tab.getD (n % 16) 0
theorem bit_xor (a b : Nat) : bit (a ^^^ b) = bit a ^^^ bit b := by
  unfold bit
  have h1 : (a ^^^ b) / 2 = (a / 2) ^^^ (b / 2) := Nat.xor_div_two_pow (n := 1)
  have h2 : (a ^^^ b) % 2 = (a % 2) ^^^ (b % 2) := Nat.xor_mod_two_pow (n := 1)
  rw [h1, h2]
  have ha : a % 2 = 0 ∨ a % 2 = 1 := by omega
  have hb : b % 2 = 0 ∨ b % 2 = 1 := by omega
  rcases ha with ha | ha <;> rcases hb with hb | hb <;> simp [ha, hb]
  · ac_rfl
  · ac_rfl
  · rw [show a / 2 ^^^ poly ^^^ (b / 2 ^^^ poly) = (a / 2 ^^^ b / 2) ^^^ (poly ^^^ poly) by ac_rfl]; simp
theorem bit4_xor (a b : Nat) : bit (bit (bit (bit (a ^^^ b)))) = bit (bit (bit (bit a))) ^^^ bit (bit (bit (bit b))) := by
  rw [bit_xor, bit_xor, bit_xor, bit_xor]
theorem bit_even (n : Nat) : bit (2 * n) = n := by unfold bit; simp
theorem split16 (n : Nat) : n = (16 * (n / 16)) ^^^ (n % 16) := by
  have := Nat.two_pow_add_eq_or_of_lt (i := 4) (b := n % 16) (by omega) (n / 16)
  have h2 : (16 * (n/16)) ^^^ (n % 16) = (16 * (n/16)) ||| (n % 16) := by
    apply Nat.eq_of_testBit_eq
    intro i
    simp only [Nat.testBit_xor, Nat.testBit_or]
    by_cases hi : i < 4
    · have : (16 * (n/16)).testBit i = false := by
        rw [show 16 * (n/16) = 2^4 * (n/16) from rfl, Nat.testBit_two_pow_mul]; simp; omega
      simp [this]
    · have : (n % 16).testBit i = false := by
        apply Nat.testBit_lt_two_pow
        calc n % 16 < 2^4 := by omega
          _ ≤ 2^i := Nat.pow_le_pow_right (by omega) (by omega)
      simp [this]
  rw [h2]
  have e : (16 * (n/16)) = 2^4 * (n/16) := rfl
  rw [e, ← this]; omega
theorem bit4_nib (n : Nat) : bit (bit (bit (bit n))) = nib n := by
  conv => lhs; rw [split16 n]
  rw [bit4_xor]
  have e : bit (bit (bit (bit (16 * (n/16))))) = n / 16 := by
    rw [show 16 * (n/16) = 2 * (2 * (2 * (2 * (n/16)))) by omega, bit_even, bit_even, bit_even, bit_even]
  rw [e]
  unfold nib
  congr 1
  have : n % 16 < 16 := by omega
  generalize n % 16 = m at *
  have : ∀ m, m < 16 → bit (bit (bit (bit m))) = tab.getD m 0 := by decide
  exact this m ‹_›
theorem poly_lt : poly < 2 ^ 32 := by decide
theorem bit_lt {n : Nat} (h : n < 2 ^ 32) : bit n < 2 ^ 32 := by
  unfold bit
  apply Nat.xor_lt_two_pow
  · omega
  · split
    · exact poly_lt
    · decide
def byte (r c : Nat) : Nat := nib (nib (r ^^^ c))
theorem byte_bits (r c : Nat) : byte r c = bit (bit (bit (bit (bit (bit (bit (bit (r ^^^ c)))))))) := by
  unfold byte; rw [← bit4_nib, ← bit4_nib]
theorem byte_lt {r c : Nat} (hr : r < 2 ^ 32) (hc : c < 256) : byte r c < 2 ^ 32 := by
  rw [byte_bits]
  have : r ^^^ c < 2 ^ 32 := Nat.xor_lt_two_pow hr (by omega)
  exact bit_lt (bit_lt (bit_lt (bit_lt (bit_lt (bit_lt (bit_lt (bit_lt this)))))))
/-- The register behind bytes. -/
def reg (r : Nat) (l : List UInt8) : Nat := l.foldl (fun r c => byte r c.toNat) r
theorem reg_lt {r : Nat} (l : List UInt8) (hr : r < 2 ^ 32) : reg r l < 2 ^ 32 := by
  induction l generalizing r with
  | nil => exact hr
  | cons c l ih => exact ih (byte_lt hr c.toNat_lt)
theorem reg_append (r : Nat) (a b : List UInt8) : reg r (a ++ b) = reg (reg r a) b := by simp [reg]
/-- The sum. -/
def sum (l : List UInt8) : Nat := 0xffffffff ^^^ reg 0xffffffff l
theorem sum_lt (l : List UInt8) : sum l < 2 ^ 32 := Nat.xor_lt_two_pow (by decide) (reg_lt l (by decide))
end Crc
end Go.Proofs.YtkdmfjpfanmgmaaGreatDoor
