/- Plain mathematics: the sum of 32 bits, by half bytes and bit by bit; one byte of another value turns it. No condition: no program is in sight. -/
namespace Go.Proofs.YtgfnbfebcejocaaDoor
namespace Crc
def poly : Nat := 0xedb88320
def bit (n : Nat) : Nat := (n / 2) ^^^ (if n % 2 = 1 then poly else 0)
def tab : List Nat := [0x00000000, 0x1db71064, 0x3b6e20c8, 0x26d930ac, 0x76dc4190, 0x6b6b51f4, 0x4db26158, 0x5005713c, 0xedb88320, 0xf00f9344, 0xd6d6a3e8, 0xcb61b38c, 0x9b64c2b0, 0x86d3d2d4, 0xa00ae278, 0xbdbdf21c]
def nib (n : Nat) : Nat := (n / 16) ^^^ tab.getD (n % 16) 0

theorem bit_xor (a b : Nat) : bit (a ^^^ b) = bit a ^^^ bit b := by
  unfold bit
  have h1 : (a ^^^ b) / 2 = (a / 2) ^^^ (b / 2) := Nat.xor_div_two_pow (n := 1)
  have h2 : (a ^^^ b) % 2 = (a % 2) ^^^ (b % 2) := Nat.xor_mod_two_pow (n := 1)
  rw [h1, h2]
  have ha : a % 2 = 0 ∨ a % 2 = 1 := by omega
  have hb : b % 2 = 0 ∨ b % 2 = 1 := by omega
  rcases ha with ha | ha <;> rcases hb with hb | hb <;> simp [ha, hb]
  · ac_rfl
  · ac_rfl
  · rw [show a / 2 ^^^ poly ^^^ (b / 2 ^^^ poly) = (a / 2 ^^^ b / 2) ^^^ (poly ^^^ poly) by ac_rfl]; simp

theorem bit4_xor (a b : Nat) : bit (bit (bit (bit (a ^^^ b)))) = bit (bit (bit (bit a))) ^^^ bit (bit (bit (bit b))) := by
  rw [bit_xor, bit_xor, bit_xor, bit_xor]

theorem bit_even (n : Nat) : bit (2 * n) = n := by unfold bit; simp

theorem split16 (n : Nat) : n = (16 * (n / 16)) ^^^ (n % 16) := by
  have := Nat.two_pow_add_eq_or_of_lt (i := 4) (b := n % 16) (by omega) (n / 16)
  have h2 : (16 * (n/16)) ^^^ (n % 16) = (16 * (n/16)) ||| (n % 16) := by
    apply Nat.eq_of_testBit_eq
    intro i
    simp only [Nat.testBit_xor, Nat.testBit_or]
    by_cases hi : i < 4
    · have : (16 * (n/16)).testBit i = false := by
        rw [show 16 * (n/16) = 2^4 * (n/16) from rfl, Nat.testBit_two_pow_mul]; simp; omega
      simp [this]
    · have : (n % 16).testBit i = false := by
        apply Nat.testBit_lt_two_pow
        calc n % 16 < 2^4 := by omega
          _ ≤ 2^i := Nat.pow_le_pow_right (by omega) (by omega)
      simp [this]
  rw [h2]
  have e : (16 * (n/16)) = 2^4 * (n/16) := rfl
  rw [e, ← this]; omega

theorem bit4_nib (n : Nat) : bit (bit (bit (bit n))) = nib n := by
  conv => lhs; rw [split16 n]
  rw [bit4_xor]
  have e : bit (bit (bit (bit (16 * (n/16))))) = n / 16 := by
    rw [show 16 * (n/16) = 2 * (2 * (2 * (2 * (n/16)))) by omega, bit_even, bit_even, bit_even, bit_even]
  rw [e]
  unfold nib
  congr 1
  have : n % 16 < 16 := by omega
  generalize n % 16 = m at *
  have : ∀ m, m < 16 → bit (bit (bit (bit m))) = tab.getD m 0 := by decide
  exact this m ‹_›

theorem poly_lt : poly < 2 ^ 32 := by decide
theorem bit_lt {n : Nat} (h : n < 2 ^ 32) : bit n < 2 ^ 32 := by
  unfold bit
  apply Nat.xor_lt_two_pow
  · omega
  · split
    · exact poly_lt
    · decide
theorem bit_inj {x y : Nat} (hx : x < 2 ^ 32) (hy : y < 2 ^ 32) (h : bit x = bit y) : x = y := by
  have tx : (x / 2).testBit 31 = false := Nat.testBit_lt_two_pow (by omega)
  have ty : (y / 2).testBit 31 = false := Nat.testBit_lt_two_pow (by omega)
  have tp : poly.testBit 31 = true := by decide
  have hb : (bit x).testBit 31 = (bit y).testBit 31 := by rw [h]
  unfold bit at h hb
  rw [Nat.testBit_xor, Nat.testBit_xor, tx, ty] at hb
  by_cases a : x % 2 = 1 <;> by_cases b : y % 2 = 1 <;> simp [a, b, tp] at hb h
  · have : x / 2 = y / 2 := by
      have h3 : (x / 2 ^^^ poly) ^^^ poly = (y / 2 ^^^ poly) ^^^ poly := by rw [h]
      simpa [Nat.xor_assoc] using h3
    omega
  · omega

def byte (r c : Nat) : Nat := nib (nib (r ^^^ c))
theorem byte_bits (r c : Nat) : byte r c = bit (bit (bit (bit (bit (bit (bit (bit (r ^^^ c)))))))) := by
  unfold byte; rw [← bit4_nib, ← bit4_nib]
theorem byte_lt {r c : Nat} (hr : r < 2 ^ 32) (hc : c < 256) : byte r c < 2 ^ 32 := by
  rw [byte_bits]
  have : r ^^^ c < 2 ^ 32 := Nat.xor_lt_two_pow hr (by omega)
  exact bit_lt (bit_lt (bit_lt (bit_lt (bit_lt (bit_lt (bit_lt (bit_lt this)))))))
theorem byte_inj {x y : Nat} (hx : x < 2 ^ 32) (hy : y < 2 ^ 32) (h : nib (nib x) = nib (nib y)) : x = y := by
  rw [← bit4_nib, ← bit4_nib, ← bit4_nib (nib y), ← bit4_nib y] at h
  have h1 := fun {z : Nat} (hz : z < 2 ^ 32) => bit_lt hz
  exact bit_inj hx hy (bit_inj (h1 hx) (h1 hy) (bit_inj (h1 (h1 hx)) (h1 (h1 hy)) (bit_inj (h1 (h1 (h1 hx))) (h1 (h1 (h1 hy)))
    (bit_inj (h1 (h1 (h1 (h1 hx)))) (h1 (h1 (h1 (h1 hy)))) (bit_inj (h1 (h1 (h1 (h1 (h1 hx))))) (h1 (h1 (h1 (h1 (h1 hy)))))
      (bit_inj (h1 (h1 (h1 (h1 (h1 (h1 hx)))))) (h1 (h1 (h1 (h1 (h1 (h1 hy))))))
        (bit_inj (h1 (h1 (h1 (h1 (h1 (h1 (h1 hx))))))) (h1 (h1 (h1 (h1 (h1 (h1 (h1 hy)))))))  h)))))))

/-- The register behind bytes. -/
def reg (r : Nat) (l : List UInt8) : Nat := l.foldl (fun r c => byte r c.toNat) r
theorem reg_lt {r : Nat} (l : List UInt8) (hr : r < 2 ^ 32) : reg r l < 2 ^ 32 := by
  induction l generalizing r with
  | nil => exact hr
  | cons c l ih => exact ih (byte_lt hr c.toNat_lt)
theorem reg_inj {x y : Nat} (l : List UInt8) (hx : x < 2 ^ 32) (hy : y < 2 ^ 32) (h : reg x l = reg y l) : x = y := by
  induction l generalizing x y with
  | nil => exact h
  | cons c l ih =>
    have hc : c.toNat < 2 ^ 32 := Nat.lt_trans c.toNat_lt (by decide)
    have h2 : byte x c.toNat = byte y c.toNat := ih (byte_lt hx c.toNat_lt) (byte_lt hy c.toNat_lt) h
    have h3 := byte_inj (Nat.xor_lt_two_pow hx hc) (Nat.xor_lt_two_pow hy hc) h2
    have h4 : (x ^^^ c.toNat) ^^^ c.toNat = (y ^^^ c.toNat) ^^^ c.toNat := by rw [h3]
    simpa [Nat.xor_assoc] using h4
theorem reg_append (r : Nat) (a b : List UInt8) : reg r (a ++ b) = reg (reg r a) b := by simp [reg]
theorem reg_one {r : Nat} (a b : List UInt8) (c d : UInt8) (hr : r < 2 ^ 32) (h : reg r (a ++ c :: b) = reg r (a ++ d :: b)) : c = d := by
  rw [reg_append, reg_append] at h
  have ha := reg_lt a hr
  have hc : c.toNat < 2 ^ 32 := Nat.lt_trans c.toNat_lt (by decide)
  have hd : d.toNat < 2 ^ 32 := Nat.lt_trans d.toNat_lt (by decide)
  have h2 : byte (reg r a) c.toNat = byte (reg r a) d.toNat := reg_inj b (byte_lt ha c.toNat_lt) (byte_lt ha d.toNat_lt) h
  have h3 := byte_inj (Nat.xor_lt_two_pow ha hc) (Nat.xor_lt_two_pow ha hd) h2
  have h4 : reg r a ^^^ (reg r a ^^^ c.toNat) = reg r a ^^^ (reg r a ^^^ d.toNat) := by rw [h3]
  rw [← Nat.xor_assoc, ← Nat.xor_assoc] at h4
  simp at h4
  exact UInt8.toNat_inj.1 h4
/-- The sum. -/
def sum (l : List UInt8) : Nat := 0xffffffff ^^^ reg 0xffffffff l
theorem sum_lt (l : List UInt8) : sum l < 2 ^ 32 := Nat.xor_lt_two_pow (by decide) (reg_lt l (by decide))
theorem sum_one (a b : List UInt8) (c d : UInt8) (h : sum (a ++ c :: b) = sum (a ++ d :: b)) : c = d := by
  unfold sum at h
  have h4 : ∀ x : Nat, 0xffffffff ^^^ (0xffffffff ^^^ x) = x := fun x => by rw [← Nat.xor_assoc]; simp
  have h5 := congrArg (0xffffffff ^^^ ·) h
  simp only [h4] at h5
  exact reg_one a b c d (by decide) h5
end Crc
end Go.Proofs.YtgfnbfebcejocaaDoor
