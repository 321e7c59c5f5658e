/- Plain mathematics: numbers as bytes (the lowest first). No condition: no program is in sight. -/
namespace Go.Proofs.Ytkdmfjpfanmgmaa
namespace Le
/-- The n lowest bytes of v, the lowest first. -/
def low : Nat → Nat → List UInt8
  | _, 0 => []
  | v, n + 1 => UInt8.ofNat v :: low (v / 256) n
/-- The number that bytes are, the lowest first. -/
def num : List UInt8 → Nat
  | [] => 0
  | c :: l => c.toNat + 256 * num l

@[simp] theorem low_length (v n : Nat) : (low v n).length = n := by
  induction n generalizing v with
  | zero => rfl
  | succ n ih => simp [low, ih]
theorem num_lt (l : List UInt8) : num l < 256 ^ l.length := by
  induction l with
  | nil => simp [num]
  | cons c l ih => have := c.toNat_lt; simp only [num, List.length_cons, Nat.pow_succ]; omega
theorem num_low (v n : Nat) : num (low v n) = v % 256 ^ n := by
  induction n generalizing v with
  | zero => simp [low, num, Nat.mod_one]
  | succ n ih =>
    simp only [low, num, ih]
    rw [Nat.pow_succ, Nat.mul_comm (256 ^ n) 256, Nat.mod_mul]
    simp
theorem low_num (l : List UInt8) : low (num l) l.length = l := by
  induction l with
  | nil => rfl
  | cons c l ih =>
    have hc := c.toNat_lt
    simp only [List.length_cons, low, num]
    rw [show (c.toNat + 256 * num l) / 256 = num l by omega, ih]
    congr 1
    apply UInt8.toNat_inj.1; simp
theorem low_snoc (v n : Nat) : low v (n + 1) = low v n ++ [UInt8.ofNat (v / 256 ^ n)] := by
  induction n generalizing v with
  | zero => simp [low]
  | succ n ih =>
    rw [low, ih, low]
    simp [Nat.div_div_eq_div_mul, Nat.pow_succ, Nat.mul_comm]
theorem low_mod (v n : Nat) : low (v % 256 ^ n) n = low v n := by
  rw [← num_low v n]
  have := low_num (low v n)
  rwa [low_length] at this
theorem num_snoc (l : List UInt8) (c : UInt8) : num (l ++ [c]) = num l + 256 ^ l.length * c.toNat := by
  induction l with
  | nil => simp [num]
  | cons d l ih => simp only [List.cons_append, num, ih, List.length_cons, Nat.pow_succ]; grind
theorem low_inj {v w n : Nat} (hv : v < 256 ^ n) (hw : w < 256 ^ n) (h : low v n = low w n) : v = w := by
  have := congrArg num h
  rwa [num_low, num_low, Nat.mod_eq_of_lt hv, Nat.mod_eq_of_lt hw] at this
/-- The bits of a byte laid above a number are added. -/
theorem or_shift (a n : Nat) (c : UInt8) (h : a < 256 ^ n) : a ||| (c.toNat <<< (8 * n)) = a + 256 ^ n * c.toNat := by
  have e : (256 : Nat) ^ n = 2 ^ (8 * n) := by rw [Nat.pow_mul]
  rw [e] at h ⊢
  rw [Nat.or_comm, Nat.shiftLeft_eq, Nat.mul_comm c.toNat, ← Nat.two_pow_add_eq_or_of_lt h, Nat.add_comm]
theorem shift_div (v i : Nat) : v >>> (8 * i) = v / 256 ^ i := by rw [Nat.shiftRight_eq_div_pow, Nat.pow_mul]
theorem byte_at (v j : Nat) : (v : Int) / 2 ^ (8 * j) % 256 = ((UInt8.ofNat (v / 256 ^ j)).toNat : Int) := by
  have e : (2 : Int) ^ (8 * j) = ((256 ^ j : Nat) : Int) := by
    rw [Int.pow_mul, Int.natCast_pow]
    rfl
  rw [e, ← Int.natCast_ediv]
  have h2 : (UInt8.ofNat (v / 256 ^ j)).toNat = v / 256 ^ j % 256 := UInt8.toNat_ofNat'
  rw [h2]
  generalize v / 256 ^ j = x
  omega
theorem byte_mod (v j x : Nat) (h : x = v / 256 ^ j) : (x : Int) % 256 = ((UInt8.ofNat (v / 256 ^ j)).toNat : Int) := by
  have h2 : (UInt8.ofNat (v / 256 ^ j)).toNat = v / 256 ^ j % 256 := UInt8.toNat_ofNat'
  rw [h2, ← h]
  omega
theorem div_step {v j x : Nat} (h : x = v / 256 ^ j) : x / 256 = v / 256 ^ (j + 1) := by
  rw [h, Nat.div_div_eq_div_mul, Nat.pow_succ]
end Le
end Go.Proofs.Ytkdmfjpfanmgmaa
