/- Joined by mkmerge.py from the proof's texts Le, Lay, Lay2, Lay3, Lay4, Lay5, Shapes, Fold0. Conditions: each theorem's own hypotheses. -/
namespace Go.Proofs.YtkdmfjpfanmgmaaGreatDoor
namespace Le
/-- The n lowest bytes of v, the lowest first. -/
def low : Nat → Nat → List UInt8
  | _, 0 => []
  | v, n + 1 => UInt8.ofNat v :: low (v / 256) n
/-- The number that bytes are, the lowest first. -/
def num : List UInt8 → Nat
  | [] => 0
  | c :: l => c.toNat + 256 * num l
@[simp] theorem low_length (v n : Nat) : (low v n).length = n := by
  induction n generalizing v with
  | zero => rfl
  | succ n ih => simp [low, ih]
theorem num_lt (l : List UInt8) : num l < 256 ^ l.length := by
  induction l with
  | nil => simp [num]
  | cons c l ih => have := c.toNat_lt; simp only [num, List.length_cons, Nat.pow_succ]; omega
theorem num_low (v n : Nat) : num (low v n) = v % 256 ^ n := by
  induction n generalizing v with
  | zero => simp [low, num, Nat.mod_one]
  | succ n ih =>
    simp only [low, num, ih]
    rw [Nat.pow_succ, Nat.mul_comm (256 ^ n) 256, Nat.mod_mul]
    simp
theorem low_num (l : List UInt8) : low (num l) l.length = l := by
  induction l with
  | nil => rfl
  | cons c l ih =>
    have hc := c.toNat_lt
    simp only [List.length_cons, low, num]
    rw [show (c.toNat + 256 * num l) / 256 = num l by omega, ih]
    congr 1
    apply UInt8.toNat_inj.1; simp
theorem low_snoc (v n : Nat) : low v (n + 1) = low v n ++ [UInt8.ofNat (v / 256 ^ n)] := by
  induction n generalizing v with
  | zero => simp [low]
  | succ n ih =>
    rw [low, ih, low]
    simp [Nat.div_div_eq_div_mul, Nat.pow_succ, Nat.mul_comm]
theorem num_snoc (l : List UInt8) (c : UInt8) : num (l ++ [c]) = num l + 256 ^ l.length * c.toNat := by
  induction l with
  | nil => simp [num]
  | cons d l ih => simp only [List.cons_append, num, ih, List.length_cons, Nat.pow_succ]; grind
/-- The bits of a byte laid above a number are added. -/
theorem or_shift (a n : Nat) (c : UInt8) (h : a < 256 ^ n) : a ||| (c.toNat <<< (8 * n)) = a + 256 ^ n * c.toNat := by
  have e : (256 : Nat) ^ n = 2 ^ (8 * n) := by rw [Nat.pow_mul]
  rw [e] at h ⊢
  rw [Nat.or_comm, Nat.shiftLeft_eq, Nat.mul_comm c.toNat, ← Nat.two_pow_add_eq_or_of_lt h, Nat.add_comm]
theorem byte_at (v j : Nat) : (v : Int) / 2 ^ (8 * j) % 256 = ((UInt8.ofNat (v / 256 ^ j)).toNat : Int) := by
  have e : (2 : Int) ^ (8 * j) = ((256 ^ j : Nat) : Int) := by
    rw [Int.pow_mul, Int.natCast_pow]
    rfl
  rw [e, ← Int.natCast_ediv]
  have h2 : (UInt8.ofNat (v / 256 ^ j)).toNat = v / 256 ^ j % 256 := UInt8.toNat_ofNat'
  rw [h2]
  generalize v / 256 ^ j = x
  omega
end Le
end Go.Proofs.YtkdmfjpfanmgmaaGreatDoor
namespace Go.Proofs.YtkdmfjpfanmgmaaGreatDoor
open Le
/-- A field's shape: a number, a whole number, a text, a flag, a list of things of such fields. -/
inductive Sh where
  | num | whole | text | flag
  | rows (l : List Sh)
/-- What a field holds. -/
inductive Da where
  | int (n : Int)
  | text (b : List UInt8)
  | flag (b : Bool)
  | rows (l : List (List Da))
/-- The bytes that are laid, and the first error. -/
abbrev St := List UInt8 × Nat
def u64w (n : Int) : Nat := (n % 18446744073709551616).toNat
def i64w (v : Nat) : Int := if v < 9223372036854775808 then (v : Int) else (v : Int) - 18446744073709551616
def St.put (s : St) (b : List UInt8) : St := (s.1 ++ b, s.2)
def St.fail (s : St) (e : Nat) : St := (s.1, if s.2 = 0 then e else s.2)
/-- Errors: 1 an argument (ErrArg), 2 a limit (ErrLimit). -/
def layNum (n : Int) (s : St) : St := if 0 ≤ n ∧ n ≤ 1000000000 then s.put (low n.toNat 4) else s.fail 1
def layText (b : List UInt8) (s : St) : St := if b.length ≤ 65536 then s.put (low b.length 4 ++ b) else s.fail 2
def layWhole (n : Int) (s : St) : St := s.put (low (u64w n) 8)
def layFlag (b : Bool) (s : St) : St := s.put [if b then 1 else 0]
def layMany (n : Nat) (s : St) : St := if n ≤ 4096 then layNum n s else s.fail 2
mutual
def lay : Sh → Da → St → St
  | .num, .int n, s => layNum n s
  | .whole, .int n, s => layWhole n s
  | .text, .text b, s => layText b s
  | .flag, .flag b, s => layFlag b s
  | .rows l, .rows ds, s => if s.2 = 0 then (if ds.length ≤ 4096 then ds.foldl (fun s d => lays l d s) (layNum ds.length s) else s.fail 2) else s
  | _, _, s => s
def lays : List Sh → List Da → St → St
  | a :: l, d :: ds, s => lays l ds (lay a d s)
  | _, _, s => s
end
/-- A list of n things, each by f. -/
def iter {α : Type} (f : List UInt8 → Option (α × List UInt8)) : Nat → List UInt8 → Option (List α × List UInt8)
  | 0, l => some ([], l)
  | n + 1, l => (f l).bind fun x => (iter f n x.2).bind fun y => some (x.1 :: y.1, y.2)
def rdNum (l : List UInt8) : Option (Nat × List UInt8) := if l.length < 4 then none else if 1000000000 < num (l.take 4) then none else some (num (l.take 4), l.drop 4)
def rdWhole (l : List UInt8) : Option (Int × List UInt8) := if l.length < 8 then none else some (i64w (num (l.take 8)), l.drop 8)
def rdTx (l : List UInt8) : Option (List UInt8 × List UInt8) :=
  if l.length < 4 then none else if 65536 < num (l.take 4) then none else if l.length < 4 + num (l.take 4) then none
  else some ((l.drop 4).take (num (l.take 4)), l.drop (4 + num (l.take 4)))
def rdFlag : List UInt8 → Option (Bool × List UInt8)
  | [] => none
  | c :: l => if c.toNat ≤ 1 then some (c.toNat == 1, l) else none
mutual
def rd : Sh → List UInt8 → Option (Da × List UInt8)
  | .num, l => (rdNum l).bind fun x => some (.int x.1, x.2)
  | .whole, l => (rdWhole l).bind fun x => some (.int x.1, x.2)
  | .text, l => (rdTx l).bind fun x => some (.text x.1, x.2)
  | .flag, l => (rdFlag l).bind fun x => some (.flag x.1, x.2)
  | .rows sh, l => (rdNum l).bind fun x => if x.1 ≤ 4096 then (iter (rds sh) x.1 x.2).bind fun y => some (.rows y.1, y.2) else none
def rds : List Sh → List UInt8 → Option (List Da × List UInt8)
  | [], l => some ([], l)
  | a :: sh, l => (rd a l).bind fun x => (rds sh x.2).bind fun y => some (x.1 :: y.1, y.2)
end
end Go.Proofs.YtkdmfjpfanmgmaaGreatDoor
namespace Go.Proofs.YtkdmfjpfanmgmaaGreatDoor
open Le
theorem St.fail_ne {s : St} (h : s.2 ≠ 0) (e : Nat) : (s.fail e).2 = s.2 := by simp [St.fail, h]
theorem layNum_err {s : St} (h : s.2 ≠ 0) (n : Int) : (layNum n s).2 = s.2 := by
  unfold layNum
  split
  · rfl
  · exact St.fail_ne h _
theorem layText_err {s : St} (h : s.2 ≠ 0) (b : List UInt8) : (layText b s).2 = s.2 := by
  unfold layText
  split
  · rfl
  · exact St.fail_ne h _
mutual
/-- An error sticks. -/
theorem lay_err : ∀ (a : Sh) (d : Da) (s : St), s.2 ≠ 0 → (lay a d s).2 = s.2
  | .num, .int n, s, h => layNum_err h n
  | .whole, .int n, s, h => rfl
  | .text, .text b, s, h => layText_err h b
  | .flag, .flag b, s, h => rfl
  | .rows l, .rows ds, s, h => by simp [lay, h]
  | .num, .text _, s, h => rfl
  | .num, .flag _, s, h => rfl
  | .num, .rows _, s, h => rfl
  | .whole, .text _, s, h => rfl
  | .whole, .flag _, s, h => rfl
  | .whole, .rows _, s, h => rfl
  | .text, .int _, s, h => rfl
  | .text, .flag _, s, h => rfl
  | .text, .rows _, s, h => rfl
  | .flag, .int _, s, h => rfl
  | .flag, .text _, s, h => rfl
  | .flag, .rows _, s, h => rfl
  | .rows _, .int _, s, h => rfl
  | .rows _, .text _, s, h => rfl
  | .rows _, .flag _, s, h => rfl
theorem lays_err : ∀ (l : List Sh) (ds : List Da) (s : St), s.2 ≠ 0 → (lays l ds s).2 = s.2
  | [], _, s, h => by simp [lays]
  | _ :: _, [], s, h => by simp [lays]
  | a :: l, d :: ds, s, h => by
    have h1 := lay_err a d s h
    have h2 := lays_err l ds (lay a d s) (by rw [h1]; exact h)
    simp only [lays]
    rw [h2, h1]
end
theorem fold_err (l : List Sh) (ds : List (List Da)) (s : St) (h : s.2 ≠ 0) : (ds.foldl (fun s d => lays l d s) s).2 = s.2 := by
  induction ds generalizing s with
  | nil => rfl
  | cons d ds ih =>
    have h1 := lays_err l d s h
    simp only [List.foldl_cons]
    rw [ih _ (by rw [h1]; exact h), h1]
/-- Bytes only grow. -/
def Grows (s s' : St) : Prop := ∃ p, s'.1 = s.1 ++ p
theorem Grows.refl (s : St) : Grows s s := ⟨[], by simp⟩
theorem Grows.trans {a b c : St} (h : Grows a b) (g : Grows b c) : Grows a c := by
  obtain ⟨p, hp⟩ := h
  obtain ⟨q, hq⟩ := g
  exact ⟨p ++ q, by rw [hq, hp, List.append_assoc]⟩
theorem Grows.le {a b : St} (h : Grows a b) : a.1.length ≤ b.1.length := by
  obtain ⟨p, hp⟩ := h
  rw [hp, List.length_append]
  omega
theorem grows_put (s : St) (b : List UInt8) : Grows s (s.put b) := ⟨b, rfl⟩
theorem grows_fail (s : St) (e : Nat) : Grows s (s.fail e) := ⟨[], by simp [St.fail]⟩
theorem grows_num (n : Int) (s : St) : Grows s (layNum n s) := by
  unfold layNum
  split
  · exact grows_put _ _
  · exact grows_fail _ _
theorem grows_text (b : List UInt8) (s : St) : Grows s (layText b s) := by
  unfold layText
  split
  · exact grows_put _ _
  · exact grows_fail _ _
theorem grows_fold (l : List Sh) (hl : ∀ ds s, Grows s (lays l ds s)) (ds : List (List Da)) (s : St) : Grows s (ds.foldl (fun s d => lays l d s) s) := by
  induction ds generalizing s with
  | nil => exact Grows.refl s
  | cons d ds ih => exact (hl d s).trans (ih _)
mutual
theorem lay_grows : ∀ (a : Sh) (d : Da) (s : St), Grows s (lay a d s)
  | .num, .int n, s => grows_num n s
  | .whole, .int n, s => grows_put _ _
  | .text, .text b, s => grows_text b s
  | .flag, .flag b, s => grows_put _ _
  | .rows l, .rows ds, s => by
    simp only [lay]
    split
    · split
      · exact (grows_num _ s).trans (grows_fold l (fun ds s => lays_grows l ds s) ds _)
      · exact grows_fail _ _
    · exact Grows.refl s
  | .num, .text _, s => Grows.refl s
  | .num, .flag _, s => Grows.refl s
  | .num, .rows _, s => Grows.refl s
  | .whole, .text _, s => Grows.refl s
  | .whole, .flag _, s => Grows.refl s
  | .whole, .rows _, s => Grows.refl s
  | .text, .int _, s => Grows.refl s
  | .text, .flag _, s => Grows.refl s
  | .text, .rows _, s => Grows.refl s
  | .flag, .int _, s => Grows.refl s
  | .flag, .text _, s => Grows.refl s
  | .flag, .rows _, s => Grows.refl s
  | .rows _, .int _, s => Grows.refl s
  | .rows _, .text _, s => Grows.refl s
  | .rows _, .flag _, s => Grows.refl s
theorem lays_grows : ∀ (l : List Sh) (ds : List Da) (s : St), Grows s (lays l ds s)
  | [], _, s => by simp only [lays]; exact Grows.refl s
  | _ :: _, [], s => by simp only [lays]; exact Grows.refl s
  | a :: l, d :: ds, s => by
    simp only [lays]
    exact (lay_grows a d s).trans (lays_grows l ds _)
end
end Go.Proofs.YtkdmfjpfanmgmaaGreatDoor
namespace Go.Proofs.YtkdmfjpfanmgmaaGreatDoor
open Le
theorem low_take {l : List UInt8} {k : Nat} (h : k ≤ l.length) : low (num (l.take k)) k = l.take k := by
  have := low_num (l.take k)
  rwa [List.length_take, Nat.min_eq_left h] at this
theorem layNum_take (l : List UInt8) (h : 4 ≤ l.length) (hv : num (l.take 4) ≤ 1000000000) (B : List UInt8) : layNum (num (l.take 4)) (B, 0) = (B ++ l.take 4, 0) := by
  unfold layNum
  rw [if_pos ⟨by omega, by omega⟩, Int.toNat_natCast, low_take h]
  rfl
theorem rdNum_some {l r : List UInt8} {n : Nat} (h : rdNum l = some (n, r)) : l = l.take 4 ++ r ∧ n = num (l.take 4) ∧ n ≤ 1000000000 ∧ 4 ≤ l.length := by
  unfold rdNum at h
  split at h
  · cases h
  · split at h
    · cases h
    · cases h
      exact ⟨by simp, rfl, by omega, by omega⟩
theorem rdWhole_some {l r : List UInt8} {n : Int} (h : rdWhole l = some (n, r)) : l = l.take 8 ++ r ∧ n = i64w (num (l.take 8)) ∧ 8 ≤ l.length := by
  unfold rdWhole at h
  split at h
  · cases h
  · cases h
    exact ⟨by simp, rfl, by omega⟩
theorem u64w_i64w (v : Nat) (h : v < 18446744073709551616) : u64w (i64w v) = v := by
  unfold u64w i64w
  split <;> omega
theorem rdTx_some {l r b : List UInt8} (h : rdTx l = some (b, r)) : l = l.take 4 ++ (b ++ r) ∧ b.length = num (l.take 4) ∧ b.length ≤ 65536 ∧ 4 ≤ l.length := by
  unfold rdTx at h
  split at h
  · cases h
  · split at h
    · cases h
    · split at h
      · cases h
      · cases h
        have hb : ((l.drop 4).take (num (l.take 4))).length = num (l.take 4) := by rw [List.length_take, List.length_drop]; omega
        have e : l = l.take 4 ++ l.drop 4 := (List.take_append_drop 4 l).symm
        have e2 : l.drop 4 = (l.drop 4).take (num (l.take 4)) ++ l.drop (4 + num (l.take 4)) := by
          rw [← List.drop_drop, List.take_append_drop]
        exact ⟨e.trans (congrArg (l.take 4 ++ ·) e2), hb, by omega, by omega⟩
theorem rdFlag_some {l r : List UInt8} {b : Bool} (h : rdFlag l = some (b, r)) : l = [if b then 1 else 0] ++ r := by
  cases l with
  | nil => cases h
  | cons c l =>
    by_cases hc : c.toNat ≤ 1
    · have h' : (if c.toNat ≤ 1 then some (c.toNat == 1, l) else none) = some (b, r) := h
      rw [if_pos hc] at h'
      cases h'
      have h01 : c.toNat = 0 ∨ c.toNat = 1 := by omega
      rcases h01 with h0 | h1
      · have : c = 0 := UInt8.toNat_inj.1 h0
        subst this
        rfl
      · have : c = 1 := UInt8.toNat_inj.1 h1
        subst this
        rfl
    · have h' : (if c.toNat ≤ 1 then some (c.toNat == 1, l) else none) = some (b, r) := h
      rw [if_neg hc] at h'
      cases h'
theorem iter_lay (sh : List Sh) (h : ∀ l ds r, rds sh l = some (ds, r) → ∃ p, l = p ++ r ∧ ∀ B, lays sh ds (B, 0) = (B ++ p, 0)) :
    ∀ (n : Nat) (l : List UInt8) (ys : List (List Da)) (r : List UInt8), iter (rds sh) n l = some (ys, r) → ys.length = n ∧ ∃ p, l = p ++ r ∧ ∀ B, ys.foldl (fun s d => lays sh d s) (B, 0) = (B ++ p, 0) := by
  intro n
  induction n with
  | zero =>
    intro l ys r he
    simp only [iter] at he
    cases he
    exact ⟨rfl, [], rfl, fun B => by simp⟩
  | succ n ih =>
    intro l ys r he
    simp only [iter] at he
    obtain ⟨⟨d, l1⟩, h1, he⟩ := Option.bind_eq_some_iff.1 he
    obtain ⟨⟨ds, l2⟩, h2, he⟩ := Option.bind_eq_some_iff.1 he
    cases he
    obtain ⟨p, hp, hB⟩ := h l d l1 h1
    obtain ⟨hn, q, hq, hB2⟩ := ih l1 ds l2 h2
    refine ⟨by simp [hn], p ++ q, by rw [hp, hq, List.append_assoc], fun B => ?_⟩
    simp only [List.foldl_cons]
    rw [hB, hB2, List.append_assoc]
mutual
theorem rd_lay : ∀ (sh : Sh) (l : List UInt8) (d : Da) (r : List UInt8), rd sh l = some (d, r) → ∃ p, l = p ++ r ∧ ∀ B, lay sh d (B, 0) = (B ++ p, 0)
  | .num, l, d, r, h => by
    simp only [rd] at h
    obtain ⟨⟨n, r1⟩, h1, h2⟩ := Option.bind_eq_some_iff.1 h
    cases h2
    obtain ⟨e1, e2, e3, e4⟩ := rdNum_some h1
    subst e2
    exact ⟨_, e1, fun B => layNum_take l e4 e3 B⟩
  | .whole, l, d, r, h => by
    simp only [rd] at h
    obtain ⟨⟨n, r1⟩, h1, h2⟩ := Option.bind_eq_some_iff.1 h
    cases h2
    obtain ⟨e1, e2, e3⟩ := rdWhole_some h1
    subst e2
    refine ⟨_, e1, fun B => ?_⟩
    simp only [lay, layWhole, St.put]
    have hlt : num (l.take 8) < 18446744073709551616 := by
      have := num_lt (l.take 8)
      rwa [List.length_take, Nat.min_eq_left e3] at this
    rw [u64w_i64w _ hlt, low_take e3]
  | .text, l, d, r, h => by
    simp only [rd] at h
    obtain ⟨⟨b, r1⟩, h1, h2⟩ := Option.bind_eq_some_iff.1 h
    cases h2
    obtain ⟨e1, e2, e3, e4⟩ := rdTx_some h1
    refine ⟨l.take 4 ++ b, by rw [List.append_assoc]; exact e1, fun B => ?_⟩
    simp only [lay, layText, St.put]
    rw [if_pos e3, e2, low_take e4]
  | .flag, l, d, r, h => by
    simp only [rd] at h
    obtain ⟨⟨b, r1⟩, h1, h2⟩ := Option.bind_eq_some_iff.1 h
    cases h2
    exact ⟨_, rdFlag_some h1, fun B => rfl⟩
  | .rows sh, l, d, r, h => by
    simp only [rd] at h
    obtain ⟨⟨n, r1⟩, h1, h2⟩ := Option.bind_eq_some_iff.1 h
    dsimp only at h2
    split at h2
    · rename_i hn
      obtain ⟨⟨ys, r2⟩, h3, h4⟩ := Option.bind_eq_some_iff.1 h2
      cases h4
      obtain ⟨e1, e2, e3, e4⟩ := rdNum_some h1
      obtain ⟨hy, p, hp, hB⟩ := iter_lay sh (fun l ds r => rds_lay sh l ds r) n r1 ys r2 h3
      refine ⟨l.take 4 ++ p, by rw [List.append_assoc, ← hp]; exact e1, fun B => ?_⟩
      simp only [lay, if_true]
      rw [if_pos (by omega), hy, e2, layNum_take l e4 (by omega), hB, List.append_assoc]
    · cases h2
theorem rds_lay : ∀ (sh : List Sh) (l : List UInt8) (ds : List Da) (r : List UInt8), rds sh l = some (ds, r) → ∃ p, l = p ++ r ∧ ∀ B, lays sh ds (B, 0) = (B ++ p, 0)
  | [], l, ds, r, h => by
    simp only [rds] at h
    cases h
    exact ⟨[], rfl, fun B => by simp [lays]⟩
  | a :: sh, l, ds, r, h => by
    simp only [rds] at h
    obtain ⟨⟨d, l1⟩, h1, h⟩ := Option.bind_eq_some_iff.1 h
    obtain ⟨⟨ds1, l2⟩, h2, h⟩ := Option.bind_eq_some_iff.1 h
    cases h
    obtain ⟨p, hp, hB⟩ := rd_lay a l d l1 h1
    obtain ⟨q, hq, hB2⟩ := rds_lay sh l1 ds1 l2 h2
    refine ⟨p ++ q, by rw [hp, hq, List.append_assoc], fun B => ?_⟩
    simp only [lays]
    rw [hB, hB2, List.append_assoc]
end
end Go.Proofs.YtkdmfjpfanmgmaaGreatDoor
namespace Go.Proofs.YtkdmfjpfanmgmaaGreatDoor
open Le
mutual
/-- A field's datum is of its shape. -/
def Fits : Sh → Da → Prop
  | .num, .int _ => True
  | .whole, .int n => -9223372036854775808 ≤ n ∧ n ≤ 9223372036854775807
  | .text, .text _ => True
  | .flag, .flag _ => True
  | .rows l, .rows ds => ∀ d ∈ ds, Fitss l d
  | _, _ => False
def Fitss : List Sh → List Da → Prop
  | [], [] => True
  | a :: l, d :: ds => Fits a d ∧ Fitss l ds
  | _, _ => False
end
theorem layNum_zero {n : Int} {B : List UInt8} (h : (layNum n (B, 0)).2 = 0) : 0 ≤ n ∧ n ≤ 1000000000 ∧ ∀ B' : List UInt8, layNum n (B', 0) = (B' ++ low n.toNat 4, 0) := by
  by_cases hn : 0 ≤ n ∧ n ≤ 1000000000
  · refine ⟨hn.1, hn.2, fun B' => ?_⟩
    unfold layNum
    rw [if_pos hn]
    rfl
  · unfold layNum at h
    rw [if_neg hn] at h
    simp [St.fail] at h
theorem rdNum_low (n : Nat) (h : n ≤ 1000000000) (r : List UInt8) : rdNum (low n 4 ++ r) = some (n, r) := by
  unfold rdNum
  have e : (low n 4 ++ r).take 4 = low n 4 := List.take_left' (by simp)
  rw [e, num_low, Nat.mod_eq_of_lt (by omega), if_neg (by simp), if_neg (by omega), List.drop_left' (by simp)]
theorem rdWhole_low (n : Int) (h : -9223372036854775808 ≤ n ∧ n ≤ 9223372036854775807) (r : List UInt8) : rdWhole (low (u64w n) 8 ++ r) = some (n, r) := by
  unfold rdWhole
  have e : (low (u64w n) 8 ++ r).take 8 = low (u64w n) 8 := List.take_left' (by simp)
  have hu : u64w n < 18446744073709551616 := by unfold u64w; omega
  have hi : i64w (u64w n) = n := by unfold i64w u64w; split <;> omega
  rw [e, num_low, Nat.mod_eq_of_lt (by simpa using hu), if_neg (by simp), List.drop_left' (by simp), hi]
theorem rdTx_low (b : List UInt8) (h : b.length ≤ 65536) (r : List UInt8) : rdTx (low b.length 4 ++ b ++ r) = some (b, r) := by
  unfold rdTx
  have e : (low b.length 4 ++ b ++ r).take 4 = low b.length 4 := by rw [List.append_assoc, List.take_left' (by simp)]
  have e2 : (low b.length 4 ++ b ++ r).drop 4 = b ++ r := by rw [List.append_assoc, List.drop_left' (by simp)]
  have e3 : num (low b.length 4) = b.length := by rw [num_low, Nat.mod_eq_of_lt (by omega)]
  rw [e, e3, if_neg (by simp), if_neg (by omega), if_neg (by simp), e2, ← List.drop_drop, e2, List.take_left' rfl, List.drop_left' rfl]
theorem rdFlag_low (b : Bool) (r : List UInt8) : rdFlag ([if b then 1 else 0] ++ r) = some (b, r) := by cases b <;> rfl
theorem fold_rd (sh : List Sh) (h : ∀ ds B C, Fitss sh ds → lays sh ds (B, 0) = (C, 0) → ∃ p, (∀ B', lays sh ds (B', 0) = (B' ++ p, 0)) ∧ ∀ r, rds sh (p ++ r) = some (ds, r)) :
    ∀ (ys : List (List Da)) (B C : List UInt8), (∀ d ∈ ys, Fitss sh d) → ys.foldl (fun s d => lays sh d s) (B, 0) = (C, 0) →
      ∃ p, (∀ B' : List UInt8, ys.foldl (fun s d => lays sh d s) (B', 0) = (B' ++ p, 0)) ∧ ∀ r, iter (rds sh) ys.length (p ++ r) = some (ys, r) := by
  intro ys
  induction ys with
  | nil =>
    intro B C _ he
    exact ⟨[], fun B' => by simp, fun r => by simp [iter]⟩
  | cons d ds ih =>
    intro B C hf he
    simp only [List.foldl_cons] at he
    have hz : (lays sh d (B, 0)).2 = 0 := by
      rcases Nat.eq_zero_or_pos (lays sh d (B, 0)).2 with h0 | h0
      · exact h0
      · have h1 := fold_err sh ds (lays sh d (B, 0)) (by omega)
        rw [he] at h1
        simp only at h1
        omega
    have e1 : lays sh d (B, 0) = ((lays sh d (B, 0)).1, 0) := Prod.ext rfl hz
    obtain ⟨p, hp, hr⟩ := h d B _ (hf d (by simp)) e1
    rw [hp] at he
    obtain ⟨q, hq, hr2⟩ := ih _ _ (fun x hx => hf x (by simp [hx])) he
    refine ⟨p ++ q, fun B' => ?_, fun r => ?_⟩
    · simp only [List.foldl_cons]
      rw [hp, hq, List.append_assoc]
    · simp only [List.length_cons, iter]
      rw [List.append_assoc, hr]
      simp only [Option.bind_some]
      rw [hr2]
      rfl
mutual
theorem lay_rd : ∀ (sh : Sh) (d : Da) (B C : List UInt8), Fits sh d → lay sh d (B, 0) = (C, 0) → ∃ p, (∀ B', lay sh d (B', 0) = (B' ++ p, 0)) ∧ ∀ r, rd sh (p ++ r) = some (d, r)
  | .num, .int n, B, C, _, h => by
    simp only [lay] at h
    obtain ⟨h0, h1, h2⟩ := layNum_zero (B := B) (by rw [h])
    refine ⟨low n.toNat 4, fun B' => by simp only [lay]; exact h2 B', fun r => ?_⟩
    simp only [rd]
    rw [rdNum_low _ (by omega)]
    simp only [Option.bind_some]
    rw [Int.toNat_of_nonneg h0]
  | .whole, .int n, B, C, hf, h => by
    simp only [Fits] at hf
    refine ⟨low (u64w n) 8, fun B' => rfl, fun r => ?_⟩
    simp only [rd]
    rw [rdWhole_low n hf]
    rfl
  | .text, .text b, B, C, _, h => by
    have hb : b.length ≤ 65536 := by
      rcases Nat.lt_or_ge 65536 b.length with h1 | h1
      · simp only [lay, layText] at h
        rw [if_neg (by omega)] at h
        simp [St.fail] at h
      · exact h1
    refine ⟨low b.length 4 ++ b, fun B' => by simp only [lay, layText]; rw [if_pos hb]; rfl, fun r => ?_⟩
    simp only [rd]
    rw [rdTx_low b hb]
    rfl
  | .flag, .flag b, B, C, _, h => by
    refine ⟨[if b then 1 else 0], fun B' => rfl, fun r => ?_⟩
    simp only [rd]
    rw [rdFlag_low]
    rfl
  | .rows l, .rows ds, B, C, hf, h => by
    simp only [Fits] at hf
    simp only [lay, if_true] at h
    have hl : ds.length ≤ 4096 := by
      rcases Nat.lt_or_ge 4096 ds.length with h1 | h1
      · rw [if_neg (by omega)] at h
        simp [St.fail] at h
      · exact h1
    rw [if_pos hl] at h
    have hz : (layNum ds.length (B, 0)).2 = 0 := by unfold layNum; rw [if_pos ⟨by omega, by omega⟩]; rfl
    obtain ⟨_, _, h2⟩ := layNum_zero hz
    rw [h2] at h
    obtain ⟨p, hp, hr⟩ := fold_rd l (fun ds B C => lays_rd l ds B C) ds _ _ hf h
    refine ⟨low ds.length 4 ++ p, fun B' => ?_, fun r => ?_⟩
    · simp only [lay, if_true]
      rw [if_pos hl, h2, hp, List.append_assoc]
      rfl
    · simp only [rd]
      rw [List.append_assoc, rdNum_low _ (by omega)]
      simp only [Option.bind_some]
      rw [if_pos hl, hr]
      rfl
  | .num, .text _, B, C, hf, h => absurd hf (by simp [Fits])
  | .num, .flag _, B, C, hf, h => absurd hf (by simp [Fits])
  | .num, .rows _, B, C, hf, h => absurd hf (by simp [Fits])
  | .whole, .text _, B, C, hf, h => absurd hf (by simp [Fits])
  | .whole, .flag _, B, C, hf, h => absurd hf (by simp [Fits])
  | .whole, .rows _, B, C, hf, h => absurd hf (by simp [Fits])
  | .text, .int _, B, C, hf, h => absurd hf (by simp [Fits])
  | .text, .flag _, B, C, hf, h => absurd hf (by simp [Fits])
  | .text, .rows _, B, C, hf, h => absurd hf (by simp [Fits])
  | .flag, .int _, B, C, hf, h => absurd hf (by simp [Fits])
  | .flag, .text _, B, C, hf, h => absurd hf (by simp [Fits])
  | .flag, .rows _, B, C, hf, h => absurd hf (by simp [Fits])
  | .rows _, .int _, B, C, hf, h => absurd hf (by simp [Fits])
  | .rows _, .text _, B, C, hf, h => absurd hf (by simp [Fits])
  | .rows _, .flag _, B, C, hf, h => absurd hf (by simp [Fits])
theorem lays_rd : ∀ (sh : List Sh) (ds : List Da) (B C : List UInt8), Fitss sh ds → lays sh ds (B, 0) = (C, 0) → ∃ p, (∀ B', lays sh ds (B', 0) = (B' ++ p, 0)) ∧ ∀ r, rds sh (p ++ r) = some (ds, r)
  | [], [], B, C, _, h => ⟨[], fun B' => by simp [lays], fun r => by simp [rds]⟩
  | [], _ :: _, B, C, hf, h => absurd hf (by simp [Fitss])
  | _ :: _, [], B, C, hf, h => absurd hf (by simp [Fitss])
  | a :: sh, d :: ds, B, C, hf, h => by
    simp only [Fitss] at hf
    simp only [lays] at h
    have hz : (lay a d (B, 0)).2 = 0 := by
      rcases Nat.eq_zero_or_pos (lay a d (B, 0)).2 with h0 | h0
      · exact h0
      · have h1 := lays_err sh ds (lay a d (B, 0)) (by omega)
        rw [h] at h1
        simp only at h1
        omega
    have e1 : lay a d (B, 0) = ((lay a d (B, 0)).1, 0) := Prod.ext rfl hz
    obtain ⟨p, hp, hr⟩ := lay_rd a d B _ hf.1 e1
    rw [hp] at h
    obtain ⟨q, hq, hr2⟩ := lays_rd sh ds _ _ hf.2 h
    refine ⟨p ++ q, fun B' => ?_, fun r => ?_⟩
    · simp only [lays]
      rw [hp, hq, List.append_assoc]
    · simp only [rds]
      rw [List.append_assoc, hr]
      simp only [Option.bind_some]
      rw [hr2]
      rfl
end
end Go.Proofs.YtkdmfjpfanmgmaaGreatDoor
namespace Go.Proofs.YtkdmfjpfanmgmaaGreatDoor
open Le
/-- The first j things of a list are laid. -/
def foldT (l : List Sh) (ds : List (List Da)) (j : Nat) (s : St) : St := (ds.take j).foldl (fun s d => lays l d s) s
theorem foldT_zero (l : List Sh) (ds : List (List Da)) (s : St) : foldT l ds 0 s = s := by simp [foldT]
theorem foldT_succ (l : List Sh) (ds : List (List Da)) (j : Nat) (s : St) (h : j < ds.length) : foldT l ds (j + 1) s = lays l ds[j] (foldT l ds j s) := by
  unfold foldT
  rw [List.take_succ_eq_append_getElem h, List.foldl_append]
  rfl
theorem foldT_full (l : List Sh) (ds : List (List Da)) (s : St) : foldT l ds ds.length s = ds.foldl (fun s d => lays l d s) s := by simp [foldT]
theorem foldT_le (l : List Sh) (ds : List (List Da)) (j : Nat) (s : St) : (foldT l ds j s).1.length ≤ (ds.foldl (fun s d => lays l d s) s).1.length := by
  unfold foldT
  conv => rhs; rw [← List.take_append_drop j ds, List.foldl_append]
  exact (grows_fold l (lays_grows l) (ds.drop j) _).le
theorem lay_rows_big {l : List Sh} {ds : List (List Da)} {s : St} (h : s.2 = 0) (h2 : 4096 < ds.length) : lay (.rows l) (.rows ds) s = s.fail 2 := by simp only [lay]; rw [if_pos h, if_neg (by omega)]
theorem lay_rows_ok {l : List Sh} {ds : List (List Da)} {s : St} (h : s.2 = 0) (h2 : ds.length ≤ 4096) : lay (.rows l) (.rows ds) s = foldT l ds ds.length (layNum ds.length s) := by simp only [lay]; rw [if_pos h, if_pos h2, foldT_full]
theorem foldT_le_lay {l : List Sh} {ds : List (List Da)} {s : St} (h : s.2 = 0) (h2 : ds.length ≤ 4096) (j : Nat) : (foldT l ds j (layNum ds.length s)).1.length ≤ (lay (.rows l) (.rows ds) s).1.length := by
  rw [lay_rows_ok h h2, foldT_full]
  exact foldT_le l ds j _
theorem lay_num_eq (n : Int) (s : St) : lay .num (.int n) s = layNum n s := by simp only [lay]
theorem lay_text_eq (b : List UInt8) (s : St) : lay .text (.text b) s = layText b s := by simp only [lay]
theorem lay_le {a : Sh} {d : Da} {s : St} {m : Nat} (h : (lay a d s).1.length ≤ m) : s.1.length ≤ m := Nat.le_trans (lay_grows a d s).le h
theorem foldT_err (l : List Sh) (ds : List (List Da)) (j : Nat) (s : St) (h : (foldT l ds j s).2 ≠ 0) : (foldT l ds ds.length s).2 = (foldT l ds j s).2 := by
  have e : foldT l ds ds.length s = (ds.drop j).foldl (fun s d => lays l d s) (foldT l ds j s) := by
    unfold foldT
    rw [← List.foldl_append, List.take_append_drop, List.take_length]
  rw [e]
  exact fold_err l _ _ h
end Go.Proofs.YtkdmfjpfanmgmaaGreatDoor
namespace Go.Proofs.YtkdmfjpfanmgmaaGreatDoor
def shColumn : List Sh := [.text, .num, .flag]
def shRule : List Sh := [.text, .num, .rows [.text], .whole, .whole, .text, .text, .text]
def shTable : List Sh := [.text, .text, .text, .rows shColumn, .rows shRule]
def shSchema : List Sh := [.text, .text]
def shMember : List Sh := [.text, .text]
def shGrant : List Sh := [.text, .text, .num, .text, .text, .flag]
def shObjects : List Sh := [.rows shSchema, .rows shTable]
def shCatalog : List Sh := [.num, .num, .rows shSchema, .rows shTable, .rows [.text], .rows shMember, .rows shGrant]
def shCommand : List Sh := [.num, .text, .text, .text, .text, .text, .rows shColumn, .text, .num, .rows [.text], .whole, .whole, .text, .text, .text, .num, .flag]
def shConfig : List Sh := [.rows [.num], .rows [.num]]
def shRecord : List Sh := [.num, .num, .num, .num, .num, .num, .rows [.num], .rows [.num], .text, .num, .num, .num, .rows [.num], .rows [.num], .text]
def shOp : List Sh := [.num, .num, .num, .num, .text, .text, .text, .text, .text, .rows shColumn, .text, .num, .rows [.text], .whole, .whole, .text, .text, .text, .num, .flag, .num, .num, .num]
def shLease : List Sh := [.num, .num, .num, .num]
def shDone : List Sh := [.num, .num, .num, .num, .num]
def shMachine : List Sh := [.num, .num, .rows shSchema, .rows shTable, .rows [.text], .rows shMember, .rows shGrant, .rows shDone, .rows shLease, .num]
end Go.Proofs.YtkdmfjpfanmgmaaGreatDoor
namespace Go.Proofs.YtkdmfjpfanmgmaaGreatDoor
structure Snp where
  idx : Int
  term : Int
  v : List Int
  l : List Int
  b : List UInt8
  deriving DecidableEq
structure Ent where
  idx : Int
  term : Int
  kind : Int
  v : List Int
  l : List Int
  b : List UInt8
  deriving DecidableEq
structure Rcd where
  kind : Int
  term : Int
  vote : Int
  ent : Ent
  at_ : Int
  snp : Snp
  deriving DecidableEq
structure Kep where
  term : Int
  vote : Int
  snp : Snp
  ents : List Ent
  deriving DecidableEq
def shEntry : List Sh := [.num, .num, .num, .rows [.num], .rows [.num], .text]
def shSnap : List Sh := [.num, .num, .rows [.num], .rows [.num], .text]
def shKept : List Sh := [.num, .num, .num, .num, .rows [.num], .rows [.num], .text, .rows shEntry]
def nums (l : List Int) : List (List Da) := l.map fun n => [.int n]
def Snp.da (s : Snp) : List Da := [.int s.idx, .int s.term, .rows (nums s.v), .rows (nums s.l), .text s.b]
def Ent.da (e : Ent) : List Da := [.int e.idx, .int e.term, .int e.kind, .rows (nums e.v), .rows (nums e.l), .text e.b]
def Rcd.da (r : Rcd) : List Da := [.int r.kind, .int r.term, .int r.vote, .int r.ent.idx, .int r.ent.term, .int r.ent.kind, .rows (nums r.ent.v), .rows (nums r.ent.l), .text r.ent.b, .int r.at_, .int r.snp.idx, .int r.snp.term, .rows (nums r.snp.v), .rows (nums r.snp.l), .text r.snp.b]
def Kep.da (k : Kep) : List Da := [.int k.term, .int k.vote, .int k.snp.idx, .int k.snp.term, .rows (nums k.snp.v), .rows (nums k.snp.l), .text k.snp.b, .rows (k.ents.map Ent.da)]
def Snp.zero : Snp := ⟨0, 0, [], [], []⟩
def Ent.zero : Ent := ⟨0, 0, 0, [], [], []⟩
def Kep.zero : Kep := ⟨0, 0, .zero, []⟩
def Rcd.ofVote (t v : Int) : Rcd := ⟨1, t, v, .zero, 0, .zero⟩
def Rcd.ofEnt (e : Ent) : Rcd := ⟨2, 0, 0, e, 0, .zero⟩
def Rcd.ofCut (n : Int) : Rcd := ⟨3, 0, 0, .zero, n, .zero⟩
def Rcd.ofSnp (s : Snp) : Rcd := ⟨4, 0, 0, .zero, 0, s⟩
/-- The error of a record's bytes. -/
def putE (r : Rcd) : Nat := (lays shRecord r.da ([], 0)).2
def recs (k : Kep) : List Rcd := Rcd.ofVote k.term k.vote :: ((if k.snp = .zero then [] else [Rcd.ofSnp k.snp]) ++ k.ents.map Rcd.ofEnt)
/-- A machine's sum. -/
def wr (n : Int) : Int := i64w (u64w n)
def inRow (s : Int) : Nat → List Ent → Bool
  | _, [] => true
  | i, e :: l => e.idx == wr (wr (s + 1) + i) && inRow s (i + 1) l
def rightP (k : Kep) : Bool := k.ents.length ≤ 10000 && !(k.snp.idx < 1 && k.snp ≠ .zero) && inRow k.snp.idx 0 k.ents && (recs k).all fun r => putE r == 0
def mayP (r : Rcd) : Bool := putE r == 0 &&
  ((r.kind == 1 && r.ent = .zero && r.at_ == 0 && r.snp = .zero) || (r.kind == 2 && r.term == 0 && r.vote == 0 && r.at_ == 0 && r.snp = .zero)
  || (r.kind == 3 && r.term == 0 && r.vote == 0 && r.ent = .zero && r.snp = .zero) || (r.kind == 4 && r.term == 0 && r.vote == 0 && r.ent = .zero && r.at_ == 0))
def Kep.last (k : Kep) : Int := k.snp.idx + k.ents.length
/-- What is right, and a record that may be. -/
def foldedP (k : Kep) (r : Rcd) : Kep × Nat :=
  if r.kind = 1 then (if r.term < k.term then (.zero, 140) else ({ k with term := r.term, vote := r.vote }, 0))
  else if r.kind = 2 then (if r.ent.idx ≠ k.last + 1 then (.zero, 140) else if 10000 ≤ k.ents.length then (.zero, 2) else ({ k with ents := k.ents ++ [r.ent] }, 0))
  else if r.kind = 3 then (if r.at_ ≤ k.snp.idx ∨ k.last < r.at_ then (.zero, 140) else ({ k with ents := k.ents.take (r.at_ - k.snp.idx - 1).toNat }, 0))
  else if r.snp.idx ≤ k.snp.idx then (.zero, 140)
  else ({ k with snp := r.snp, ents := if (k.ents[(r.snp.idx - k.snp.idx - 1).toNat]?).map (·.term) = some r.snp.term then k.ents.drop ((r.snp.idx - k.snp.idx - 1).toNat + 1) else [] }, 0)
def foldP (k : Kep) (r : Rcd) : Kep × Nat := if rightP k then (if mayP r then foldedP k r else (.zero, 140)) else (.zero, 1)
/-! ### When a record's bytes may be laid. -/
def okN (n : Int) : Prop := 0 ≤ n ∧ n ≤ 1000000000
def okL (l : List Int) : Prop := l.length ≤ 4096 ∧ ∀ n ∈ l, okN n
def okT (b : List UInt8) : Prop := b.length ≤ 65536
theorem layNum_ok (n : Int) (s : St) : (layNum n s).2 = 0 ↔ s.2 = 0 ∧ okN n := by
  unfold layNum okN
  split
  · rename_i h; simp [St.put, h]
  · rename_i h
    simp only [St.fail]
    split <;> simp_all
theorem layText_ok (b : List UInt8) (s : St) : (layText b s).2 = 0 ↔ s.2 = 0 ∧ okT b := by
  unfold layText okT
  split
  · rename_i h; simp [St.put, h]
  · rename_i h
    simp only [St.fail]
    split <;> simp_all
theorem layNums_fold : ∀ (l : List Int) (s : St), ((nums l).foldl (fun s d => lays [.num] d s) s).2 = 0 ↔ s.2 = 0 ∧ ∀ n ∈ l, okN n
  | [], s => by simp [nums]
  | n :: l, s => by
    have h := layNums_fold l (layNum n s)
    simp only [nums, List.map_cons, List.foldl_cons, lays, lay] at h ⊢
    rw [h, layNum_ok]
    simp [and_assoc]
theorem layNums_ok (l : List Int) (s : St) : (lay (.rows [.num]) (.rows (nums l)) s).2 = 0 ↔ s.2 = 0 ∧ okL l := by
  have hl : (nums l).length = l.length := by simp [nums]
  simp only [lay]
  split
  · rename_i h0
    rw [hl]
    split
    · rename_i h1
      rw [layNums_fold, layNum_ok]
      simp only [h0, okL, okN, h1, true_and, and_iff_right_iff_imp]
      intro _
      omega
    · rename_i h1
      simp [St.fail, h0, okL, h1]
  · rename_i h0
    simp [h0]
/-- The parts that may be laid. -/
structure OkS (s : Snp) : Prop where
  idx : okN s.idx
  term : okN s.term
  v : okL s.v
  l : okL s.l
  b : okT s.b
structure OkE (e : Ent) : Prop where
  idx : okN e.idx
  term : okN e.term
  kind : okN e.kind
  v : okL e.v
  l : okL e.l
  b : okT e.b
theorem putE_ok (r : Rcd) : putE r = 0 ↔ okN r.kind ∧ okN r.term ∧ okN r.vote ∧ OkE r.ent ∧ okN r.at_ ∧ OkS r.snp := by
  unfold putE shRecord Rcd.da
  simp only [lays]
  simp only [layText_ok, layNums_ok, lay_num_eq, lay_text_eq, layNum_ok]
  constructor
  · rintro ⟨⟨⟨⟨⟨⟨⟨⟨⟨⟨⟨⟨⟨⟨⟨-, a⟩, b⟩, c⟩, d⟩, e⟩, f⟩, g⟩, h⟩, i⟩, j⟩, k⟩, l⟩, m⟩, n⟩, o⟩
    exact ⟨a, b, c, ⟨d, e, f, g, h, i⟩, j, ⟨k, l, m, n, o⟩⟩
  · rintro ⟨a, b, c, ⟨d, e, f, g, h, i⟩, j, ⟨k, l, m, n, o⟩⟩
    exact ⟨⟨⟨⟨⟨⟨⟨⟨⟨⟨⟨⟨⟨⟨⟨trivial, a⟩, b⟩, c⟩, d⟩, e⟩, f⟩, g⟩, h⟩, i⟩, j⟩, k⟩, l⟩, m⟩, n⟩, o⟩
theorem okN0 : okN 0 := ⟨by omega, by omega⟩
theorem OkS.zero : OkS .zero := ⟨okN0, okN0, ⟨by simp [Snp.zero], by simp [Snp.zero]⟩, ⟨by simp [Snp.zero], by simp [Snp.zero]⟩, by simp [okT, Snp.zero]⟩
theorem OkE.zero : OkE .zero := ⟨okN0, okN0, okN0, ⟨by simp [Ent.zero], by simp [Ent.zero]⟩, ⟨by simp [Ent.zero], by simp [Ent.zero]⟩, by simp [okT, Ent.zero]⟩
/-- What is right, in words. -/
structure Right (k : Kep) : Prop where
  len : k.ents.length ≤ 10000
  term : okN k.term
  vote : okN k.vote
  snp : OkS k.snp
  one : k.snp = .zero ∨ 1 ≤ k.snp.idx
  ents : ∀ e ∈ k.ents, OkE e
  row : ∀ (i : Nat) (e : Ent), k.ents[i]? = some e → e.idx = k.snp.idx + 1 + i
end Go.Proofs.YtkdmfjpfanmgmaaGreatDoor
