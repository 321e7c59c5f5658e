/- Plain: what is laid is read as itself, whatever stands behind. No condition: no program is in sight. -/
import Derived.Test.YtkdmfjpfanmgmaaLay3
namespace Go.Proofs.Ytkdmfjpfanmgmaa
open Le

mutual
/-- A field's datum is of its shape. -/
def Fits : Sh → Da → Prop
  | .num, .int _ => True
  | .whole, .int n => -9223372036854775808 ≤ n ∧ n ≤ 9223372036854775807
  | .text, .text _ => True
  | .flag, .flag _ => True
  | .rows l, .rows ds => ∀ d ∈ ds, Fitss l d
  | _, _ => False
def Fitss : List Sh → List Da → Prop
  | [], [] => True
  | a :: l, d :: ds => Fits a d ∧ Fitss l ds
  | _, _ => False
end

theorem layNum_zero {n : Int} {B : List UInt8} (h : (layNum n (B, 0)).2 = 0) : 0 ≤ n ∧ n ≤ 1000000000 ∧ ∀ B' : List UInt8, layNum n (B', 0) = (B' ++ low n.toNat 4, 0) := by
  by_cases hn : 0 ≤ n ∧ n ≤ 1000000000
  · refine ⟨hn.1, hn.2, fun B' => ?_⟩
    unfold layNum
    rw [if_pos hn]
    rfl
  · unfold layNum at h
    rw [if_neg hn] at h
    simp [St.fail] at h
theorem rdNum_low (n : Nat) (h : n ≤ 1000000000) (r : List UInt8) : rdNum (low n 4 ++ r) = some (n, r) := by
  unfold rdNum
  have e : (low n 4 ++ r).take 4 = low n 4 := List.take_left' (by simp)
  rw [e, num_low, Nat.mod_eq_of_lt (by omega), if_neg (by simp), if_neg (by omega), List.drop_left' (by simp)]
theorem rdWhole_low (n : Int) (h : -9223372036854775808 ≤ n ∧ n ≤ 9223372036854775807) (r : List UInt8) : rdWhole (low (u64w n) 8 ++ r) = some (n, r) := by
  unfold rdWhole
  have e : (low (u64w n) 8 ++ r).take 8 = low (u64w n) 8 := List.take_left' (by simp)
  have hu : u64w n < 18446744073709551616 := by unfold u64w; omega
  have hi : i64w (u64w n) = n := by unfold i64w u64w; split <;> omega
  rw [e, num_low, Nat.mod_eq_of_lt (by simpa using hu), if_neg (by simp), List.drop_left' (by simp), hi]
theorem rdTx_low (b : List UInt8) (h : b.length ≤ 65536) (r : List UInt8) : rdTx (low b.length 4 ++ b ++ r) = some (b, r) := by
  unfold rdTx
  have e : (low b.length 4 ++ b ++ r).take 4 = low b.length 4 := by rw [List.append_assoc, List.take_left' (by simp)]
  have e2 : (low b.length 4 ++ b ++ r).drop 4 = b ++ r := by rw [List.append_assoc, List.drop_left' (by simp)]
  have e3 : num (low b.length 4) = b.length := by rw [num_low, Nat.mod_eq_of_lt (by omega)]
  rw [e, e3, if_neg (by simp), if_neg (by omega), if_neg (by simp), e2, ← List.drop_drop, e2, List.take_left' rfl, List.drop_left' rfl]
theorem rdFlag_low (b : Bool) (r : List UInt8) : rdFlag ([if b then 1 else 0] ++ r) = some (b, r) := by cases b <;> rfl

theorem fold_rd (sh : List Sh) (h : ∀ ds B C, Fitss sh ds → lays sh ds (B, 0) = (C, 0) → ∃ p, (∀ B', lays sh ds (B', 0) = (B' ++ p, 0)) ∧ ∀ r, rds sh (p ++ r) = some (ds, r)) :
    ∀ (ys : List (List Da)) (B C : List UInt8), (∀ d ∈ ys, Fitss sh d) → ys.foldl (fun s d => lays sh d s) (B, 0) = (C, 0) →
      ∃ p, (∀ B' : List UInt8, ys.foldl (fun s d => lays sh d s) (B', 0) = (B' ++ p, 0)) ∧ ∀ r, iter (rds sh) ys.length (p ++ r) = some (ys, r) := by
  intro ys
  induction ys with
  | nil =>
    intro B C _ he
    exact ⟨[], fun B' => by simp, fun r => by simp [iter]⟩
  | cons d ds ih =>
    intro B C hf he
    simp only [List.foldl_cons] at he
    have hz : (lays sh d (B, 0)).2 = 0 := by
      rcases Nat.eq_zero_or_pos (lays sh d (B, 0)).2 with h0 | h0
      · exact h0
      · have h1 := fold_err sh ds (lays sh d (B, 0)) (by omega)
        rw [he] at h1
        simp only at h1
        omega
    have e1 : lays sh d (B, 0) = ((lays sh d (B, 0)).1, 0) := Prod.ext rfl hz
    obtain ⟨p, hp, hr⟩ := h d B _ (hf d (by simp)) e1
    rw [hp] at he
    obtain ⟨q, hq, hr2⟩ := ih _ _ (fun x hx => hf x (by simp [hx])) he
    refine ⟨p ++ q, fun B' => ?_, fun r => ?_⟩
    · simp only [List.foldl_cons]
      rw [hp, hq, List.append_assoc]
    · simp only [List.length_cons, iter]
      rw [List.append_assoc, hr]
      simp only [Option.bind_some]
      rw [hr2]
      rfl

mutual
theorem lay_rd : ∀ (sh : Sh) (d : Da) (B C : List UInt8), Fits sh d → lay sh d (B, 0) = (C, 0) → ∃ p, (∀ B', lay sh d (B', 0) = (B' ++ p, 0)) ∧ ∀ r, rd sh (p ++ r) = some (d, r)
  | .num, .int n, B, C, _, h => by
    simp only [lay] at h
    obtain ⟨h0, h1, h2⟩ := layNum_zero (B := B) (by rw [h])
    refine ⟨low n.toNat 4, fun B' => by simp only [lay]; exact h2 B', fun r => ?_⟩
    simp only [rd]
    rw [rdNum_low _ (by omega)]
    simp only [Option.bind_some]
    rw [Int.toNat_of_nonneg h0]
  | .whole, .int n, B, C, hf, h => by
    simp only [Fits] at hf
    refine ⟨low (u64w n) 8, fun B' => rfl, fun r => ?_⟩
    simp only [rd]
    rw [rdWhole_low n hf]
    rfl
  | .text, .text b, B, C, _, h => by
    have hb : b.length ≤ 65536 := by
      rcases Nat.lt_or_ge 65536 b.length with h1 | h1
      · simp only [lay, layText] at h
        rw [if_neg (by omega)] at h
        simp [St.fail] at h
      · exact h1
    refine ⟨low b.length 4 ++ b, fun B' => by simp only [lay, layText]; rw [if_pos hb]; rfl, fun r => ?_⟩
    simp only [rd]
    rw [rdTx_low b hb]
    rfl
  | .flag, .flag b, B, C, _, h => by
    refine ⟨[if b then 1 else 0], fun B' => rfl, fun r => ?_⟩
    simp only [rd]
    rw [rdFlag_low]
    rfl
  | .rows l, .rows ds, B, C, hf, h => by
    simp only [Fits] at hf
    simp only [lay, if_true] at h
    have hl : ds.length ≤ 4096 := by
      rcases Nat.lt_or_ge 4096 ds.length with h1 | h1
      · rw [if_neg (by omega)] at h
        simp [St.fail] at h
      · exact h1
    rw [if_pos hl] at h
    have hz : (layNum ds.length (B, 0)).2 = 0 := by unfold layNum; rw [if_pos ⟨by omega, by omega⟩]; rfl
    obtain ⟨_, _, h2⟩ := layNum_zero hz
    rw [h2] at h
    obtain ⟨p, hp, hr⟩ := fold_rd l (fun ds B C => lays_rd l ds B C) ds _ _ hf h
    refine ⟨low ds.length 4 ++ p, fun B' => ?_, fun r => ?_⟩
    · simp only [lay, if_true]
      rw [if_pos hl, h2, hp, List.append_assoc]
      rfl
    · simp only [rd]
      rw [List.append_assoc, rdNum_low _ (by omega)]
      simp only [Option.bind_some]
      rw [if_pos hl, hr]
      rfl
  | .num, .text _, B, C, hf, h => absurd hf (by simp [Fits])
  | .num, .flag _, B, C, hf, h => absurd hf (by simp [Fits])
  | .num, .rows _, B, C, hf, h => absurd hf (by simp [Fits])
  | .whole, .text _, B, C, hf, h => absurd hf (by simp [Fits])
  | .whole, .flag _, B, C, hf, h => absurd hf (by simp [Fits])
  | .whole, .rows _, B, C, hf, h => absurd hf (by simp [Fits])
  | .text, .int _, B, C, hf, h => absurd hf (by simp [Fits])
  | .text, .flag _, B, C, hf, h => absurd hf (by simp [Fits])
  | .text, .rows _, B, C, hf, h => absurd hf (by simp [Fits])
  | .flag, .int _, B, C, hf, h => absurd hf (by simp [Fits])
  | .flag, .text _, B, C, hf, h => absurd hf (by simp [Fits])
  | .flag, .rows _, B, C, hf, h => absurd hf (by simp [Fits])
  | .rows _, .int _, B, C, hf, h => absurd hf (by simp [Fits])
  | .rows _, .text _, B, C, hf, h => absurd hf (by simp [Fits])
  | .rows _, .flag _, B, C, hf, h => absurd hf (by simp [Fits])
theorem lays_rd : ∀ (sh : List Sh) (ds : List Da) (B C : List UInt8), Fitss sh ds → lays sh ds (B, 0) = (C, 0) → ∃ p, (∀ B', lays sh ds (B', 0) = (B' ++ p, 0)) ∧ ∀ r, rds sh (p ++ r) = some (ds, r)
  | [], [], B, C, _, h => ⟨[], fun B' => by simp [lays], fun r => by simp [rds]⟩
  | [], _ :: _, B, C, hf, h => absurd hf (by simp [Fitss])
  | _ :: _, [], B, C, hf, h => absurd hf (by simp [Fitss])
  | a :: sh, d :: ds, B, C, hf, h => by
    simp only [Fitss] at hf
    simp only [lays] at h
    have hz : (lay a d (B, 0)).2 = 0 := by
      rcases Nat.eq_zero_or_pos (lay a d (B, 0)).2 with h0 | h0
      · exact h0
      · have h1 := lays_err sh ds (lay a d (B, 0)) (by omega)
        rw [h] at h1
        simp only at h1
        omega
    have e1 : lay a d (B, 0) = ((lay a d (B, 0)).1, 0) := Prod.ext rfl hz
    obtain ⟨p, hp, hr⟩ := lay_rd a d B _ hf.1 e1
    rw [hp] at h
    obtain ⟨q, hq, hr2⟩ := lays_rd sh ds _ _ hf.2 h
    refine ⟨p ++ q, fun B' => ?_, fun r => ?_⟩
    · simp only [lays]
      rw [hp, hq, List.append_assoc]
    · simp only [rds]
      rw [List.append_assoc, hr]
      simp only [Option.bind_some]
      rw [hr2]
      rfl
end
end Go.Proofs.Ytkdmfjpfanmgmaa
