/- Plain: what is read, laid again, is the bytes that were read. No condition: no program is in sight. -/
import Derived.Test.YtkdmfjpfanmgmaaLay2
namespace Go.Proofs.Ytkdmfjpfanmgmaa
open Le

theorem low_take {l : List UInt8} {k : Nat} (h : k ≤ l.length) : low (num (l.take k)) k = l.take k := by
  have := low_num (l.take k)
  rwa [List.length_take, Nat.min_eq_left h] at this
theorem layNum_take (l : List UInt8) (h : 4 ≤ l.length) (hv : num (l.take 4) ≤ 1000000000) (B : List UInt8) : layNum (num (l.take 4)) (B, 0) = (B ++ l.take 4, 0) := by
  unfold layNum
  rw [if_pos ⟨by omega, by omega⟩, Int.toNat_natCast, low_take h]
  rfl
theorem rdNum_some {l r : List UInt8} {n : Nat} (h : rdNum l = some (n, r)) : l = l.take 4 ++ r ∧ n = num (l.take 4) ∧ n ≤ 1000000000 ∧ 4 ≤ l.length := by
  unfold rdNum at h
  split at h
  · cases h
  · split at h
    · cases h
    · cases h
      exact ⟨by simp, rfl, by omega, by omega⟩
theorem rdWhole_some {l r : List UInt8} {n : Int} (h : rdWhole l = some (n, r)) : l = l.take 8 ++ r ∧ n = i64w (num (l.take 8)) ∧ 8 ≤ l.length := by
  unfold rdWhole at h
  split at h
  · cases h
  · cases h
    exact ⟨by simp, rfl, by omega⟩
theorem u64w_i64w (v : Nat) (h : v < 18446744073709551616) : u64w (i64w v) = v := by
  unfold u64w i64w
  split <;> omega
theorem rdTx_some {l r b : List UInt8} (h : rdTx l = some (b, r)) : l = l.take 4 ++ (b ++ r) ∧ b.length = num (l.take 4) ∧ b.length ≤ 65536 ∧ 4 ≤ l.length := by
  unfold rdTx at h
  split at h
  · cases h
  · split at h
    · cases h
    · split at h
      · cases h
      · cases h
        have hb : ((l.drop 4).take (num (l.take 4))).length = num (l.take 4) := by rw [List.length_take, List.length_drop]; omega
        have e : l = l.take 4 ++ l.drop 4 := (List.take_append_drop 4 l).symm
        have e2 : l.drop 4 = (l.drop 4).take (num (l.take 4)) ++ l.drop (4 + num (l.take 4)) := by
          rw [← List.drop_drop, List.take_append_drop]
        exact ⟨e.trans (congrArg (l.take 4 ++ ·) e2), hb, by omega, by omega⟩
theorem rdFlag_some {l r : List UInt8} {b : Bool} (h : rdFlag l = some (b, r)) : l = [if b then 1 else 0] ++ r := by
  cases l with
  | nil => cases h
  | cons c l =>
    by_cases hc : c.toNat ≤ 1
    · have h' : (if c.toNat ≤ 1 then some (c.toNat == 1, l) else none) = some (b, r) := h
      rw [if_pos hc] at h'
      cases h'
      have h01 : c.toNat = 0 ∨ c.toNat = 1 := by omega
      rcases h01 with h0 | h1
      · have : c = 0 := UInt8.toNat_inj.1 h0
        subst this
        rfl
      · have : c = 1 := UInt8.toNat_inj.1 h1
        subst this
        rfl
    · have h' : (if c.toNat ≤ 1 then some (c.toNat == 1, l) else none) = some (b, r) := h
      rw [if_neg hc] at h'
      cases h'

theorem iter_lay (sh : List Sh) (h : ∀ l ds r, rds sh l = some (ds, r) → ∃ p, l = p ++ r ∧ ∀ B, lays sh ds (B, 0) = (B ++ p, 0)) :
    ∀ (n : Nat) (l : List UInt8) (ys : List (List Da)) (r : List UInt8), iter (rds sh) n l = some (ys, r) → ys.length = n ∧ ∃ p, l = p ++ r ∧ ∀ B, ys.foldl (fun s d => lays sh d s) (B, 0) = (B ++ p, 0) := by
  intro n
  induction n with
  | zero =>
    intro l ys r he
    simp only [iter] at he
    cases he
    exact ⟨rfl, [], rfl, fun B => by simp⟩
  | succ n ih =>
    intro l ys r he
    simp only [iter] at he
    obtain ⟨⟨d, l1⟩, h1, he⟩ := Option.bind_eq_some_iff.1 he
    obtain ⟨⟨ds, l2⟩, h2, he⟩ := Option.bind_eq_some_iff.1 he
    cases he
    obtain ⟨p, hp, hB⟩ := h l d l1 h1
    obtain ⟨hn, q, hq, hB2⟩ := ih l1 ds l2 h2
    refine ⟨by simp [hn], p ++ q, by rw [hp, hq, List.append_assoc], fun B => ?_⟩
    simp only [List.foldl_cons]
    rw [hB, hB2, List.append_assoc]

mutual
theorem rd_lay : ∀ (sh : Sh) (l : List UInt8) (d : Da) (r : List UInt8), rd sh l = some (d, r) → ∃ p, l = p ++ r ∧ ∀ B, lay sh d (B, 0) = (B ++ p, 0)
  | .num, l, d, r, h => by
    simp only [rd] at h
    obtain ⟨⟨n, r1⟩, h1, h2⟩ := Option.bind_eq_some_iff.1 h
    cases h2
    obtain ⟨e1, e2, e3, e4⟩ := rdNum_some h1
    subst e2
    exact ⟨_, e1, fun B => layNum_take l e4 e3 B⟩
  | .whole, l, d, r, h => by
    simp only [rd] at h
    obtain ⟨⟨n, r1⟩, h1, h2⟩ := Option.bind_eq_some_iff.1 h
    cases h2
    obtain ⟨e1, e2, e3⟩ := rdWhole_some h1
    subst e2
    refine ⟨_, e1, fun B => ?_⟩
    simp only [lay, layWhole, St.put]
    have hlt : num (l.take 8) < 18446744073709551616 := by
      have := num_lt (l.take 8)
      rwa [List.length_take, Nat.min_eq_left e3] at this
    rw [u64w_i64w _ hlt, low_take e3]
  | .text, l, d, r, h => by
    simp only [rd] at h
    obtain ⟨⟨b, r1⟩, h1, h2⟩ := Option.bind_eq_some_iff.1 h
    cases h2
    obtain ⟨e1, e2, e3, e4⟩ := rdTx_some h1
    refine ⟨l.take 4 ++ b, by rw [List.append_assoc]; exact e1, fun B => ?_⟩
    simp only [lay, layText, St.put]
    rw [if_pos e3, e2, low_take e4]
  | .flag, l, d, r, h => by
    simp only [rd] at h
    obtain ⟨⟨b, r1⟩, h1, h2⟩ := Option.bind_eq_some_iff.1 h
    cases h2
    exact ⟨_, rdFlag_some h1, fun B => rfl⟩
  | .rows sh, l, d, r, h => by
    simp only [rd] at h
    obtain ⟨⟨n, r1⟩, h1, h2⟩ := Option.bind_eq_some_iff.1 h
    dsimp only at h2
    split at h2
    · rename_i hn
      obtain ⟨⟨ys, r2⟩, h3, h4⟩ := Option.bind_eq_some_iff.1 h2
      cases h4
      obtain ⟨e1, e2, e3, e4⟩ := rdNum_some h1
      obtain ⟨hy, p, hp, hB⟩ := iter_lay sh (fun l ds r => rds_lay sh l ds r) n r1 ys r2 h3
      refine ⟨l.take 4 ++ p, by rw [List.append_assoc, ← hp]; exact e1, fun B => ?_⟩
      simp only [lay, if_true]
      rw [if_pos (by omega), hy, e2, layNum_take l e4 (by omega), hB, List.append_assoc]
    · cases h2
theorem rds_lay : ∀ (sh : List Sh) (l : List UInt8) (ds : List Da) (r : List UInt8), rds sh l = some (ds, r) → ∃ p, l = p ++ r ∧ ∀ B, lays sh ds (B, 0) = (B ++ p, 0)
  | [], l, ds, r, h => by
    simp only [rds] at h
    cases h
    exact ⟨[], rfl, fun B => by simp [lays]⟩
  | a :: sh, l, ds, r, h => by
    simp only [rds] at h
    obtain ⟨⟨d, l1⟩, h1, h⟩ := Option.bind_eq_some_iff.1 h
    obtain ⟨⟨ds1, l2⟩, h2, h⟩ := Option.bind_eq_some_iff.1 h
    cases h
    obtain ⟨p, hp, hB⟩ := rd_lay a l d l1 h1
    obtain ⟨q, hq, hB2⟩ := rds_lay sh l1 ds1 l2 h2
    refine ⟨p ++ q, by rw [hp, hq, List.append_assoc], fun B => ?_⟩
    simp only [lays]
    rw [hB, hB2, List.append_assoc]
end
end Go.Proofs.Ytkdmfjpfanmgmaa
