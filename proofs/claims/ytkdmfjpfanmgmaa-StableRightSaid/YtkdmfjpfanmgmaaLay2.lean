/- Plain: laws of what is laid and read. No condition: no program is in sight. -/
import Derived.Test.YtkdmfjpfanmgmaaLay
namespace Go.Proofs.Ytkdmfjpfanmgmaa
open Le

theorem St.put_2 (s : St) (b : List UInt8) : (s.put b).2 = s.2 := rfl
theorem St.fail_ne {s : St} (h : s.2 ≠ 0) (e : Nat) : (s.fail e).2 = s.2 := by simp [St.fail, h]
theorem layNum_err {s : St} (h : s.2 ≠ 0) (n : Int) : (layNum n s).2 = s.2 := by
  unfold layNum
  split
  · rfl
  · exact St.fail_ne h _
theorem layText_err {s : St} (h : s.2 ≠ 0) (b : List UInt8) : (layText b s).2 = s.2 := by
  unfold layText
  split
  · rfl
  · exact St.fail_ne h _
mutual
/-- An error sticks. -/
theorem lay_err : ∀ (a : Sh) (d : Da) (s : St), s.2 ≠ 0 → (lay a d s).2 = s.2
  | .num, .int n, s, h => layNum_err h n
  | .whole, .int n, s, h => rfl
  | .text, .text b, s, h => layText_err h b
  | .flag, .flag b, s, h => rfl
  | .rows l, .rows ds, s, h => by simp [lay, h]
  | .num, .text _, s, h => rfl
  | .num, .flag _, s, h => rfl
  | .num, .rows _, s, h => rfl
  | .whole, .text _, s, h => rfl
  | .whole, .flag _, s, h => rfl
  | .whole, .rows _, s, h => rfl
  | .text, .int _, s, h => rfl
  | .text, .flag _, s, h => rfl
  | .text, .rows _, s, h => rfl
  | .flag, .int _, s, h => rfl
  | .flag, .text _, s, h => rfl
  | .flag, .rows _, s, h => rfl
  | .rows _, .int _, s, h => rfl
  | .rows _, .text _, s, h => rfl
  | .rows _, .flag _, s, h => rfl
theorem lays_err : ∀ (l : List Sh) (ds : List Da) (s : St), s.2 ≠ 0 → (lays l ds s).2 = s.2
  | [], _, s, h => by simp [lays]
  | _ :: _, [], s, h => by simp [lays]
  | a :: l, d :: ds, s, h => by
    have h1 := lay_err a d s h
    have h2 := lays_err l ds (lay a d s) (by rw [h1]; exact h)
    simp only [lays]
    rw [h2, h1]
end
theorem fold_err (l : List Sh) (ds : List (List Da)) (s : St) (h : s.2 ≠ 0) : (ds.foldl (fun s d => lays l d s) s).2 = s.2 := by
  induction ds generalizing s with
  | nil => rfl
  | cons d ds ih =>
    have h1 := lays_err l d s h
    simp only [List.foldl_cons]
    rw [ih _ (by rw [h1]; exact h), h1]

/-- Bytes only grow. -/
def Grows (s s' : St) : Prop := ∃ p, s'.1 = s.1 ++ p
theorem Grows.refl (s : St) : Grows s s := ⟨[], by simp⟩
theorem Grows.trans {a b c : St} (h : Grows a b) (g : Grows b c) : Grows a c := by
  obtain ⟨p, hp⟩ := h
  obtain ⟨q, hq⟩ := g
  exact ⟨p ++ q, by rw [hq, hp, List.append_assoc]⟩
theorem Grows.le {a b : St} (h : Grows a b) : a.1.length ≤ b.1.length := by
  obtain ⟨p, hp⟩ := h
  rw [hp, List.length_append]
  omega
theorem grows_put (s : St) (b : List UInt8) : Grows s (s.put b) := ⟨b, rfl⟩
theorem grows_fail (s : St) (e : Nat) : Grows s (s.fail e) := ⟨[], by simp [St.fail]⟩
theorem grows_num (n : Int) (s : St) : Grows s (layNum n s) := by
  unfold layNum
  split
  · exact grows_put _ _
  · exact grows_fail _ _
theorem grows_text (b : List UInt8) (s : St) : Grows s (layText b s) := by
  unfold layText
  split
  · exact grows_put _ _
  · exact grows_fail _ _
theorem grows_fold (l : List Sh) (hl : ∀ ds s, Grows s (lays l ds s)) (ds : List (List Da)) (s : St) : Grows s (ds.foldl (fun s d => lays l d s) s) := by
  induction ds generalizing s with
  | nil => exact Grows.refl s
  | cons d ds ih => exact (hl d s).trans (ih _)
mutual
theorem lay_grows : ∀ (a : Sh) (d : Da) (s : St), Grows s (lay a d s)
  | .num, .int n, s => grows_num n s
  | .whole, .int n, s => grows_put _ _
  | .text, .text b, s => grows_text b s
  | .flag, .flag b, s => grows_put _ _
  | .rows l, .rows ds, s => by
    simp only [lay]
    split
    · split
      · exact (grows_num _ s).trans (grows_fold l (fun ds s => lays_grows l ds s) ds _)
      · exact grows_fail _ _
    · exact Grows.refl s
  | .num, .text _, s => Grows.refl s
  | .num, .flag _, s => Grows.refl s
  | .num, .rows _, s => Grows.refl s
  | .whole, .text _, s => Grows.refl s
  | .whole, .flag _, s => Grows.refl s
  | .whole, .rows _, s => Grows.refl s
  | .text, .int _, s => Grows.refl s
  | .text, .flag _, s => Grows.refl s
  | .text, .rows _, s => Grows.refl s
  | .flag, .int _, s => Grows.refl s
  | .flag, .text _, s => Grows.refl s
  | .flag, .rows _, s => Grows.refl s
  | .rows _, .int _, s => Grows.refl s
  | .rows _, .text _, s => Grows.refl s
  | .rows _, .flag _, s => Grows.refl s
theorem lays_grows : ∀ (l : List Sh) (ds : List Da) (s : St), Grows s (lays l ds s)
  | [], _, s => by simp only [lays]; exact Grows.refl s
  | _ :: _, [], s => by simp only [lays]; exact Grows.refl s
  | a :: l, d :: ds, s => by
    simp only [lays]
    exact (lay_grows a d s).trans (lays_grows l ds _)
end
end Go.Proofs.Ytkdmfjpfanmgmaa
