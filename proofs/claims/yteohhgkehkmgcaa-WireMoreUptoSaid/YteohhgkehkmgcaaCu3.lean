/- Words for the reference's lists. -/
import Derived.Test.YteohhgkehkmgcaaCu2
namespace Go.Proofs.Yteohhgkehkmgcaa
open Go.RowKit Le

/-- What is left behind j things. -/
def iterO (sh : List Sh) (j : Nat) (o : Option (List UInt8)) : Option (List UInt8) := o.bind fun l => (iter (rds sh) j l).map (·.2)
theorem iterO_zero (sh : List Sh) (o : Option (List UInt8)) : iterO sh 0 o = o := by
  cases o with
  | none => rfl
  | some l => simp [iterO, iter]
theorem iter_succ {α : Type} (f : List UInt8 → Option (α × List UInt8)) (n : Nat) (l : List UInt8) : iter f (n + 1) l = (iter f n l).bind fun x => (f x.2).bind fun y => some (x.1 ++ [y.1], y.2) := by
  cases h : iter f n l with
  | none =>
    simp only [Option.bind_none]
    induction n generalizing l with
    | zero => simp [iter] at h
    | succ n ih =>
      rw [iter]
      rw [iter] at h
      cases h1 : f l with
      | none => rfl
      | some x =>
        rw [h1] at h
        simp only [Option.bind_some] at h ⊢
        cases h2 : iter f n x.2 with
        | none => rw [ih x.2 h2]; rfl
        | some y => rw [h2] at h; simp at h
  | some x =>
    obtain ⟨ds, l1⟩ := x
    simp only [Option.bind_some]
    cases h2 : f l1 with
    | none => exact iter_none h h2 (by omega)
    | some y => exact iter_snoc h h2
theorem iterO_succ (sh : List Sh) (j : Nat) (o : Option (List UInt8)) : iterO sh (j + 1) o = stepS sh (iterO sh j o) := by
  cases o with
  | none => rfl
  | some l =>
    simp only [iterO, Option.bind_some, iter_succ, stepS]
    cases iter (rds sh) j l with
    | none => rfl
    | some x =>
      simp only [Option.bind_some, Option.map_some]
      cases rds sh x.2 <;> rfl
theorem iterO_none {sh : List Sh} {j N : Nat} {o : Option (List UInt8)} (h : iterO sh j o = none) (hj : j ≤ N) : iterO sh N o = none := by
  induction N with
  | zero =>
    obtain rfl : j = 0 := by omega
    exact h
  | succ N ih =>
    by_cases hN : j ≤ N
    · rw [iterO_succ, ih hN]
      rfl
    · obtain rfl : j = N + 1 := by omega
      exact h
theorem rows_step {sh : List Sh} {N : Nat} {o : Option (List UInt8)} (hN : ∀ l x, o = some l → rdNum l = some x → x.1 ≤ 4096 → N = x.1) : stepO (.rows sh) o = iterO sh N (stepM o) := by
  cases o with
  | none => rfl
  | some l =>
    simp only [stepO, stepM, iterO, Option.bind_some, rd]
    cases h : rdNum l with
    | none => rfl
    | some x =>
      simp only [Option.bind_some]
      by_cases h4 : x.1 ≤ 4096
      · rw [if_pos h4, if_pos h4, hN l x rfl h h4]
        simp only [Option.bind_some]
        cases iter (rds sh) x.1 x.2 <;> rfl
      · rw [if_neg h4, if_neg h4]
        rfl
theorem Blk.far_setCells {w : World} {g b : Nat} {t : TypeId} {cs : List Value} (hg : g ≠ b) : ∀ (o : Nat) (vs : List Value), Blk w g t cs → Blk (w.setCells b o vs) g t cs
  | _, [], h => h
  | o, v :: r, h => Blk.far_setCells hg (o + 1) r (h.far (p := ⟨b, o, none⟩) hg v)
theorem own_set {w : World} {base : Nat} {e : TypeId} {size n : Nat} {v : Value} {xs : List Value} (h : w.ownsRow base e size v n xs) {gx : Nat} (hb : ∀ k, v.ownBlock = some k → k < gx) (i : Nat) (u : Value) : (w.setCell ⟨gx, i, none⟩ u).ownsRow base e size v n xs := by
  refine h.kept (grownBy_setCell (World.grownBy.refl _ _) i u) ?_
  cases hv : v.ownBlock with
  | none => exact .inl rfl
  | some k =>
    refine .inr fun e => ?_
    injection e with e
    have := hb k hv
    omega
theorem own_setCells {w : World} {base : Nat} {e : TypeId} {size n : Nat} {v : Value} {xs : List Value} {gx : Nat} (hb : ∀ k, v.ownBlock = some k → k < gx) : ∀ (o : Nat) (vs : List Value), w.ownsRow base e size v n xs → (w.setCells gx o vs).ownsRow base e size v n xs
  | _, [], h => h
  | o, u :: r, h => own_setCells hb (o + 1) r (own_set h hb o u)
theorem Kind1.num (n : Int) : Kind1 .num (.int .i64 n) := ⟨n, rfl⟩
theorem Kind1.whole (n : Int) : Kind1 .whole (.int .i64 n) := ⟨n, rfl⟩
theorem Kind1.text (s : ByteArray) : Kind1 .text (.string s) := ⟨s, rfl⟩
theorem Kind1.flag (b : Bool) : Kind1 .flag (.bool b) := ⟨b, rfl⟩
theorem Kind1.rows (l : List Sh) (A : Option Addr) (n c : Nat) : Kind1 (.rows l) (.slice A n c) := ⟨A, n, c, rfl⟩
theorem Kinds.mk {a : Sh} {l : List Sh} {v : Value} {vs : List Value} (h : Kind1 a v) (hs : Kinds l vs) : Kinds (a :: l) (v :: vs) := ⟨v, vs, rfl, h, hs⟩
theorem Kinds.mk0 : Kinds [] [] := rfl
end Go.Proofs.Yteohhgkehkmgcaa
