/- From a [][]byte that came in to what the walks ask of it. -/
import Derived.Test.YtgfnbfebcejocaaDoorSeal8
import Derived.Deep.Matrix
import Derived.Test.YtgfnbfebcejocaaDoorFrame
namespace Go.Proofs.YtgfnbfebcejocaaDoor
open Go.RowKit Le Go.ChangeShapes Go.WideShapes

/-- A [][]byte that came in. -/
def Rows2 (w : World) (A : Option Addr) (n c : Nat) (ls : List (List UInt8)) : Prop := RowB w A n ls ∧ n ≤ c
theorem rows2_open {H : Type} {enc : TypeId × Value → H} {W : World} {held : Bool} {fuel : Nat} {a : Option Addr} {len cap : Nat} {x : DataW H × List MemPlace}
    (hf : DataW.trod enc Tryd.prog W 0 (fun _ => true) held fuel 35 [.slice a len cap] = some x) : ∃ ls, Rows2 W a len cap ls := by
  rcases Deep.open_int_rows Tryd.underlying35 Tryd.underlying22 Tryd.underlying5 (by kernel_rfl) (by kernel_rfl) hf with ⟨hcs, _⟩ | ⟨ad, l, c, A, L, C, Z, hcs, _, hl, hm, _, hrow⟩
  · simp at hcs
    obtain ⟨rfl, rfl, rfl⟩ := hcs
    exact ⟨[], ⟨rfl, [], Reads.none_, Each.nil _⟩, Nat.le_refl _⟩
  · simp at hcs
    obtain ⟨rfl, rfl, rfl⟩ := hcs
    have each : ∀ r, r < len → ∃ b : List UInt8, Reads W W.heap.size (A r) (L r) (u8s b) := by
      intro r hr
      obtain ⟨_, h1, h2, h3, h4, h5, h6⟩ := hrow r (by omega)
      have hi : IsRow .u8 W (A r) (L r) (C r) (Z r) := by
        cases hA : A r with
        | none =>
          have hc0 := h5 hA
          exact .inl ⟨rfl, by omega, hc0, List.eq_nil_of_length_eq_zero (by omega)⟩
        | some a' => exact .inr ⟨a', rfl, h1, h2, h3, fun i hi => (h6 a' hA).2 i (by omega), h4⟩
      obtain ⟨b, hb, _⟩ := hi.bytes
      exact ⟨b, hb⟩
    obtain ⟨f, hf2⟩ := Deep.choose_lt each
    refine ⟨(List.range len).map f, ⟨by simp, (List.range len).map (fun r => .slice (A r) (L r) (C r)), ⟨by simp, fun hn => ⟨ad, rfl, ?_, fun j u hu => ?_⟩⟩, by simp, fun i v b hv hb => ?_⟩, hl⟩
    · have := World.block_lt_of_cell? W _ (hrow 0 (by omega)).1
      rwa [block_of_add] at this
    · by_cases hj : j < len
      · simp [hj] at hu
        subst hu
        exact (hrow j (by omega)).1
      · simp [hj] at hu
    · by_cases hi : i < len
      · simp [hi] at hv hb
        subst hv
        subst hb
        have h := hf2 i hi
        have hlen := reads_len h
        exact ⟨A i, C i, by rw [hlen], by rw [hlen]; exact h⟩
      · simp [hi] at hv
end Go.Proofs.YtgfnbfebcejocaaDoor
