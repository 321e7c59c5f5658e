/- Joined by mkmerge.py from the proof's texts Open. Conditions: each theorem's own hypotheses. -/
import Derived.Test.YtkdmfjpfanmgmaaGreatDoorM03
import Derived.Test.YtkdmfjpfanmgmaaGreatDoorM01
import Derived.OpenShut
import Derived.ChangeOld
import Derived.Deep.Slices
namespace Go.Proofs.YtkdmfjpfanmgmaaGreatDoor
open Go.RowKit
mutual
/-- A type's cells are fields of these shapes. -/
def fits (P : Program) : Nat → TypeId → List Sh → Bool
  | 0, _, _ => false
  | n + 1, t, sh =>
    match P.underlying t with
    | some (.int .i64) => match sh with
      | [.num] => true
      | [.whole] => true
      | _ => false
    | some .string => match sh with
      | [.text] => true
      | _ => false
    | some .bool => match sh with
      | [.flag] => true
      | _ => false
    | some (.struct fs) => fitsF P n fs.toList 0 sh && (P.cellsOf t == sh.length)
    | some (.slice e) => match sh with
      | [.rows l] => fits P n e l && (P.cellsOf e == l.length) && decide (0 < l.length)
      | _ => false
    | _ => false
def fitsF (P : Program) : Nat → List Field → Nat → List Sh → Bool
  | _, [], _, sh => sh.isEmpty
  | 0, _ :: _, _, _ => false
  | n + 1, f :: fs, o, sh => (f.offset == o) && (fits P n f.type (sh.take (P.cellsOf f.type)) && (((sh.take (P.cellsOf f.type)).length == P.cellsOf f.type) && fitsF P n fs (o + P.cellsOf f.type) (sh.drop (P.cellsOf f.type))))
end
section
variable {H : Type} {enc : TypeId × Value → H} {P : Program} {w : World} {held : Bool}
theorem Cels.len1 {S : Nat → Prop} {a : Sh} {d : Da} {v : Value} (h : Cel w S a d v) : ∃ ds, Cels w S [a] ds [v] := ⟨[d], Cels.one h⟩
theorem cells_at {base : Nat} {a : Addr} {n : Nat} {cs : List Value} (h : w.cells? base a n = some cs) : cs.length = n ∧ ∀ (i : Nat) (u : Value), cs[i]? = some u → w.cell? (a.add i) = some u := by
  obtain ⟨_, hl, hc⟩ := World.cells?_some h
  refine ⟨hl, fun i u hu => ?_⟩
  have hi : i < n := by
    rcases Nat.lt_or_ge i cs.length with h1 | h1
    · omega
    · rw [List.getElem?_eq_none h1] at hu; cases hu
  rw [hc i hi]
  exact hu
/-- The fields of a struct, one behind the other. -/
theorem open_fields {n fuel : Nat} {cs : List Value}
    (ih : ∀ (m : Nat) (t : TypeId) (sh : List Sh) (fuel : Nat) (cs : List Value) (x : DataW H × List MemPlace), m ≤ n → fits P m t sh = true → DataW.trod enc P w 0 (fun _ => true) held fuel t cs = some x → ∃ ds, Cels w (· < w.heap.size) sh ds cs) :
    ∀ (k : Nat) (fs : List Field) (o : Nat) (sh : List Sh), k ≤ n + 1 → fitsF P k fs o sh = true → o + sh.length = cs.length →
      (∀ f, f ∈ fs → ∃ x, DataW.trod enc P w 0 (fun _ => true) held fuel f.type ((cs.drop f.offset).take (P.cellsOf f.type)) = some x) → ∃ ds, Cels w (· < w.heap.size) sh ds (cs.drop o)
  | k, [], o, sh, _, hf, hl, _ => by
    have hs : sh = [] := by cases k <;> simpa [fitsF] using hf
    subst hs
    refine ⟨[], ?_⟩
    rw [List.drop_eq_nil_of_le (by simp at hl; omega)]
    exact Cels.mk0
  | 0, f :: fs, o, sh, _, hf, _, _ => by simp [fitsF] at hf
  | k + 1, f :: fs, o, sh, hk, hf, hl, hx => by
    simp only [fitsF, Bool.and_eq_true, beq_iff_eq] at hf
    obtain ⟨h1, h2, h3, h4⟩ := hf
    obtain ⟨x, hx0⟩ := hx f (by simp)
    rw [h1] at hx0
    obtain ⟨d1, hd1⟩ := ih k f.type _ fuel _ x (by omega) h2 hx0
    have hle : P.cellsOf f.type ≤ sh.length := by rw [List.length_take] at h3; omega
    obtain ⟨d2, hd2⟩ := open_fields ih k fs (o + P.cellsOf f.type) (sh.drop (P.cellsOf f.type)) (by omega) h4 (by rw [List.length_drop]; omega) (fun f' hf' => hx f' (by simp [hf']))
    refine ⟨d1 ++ d2, ?_⟩
    have := Cels.join hd1 hd2
    rwa [List.take_append_drop, ← List.drop_drop, List.take_append_drop] at this
/-- What came in is data of the shapes. -/
theorem open_fits : ∀ (n : Nat) (m : Nat) (t : TypeId) (sh : List Sh) (fuel : Nat) (cs : List Value) (x : DataW H × List MemPlace), m ≤ n → fits P m t sh = true → DataW.trod enc P w 0 (fun _ => true) held fuel t cs = some x → ∃ ds, Cels w (· < w.heap.size) sh ds cs := by
  intro n
  induction n with
  | zero =>
    intro m t sh fuel cs x hm hf
    obtain rfl : m = 0 := by omega
    simp [fits] at hf
  | succ n ih =>
    intro m t sh fuel cs x hm hf hx
    cases m with
    | zero => simp [fits] at hf
    | succ m =>
      simp only [fits] at hf
      split at hf
      · rename_i hu
        obtain ⟨v, rfl, _, hw⟩ := DataW.trod_int hu hx
        have hb : -9223372036854775808 ≤ v ∧ v ≤ 9223372036854775807 := bounds_i64 hw
        split at hf
        · exact Cels.len1 (Cel.mk_num v)
        · exact Cels.len1 (Cel.mk_whole hb)
        · cases hf
      · rename_i hu
        obtain ⟨s, rfl, _, _⟩ := DataW.trod_string hu hx
        split at hf
        · have := Cels.len1 (Cel.mk_text (w := w) (S := (· < w.heap.size)) s.data.toList)
          rwa [text_of] at this
        · cases hf
      · rename_i hu
        obtain ⟨b, rfl, _⟩ := DataW.trod_bool hu hx
        split at hf
        · exact Cels.len1 (Cel.mk_flag b)
        · cases hf
      · rename_i fs hu
        simp only [Bool.and_eq_true, beq_iff_eq] at hf
        obtain ⟨hf, hc⟩ := hf
        obtain ⟨xs, k, _, _, hl, hxl, hfs⟩ := DataW.trod_struct hu hx
        have := open_fields (n := n) (fuel := k) (cs := cs) (fun m t sh fuel cs x hm => ih m t sh fuel cs x hm) m fs.toList 0 sh (by omega) hf (by omega) (fun f hf' => by
          obtain ⟨i, hi, hfi⟩ := List.getElem_of_mem hf'
          have hi' : i < fs.size := by simpa using hi
          have h1 := hfs i f (by rw [Array.getElem?_eq_getElem hi']; simpa using hfi)
          exact ⟨xs[i]'(by omega), by rw [h1, List.getElem?_eq_getElem (by omega)]⟩)
        simpa using this
      · rename_i e hu
        split at hf
        · rename_i l
          simp only [Bool.and_eq_true, beq_iff_eq, decide_eq_true_eq] at hf
          obtain ⟨⟨hf, hc⟩, hp⟩ := hf
          rcases DataW.trod_slice hu hx with ⟨rfl, _⟩ | ⟨a, len, cap, elems, rest, k, _, rfl, _, _, hlc, hcm, hel, hat, _⟩
          · exact Cels.len1 (Cel.mk_rows (ds := []) (A := none) 0 RowsAt.nil)
          · have each : ∀ i, i < len → ∃ d : List Da, ∃ vs, Cels w (· < w.heap.size) l d vs ∧ ∀ (j : Nat) (u : Value), vs[j]? = some u → w.cell? (a.add (i * l.length + j)) = some u := by
              intro i hi
              have h1 := hat i hi
              rw [List.getElem?_eq_getElem (by omega)] at h1
              obtain ⟨cs', h2, h3⟩ := Option.bind_eq_some_iff.1 h1
              obtain ⟨d, hd⟩ := ih m e l k cs' _ (by omega) hf h3
              refine ⟨d, cs', hd, fun j u hu => ?_⟩
              have h4 := (cells_at h2).2 j u hu
              rwa [add_of_add, hc] at h4
            obtain ⟨f, hf2⟩ := Deep.choose_lt each
            have hr : RowsAt w (· < w.heap.size) l ((List.range len).map f) (some a) := by
              intro h0
              refine ⟨a, rfl, ?_, fun j d hj => ?_⟩
              · obtain ⟨vs, h1, h2⟩ := hf2 0 (by simpa using h0)
                have hv : 0 < vs.length := by rw [h1.len.2]; exact hp
                have := World.block_lt_of_cell? w _ (h2 0 _ (List.getElem?_eq_getElem hv))
                rwa [block_of_add] at this
              · by_cases hjl : j < len
                · simp [hjl] at hj
                  subst hj
                  exact hf2 j hjl
                · simp [hjl] at hj
            have := Cels.len1 (Cel.mk_rows cap hr)
            simpa using this
        · cases hf
      · cases hf
end
end Go.Proofs.YtkdmfjpfanmgmaaGreatDoor
