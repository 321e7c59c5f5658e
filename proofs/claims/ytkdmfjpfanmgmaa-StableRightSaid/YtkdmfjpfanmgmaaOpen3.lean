/- From structs that came in, their weights bounded, to what the walks ask of them: lists and texts that a machine can hold. No condition: lemmas over every program and world. -/
import Derived.Test.YtkdmfjpfanmgmaaOpen
import Derived.SizedLaws
namespace Go.Proofs.Ytkdmfjpfanmgmaa
open Go.RowKit

mutual
/-- Lists and texts that a machine can hold. -/
def tame : Da → Prop
  | .int _ => True
  | .text b => b.length ≤ 140737488355328
  | .flag _ => True
  | .rows l => l.length ≤ 140737488355328 ∧ tamess l
def tames : List Da → Prop
  | [] => True
  | d :: ds => tame d ∧ tames ds
def tamess : List (List Da) → Prop
  | [] => True
  | d :: ds => tames d ∧ tamess ds
end
theorem tames_append (a b : List Da) : tames (a ++ b) ↔ tames a ∧ tames b := by
  induction a with
  | nil => simp [tames]
  | cons d a ih => simp only [List.cons_append, tames, ih, and_assoc]
theorem tamess_of (l : List (List Da)) (h : ∀ d ∈ l, tames d) : tamess l := by
  induction l with
  | nil => simp [tamess]
  | cons d l ih => exact ⟨h d (by simp), ih fun x hx => h x (by simp [hx])⟩
theorem tamess_mem {l : List (List Da)} (h : tamess l) : ∀ d ∈ l, tames d := by
  induction l with
  | nil => intro d hd; cases hd
  | cons d l ih =>
    intro x hx
    rcases List.mem_cons.1 hx with rfl | hx
    · exact h.1
    · exact ih h.2 x hx
mutual
/-- A type's cells are fields of these shapes, and no list's things are without bytes. -/
def fitsW (P : Program) : Nat → TypeId → List Sh → Bool
  | 0, _, _ => false
  | n + 1, t, sh =>
    match P.underlying t with
    | some (.int .i64) => match sh with
      | [.num] => true
      | [.whole] => true
      | _ => false
    | some .string => match sh with
      | [.text] => true
      | _ => false
    | some .bool => match sh with
      | [.flag] => true
      | _ => false
    | some (.struct fs) => fitsFW P n fs.toList 0 sh && (P.cellsOf t == sh.length)
    | some (.slice e) => match sh with
      | [.rows l] => fitsW P n e l && (P.cellsOf e == l.length) && decide (0 < l.length) && decide (0 < P.bytesOf e)
      | _ => false
    | _ => false
def fitsFW (P : Program) : Nat → List Field → Nat → List Sh → Bool
  | _, [], _, sh => sh.isEmpty
  | 0, _ :: _, _, _ => false
  | n + 1, f :: fs, o, sh => (f.offset == o) && (fitsW P n f.type (sh.take (P.cellsOf f.type)) && (((sh.take (P.cellsOf f.type)).length == P.cellsOf f.type) && fitsFW P n fs (o + P.cellsOf f.type) (sh.drop (P.cellsOf f.type))))
end

section
variable {H : Type} {enc : TypeId × Value → H} {P : Program} {w : World} {held : Bool}
theorem weights_all {e : TypeId} : ∀ {l : List (DataW H)} {m : Nat}, (∀ n ∈ DataW.weightsAll P e l, n ≤ m) → ∀ d ∈ l, ∀ n ∈ d.weights P e, n ≤ m
  | [], _, _, d, hd => by cases hd
  | x :: l, m, h, d, hd => by
    simp only [DataW.weightsAll] at h
    rcases List.mem_cons.1 hd with rfl | hd
    · exact fun n hn => h n (List.mem_append.2 (.inl hn))
    · exact weights_all (l := l) (fun n hn => h n (List.mem_append.2 (.inr hn))) d hd
/-- The fields' bulk, from the i-th on. -/
theorem open_fields3 {n fuel : Nat} {cs : List Value}
    (ih : ∀ (m : Nat) (t : TypeId) (sh : List Sh) (fuel : Nat) (cs : List Value) (x : DataW H × List MemPlace), m ≤ n → fitsW P m t sh = true → DataW.trod enc P w 0 (fun _ => true) held fuel t cs = some x → (∀ n ∈ x.1.weights P t, n ≤ reachBytes) → ∃ ds, Cels w (· < w.heap.size) sh ds cs ∧ tames ds) :
    ∀ (k : Nat) (fs : List Field) (xs : List (DataW H × List MemPlace)) (o : Nat) (sh : List Sh), k ≤ n + 1 → fitsFW P k fs o sh = true → o + sh.length = cs.length → xs.length = fs.length →
      (∀ (i : Nat) (f : Field), fs[i]? = some f → DataW.trod enc P w 0 (fun _ => true) held fuel f.type ((cs.drop f.offset).take (P.cellsOf f.type)) = xs[i]?) → (∀ n ∈ DataW.weightsEach P (fs.map (·.type)) (xs.map (·.1)), n ≤ reachBytes) → ∃ ds, Cels w (· < w.heap.size) sh ds (cs.drop o) ∧ tames ds
  | k, [], xs, o, sh, _, hf, hl, hx, _, _ => by
    have hs : sh = [] := by cases k <;> simpa [fitsFW] using hf
    subst hs
    refine ⟨[], ?_, trivial⟩
    rw [List.drop_eq_nil_of_le (by simp at hl; omega)]
    exact Cels.mk0
  | 0, f :: fs, xs, o, sh, _, hf, _, _, _, _ => by simp [fitsFW] at hf
  | k + 1, f :: fs, xs, o, sh, hk, hf, hl, hxl, hx, hw => by
    cases xs with
    | nil => simp at hxl
    | cons x xs =>
      simp only [fitsFW, Bool.and_eq_true, beq_iff_eq] at hf
      obtain ⟨h1, h2, h3, h4⟩ := hf
      have hx0 := hx 0 f rfl
      rw [h1] at hx0
      obtain ⟨d1, hd1, hw1⟩ := ih k f.type _ fuel _ x (by omega) h2 hx0 (fun n hn => hw n (by simp only [List.map_cons, DataW.weightsEach]; exact List.mem_append.2 (.inl hn)))
      have hle : P.cellsOf f.type ≤ sh.length := by rw [List.length_take] at h3; omega
      obtain ⟨d2, hd2, hw2⟩ := open_fields3 ih k fs xs (o + P.cellsOf f.type) (sh.drop (P.cellsOf f.type)) (by omega) h4 (by rw [List.length_drop]; omega) (by simpa using hxl) (fun i f' hf' => hx (i + 1) f' (by simpa using hf')) (fun n hn => hw n (by simp only [List.map_cons, DataW.weightsEach]; exact List.mem_append.2 (.inr hn)))
      refine ⟨d1 ++ d2, ?_, ?_⟩
      · have := Cels.join hd1 hd2
        rwa [List.take_append_drop, ← List.drop_drop, List.take_append_drop] at this
      · exact (tames_append _ _).2 ⟨hw1, hw2⟩
/-- What came in is data of the shapes that a machine can hold. -/
theorem open_fits3 : ∀ (n : Nat) (m : Nat) (t : TypeId) (sh : List Sh) (fuel : Nat) (cs : List Value) (x : DataW H × List MemPlace), m ≤ n → fitsW P m t sh = true → DataW.trod enc P w 0 (fun _ => true) held fuel t cs = some x → (∀ n ∈ x.1.weights P t, n ≤ reachBytes) → ∃ ds, Cels w (· < w.heap.size) sh ds cs ∧ tames ds := by
  intro n
  induction n with
  | zero =>
    intro m t sh fuel cs x hm hf
    obtain rfl : m = 0 := by omega
    simp [fitsW] at hf
  | succ n ih =>
    intro m t sh fuel cs x hm hf hx hwt
    have one : ∀ {a : Sh} {d : Da} {v : Value}, Cel w (· < w.heap.size) a d v → tame d → ∃ ds, Cels w (· < w.heap.size) [a] ds [v] ∧ tames ds := fun {a d v} h hw => ⟨[d], Cels.one h, hw, trivial⟩
    cases m with
    | zero => simp [fitsW] at hf
    | succ m =>
      simp only [fitsW] at hf
      split at hf
      · rename_i hu
        obtain ⟨v, rfl, _, hw⟩ := DataW.trod_int hu hx
        have hb : -9223372036854775808 ≤ v ∧ v ≤ 9223372036854775807 := bounds_i64 hw
        split at hf
        · exact one (Cel.mk_num v) trivial
        · exact one (Cel.mk_whole hb) trivial
        · cases hf
      · rename_i hu
        obtain ⟨s, rfl, hxe, _⟩ := DataW.trod_string hu hx
        split at hf
        · have h1 : Cel w (· < w.heap.size) .text (.text s.data.toList) (.string s) := by
            have := Cel.mk_text (w := w) (S := (· < w.heap.size)) s.data.toList
            rwa [text_of] at this
          exact one h1 (by have := hwt s.data.toList.length (by rw [hxe]; simp [DataW.weights]); simp only [tame]; simp only [reachBytes] at this; omega)
        · cases hf
      · rename_i hu
        obtain ⟨b, rfl, _⟩ := DataW.trod_bool hu hx
        split at hf
        · exact one (Cel.mk_flag b) trivial
        · cases hf
      · rename_i fs hu
        simp only [Bool.and_eq_true, beq_iff_eq] at hf
        obtain ⟨hf, hc⟩ := hf
        obtain ⟨xs, k, _, hxe, hl, hxl, hfs⟩ := DataW.trod_struct hu hx
        have := open_fields3 (n := n) (fuel := k) (cs := cs) (fun m t sh fuel cs x hm => ih m t sh fuel cs x hm) m fs.toList xs 0 sh (by omega) hf (by omega) (by simpa using hxl) (fun i f hf' => hfs i f (by simpa using hf')) (fun n hn => hwt n (by rw [hxe]; simp only [DataW.weights, hu]; exact hn))
        obtain ⟨ds, h1, h2⟩ := this
        exact ⟨ds, by simpa using h1, h2⟩
      · rename_i e hu
        split at hf
        · rename_i l
          simp only [Bool.and_eq_true, beq_iff_eq, decide_eq_true_eq] at hf
          obtain ⟨⟨⟨hf, hc⟩, hp0⟩, hbt⟩ := hf
          rcases DataW.trod_slice hu hx with ⟨rfl, _⟩ | ⟨a, len, cap, elems, rest, k, _, rfl, hxe, _, hlc, hcm, hel, hat, _⟩
          · exact one (Cel.mk_rows (ds := []) (A := none) 0 RowsAt.nil) (by simp [tame, tamess])
          · have hwa : ∀ y ∈ elems, ∀ n ∈ y.1.weights P e, n ≤ reachBytes := fun y hy => weights_all (l := elems.map (·.1)) (fun n hn => hwt n (by rw [hxe]; simp only [DataW.weights, hu]; exact List.mem_cons_of_mem _ (List.mem_append.2 (.inl hn)))) y.1 (List.mem_map.2 ⟨y, hy, rfl⟩)
            have each : ∀ i, i < len → ∃ d : List Da, (∃ vs, Cels w (· < w.heap.size) l d vs ∧ ∀ (j : Nat) (u : Value), vs[j]? = some u → w.cell? (a.add (i * l.length + j)) = some u) ∧ tames d := by
              intro i hi
              have h1 := hat i hi
              rw [List.getElem?_eq_getElem (by omega)] at h1
              obtain ⟨cs', h2, h3⟩ := Option.bind_eq_some_iff.1 h1
              obtain ⟨d, hd, hw⟩ := ih m e l k cs' _ (by omega) hf h3 (hwa _ (List.getElem_mem (by omega)))
              refine ⟨d, ⟨cs', hd, fun j u hu => ?_⟩, hw⟩
              · have h4 := (cells_at h2).2 j u hu
                rwa [add_of_add, hc] at h4
            obtain ⟨f, hf2⟩ := Deep.choose_lt each
            have hr : RowsAt w (· < w.heap.size) l ((List.range len).map f) (some a) := by
              intro h0
              refine ⟨a, rfl, ?_, fun j d hj => ?_⟩
              · obtain ⟨vs, h1, h2⟩ := (hf2 0 (by simpa using h0)).1
                have hv : 0 < vs.length := by rw [h1.len.2]; exact hp0
                have := World.block_lt_of_cell? w _ (h2 0 _ (List.getElem?_eq_getElem hv))
                rwa [block_of_add] at this
              · by_cases hjl : j < len
                · simp [hjl] at hj
                  subst hj
                  exact (hf2 j hjl).1
                · simp [hjl] at hj
            have hw : tamess ((List.range len).map f) := tamess_of _ fun d hd => by
              obtain ⟨i, hi, rfl⟩ := List.mem_map.1 hd
              exact (hf2 i (List.mem_range.1 hi)).2
            have hlen : len ≤ 140737488355328 := by
              have := hwt ((elems.length + rest.length) * P.bytesOf e) (by rw [hxe]; simp [DataW.weights, hu])
              have h2 : len * 1 ≤ (elems.length + rest.length) * P.bytesOf e := Nat.mul_le_mul (by omega) hbt
              simp only [reachBytes] at this
              omega
            have h1 := one (Cel.mk_rows cap hr) ⟨by simpa using hlen, hw⟩
            simpa using h1
        · cases hf
      · cases hf
end
end Go.Proofs.Ytkdmfjpfanmgmaa
