/- Words for memory: append of a thing of many cells; many cells stored; a struct's variable as a result. No condition: lemmas over every program and world. (The second half of XRe3.) -/
import Derived.Test.YtkdmfjpfanmgmaaPut0
namespace Go.Proofs.Ytkdmfjpfanmgmaa
open Go.RowKit Le

/-! ### A row that grows by things of many cells. -/
/-- The things in a row's cells. -/
def Things (w : World) (us : List TypeId) (sh : List Sh) (ds : List (List Da)) (xs : List Value) : Prop :=
  ∀ (j : Nat) (d : List Da), ds[j]? = some d → ∃ vs, Cels w (InT w us) sh d vs ∧ ∀ (i : Nat) (u : Value), vs[i]? = some u → xs[j * sh.length + i]? = some u
theorem Things.nil (w : World) (us : List TypeId) (sh : List Sh) (xs : List Value) : Things w us sh [] xs := fun j d h => by simp at h
theorem Things.keeps {ts us : List TypeId} {w w' : World} {sh : List Sh} {ds : List (List Da)} {xs : List Value} (h : Things w us sh ds xs) (hk : Keeps ts w w') (hd : ∀ t, t ∈ us → t ∉ ts) : Things w' us sh ds xs := fun j d hj => by
  obtain ⟨vs, h1, h2⟩ := h j d hj
  exact ⟨vs, h1.keeps hk hd, h2⟩
theorem Things.snoc {us : List TypeId} {w : World} {sh : List Sh} {ds : List (List Da)} {xs vs : List Value} {d : List Da} (h : Things w us sh ds xs) (hx : xs.length = ds.length * sh.length) (hv : Cels w (InT w us) sh d vs) : Things w us sh (ds ++ [d]) (xs ++ vs) := fun j d' hj => by
  by_cases hlt : j < ds.length
  · rw [List.getElem?_append_left hlt] at hj
    obtain ⟨vs', h1, h2⟩ := h j d' hj
    refine ⟨vs', h1, fun i u hu => ?_⟩
    have h3 := h2 i u hu
    have h4 : j * sh.length + i < xs.length := by
      rcases Nat.lt_or_ge (j * sh.length + i) xs.length with h4 | h4
      · exact h4
      · rw [List.getElem?_eq_none h4] at h3; cases h3
    rw [List.getElem?_append_left h4]
    exact h3
  · have hje : j = ds.length := by
      rcases Nat.lt_or_ge j (ds.length + 1) with h4 | h4
      · omega
      · rw [List.getElem?_eq_none (by simp; omega)] at hj; cases hj
    subst hje
    rw [List.getElem?_append_right (Nat.le_refl _), Nat.sub_self] at hj
    simp only [List.getElem?_cons_zero, Option.some.injEq] at hj
    subst hj
    refine ⟨vs, hv, fun i u hu => ?_⟩
    rw [List.getElem?_append_right (by omega), hx, Nat.add_sub_cancel_left]
    exact hu
theorem Keeps.grown_new {ts : List TypeId} {w w2 w3 : World} {row : Option Nat} (h : Keeps ts w w2) (hg : w2.grownBy w3 row) (hr : ∀ k, row = some k → w.heap.size ≤ k) : Keeps ts w w3 :=
  ⟨Nat.le_trans h.size hg.size, fun k t hk hn => by
    rw [hg.block k (by have := hk.lt; have := h.size; omega) (by intro e; have := hr k e.symm; have := hk.lt; omega)]
    exact h.block k t hk hn⟩
theorem Keeps.then_below {ts : List TypeId} {w w2 w3 : World} (h : Keeps ts w w2) (hb : Below w2.heap.size w2 w3) : Keeps ts w w3 := h.trans (Keeps.of_below hb (Nat.le_refl _))

theorem wpList_appN {P : Program} {w : World} {ops : Array Oper} {rest : List Oper} {o : Oper} {a : Act} {Q : Exit → Act → World → Prop} (hgd : o.guard = none) (s x : Operand) (t : TypeId)
    (ho : o.op = .call { callee := .builtin .append, args := #[s, x], argTypes := #[t, t] })
    (base : Nat) (e : TypeId) (i : TypeInfo) (z : Value) (size bytes : Nat) (ht : P.underlying t = some (.slice e)) (hi : P.info? e = some i) (hz : i.zero = some z)
    (hsize : i.size = size) (hby : i.bytes = bytes) (hzs : z.cells.size = size) (hsz : 0 < size)
    (v : Value) (n : Nat) (xs : List Value) (hs : a.eval s = v) (hown : w.ownsRow base e size v n xs)
    (ad : Addr) (c : Nat) (news : List Value) (hx : a.eval x = .slice (some ad) 1 c) (hl : news.length = size) (hnews : ∀ j u, news[j]? = some u → w.cell? (ad.add j) = some u) (h1 : ∀ u ∈ news, u.oneCell' = true)
    (h63 : n + 1 ≤ maxLen) (hbytes : (n + 1) * bytes ≤ 140737488355328) (hbase : base ≤ w.heap.size)
    (h : ∀ A' c' w', Hid (w'.ownsRow base e size (.slice A' (n + 1) c') (n + 1) (xs ++ news)) → Hid (w.grownBy w' v.ownBlock) → wpList P ops Q rest (a.put o.dst (.slice A' (n + 1) c')) w') : wpList P ops Q (o :: rest) a w := by
  refine wpList_plain hgd fun K hK => ?_
  obtain ⟨v', w', hrun, h2, h3, _⟩ := run_append_own (P := P) w base t o.type e i z size bytes ht hi hz hsize hby hzs hsz v n xs hown ad 1 c news (by rw [hl, Nat.one_mul]) hnews h1 h63 hbytes hbase
  unfold Oper.wp execOp
  simp only [ho, resolve, invoke, builtin, Sem.run_bind, Sem.run_pure, Result.andThen_ok, List.map_toArray, List.map_cons, List.map_nil, hs, hx, hrun]
  obtain ⟨A', c', rfl⟩ := own_slice h2
  exact hK _ _ (h A' c' w' h2 h3)
theorem Blk.news {w : World} {g : Nat} {t : TypeId} {cs : List Value} (h : Blk w g t cs) : ∀ j u, cs[j]? = some u → w.cell? ((⟨g, 0, none⟩ : Addr).add j) = some u := fun j u hu => by
  rw [Addr.add_mid, Nat.zero_add]
  exact (h.cell j).trans hu
theorem Cel.oneCell {w : World} {S : Nat → Prop} {a : Sh} {d : Da} {v : Value} (h : Cel w S a d v) : v.oneCell' = true := by
  cases a with
  | num => obtain ⟨_, _, rfl⟩ := h.num; rfl
  | whole => obtain ⟨_, _, rfl, _⟩ := h.whole; rfl
  | text => obtain ⟨_, _, rfl⟩ := h.txt; rfl
  | flag => obtain ⟨_, _, rfl⟩ := h.flag; rfl
  | rows l => obtain ⟨_, _, _, _, rfl, _⟩ := h.rows; rfl
theorem Cels.oneCell {w : World} {S : Nat → Prop} : ∀ {l : List Sh} {ds : List Da} {vs : List Value}, Cels w S l ds vs → ∀ u ∈ vs, u.oneCell' = true
  | [], ds, vs, h => by
    obtain ⟨rfl, rfl⟩ := h.nil
    intro u hu
    cases hu
  | a :: l, ds, vs, h => by
    obtain ⟨d, ds', v, vs', rfl, rfl, h1, h2⟩ := h.cons
    intro u hu
    rcases List.mem_cons.1 hu with rfl | hu
    · exact h1.oneCell
    · exact h2.oneCell u hu

/-! ### Many cells stored into a known block. -/
/-- Cells laid over a list from offset o on. -/
def laidOver : List Value → Nat → List Value → List Value
  | cs, _, [] => cs
  | cs, o, v :: r => laidOver (cs.set o v) (o + 1) r
theorem Blk.setCells_ {w : World} {g : Nat} {t : TypeId} : ∀ {cs : List Value} (o : Nat) (vs : List Value), Blk w g t cs → Blk (w.setCells g o vs) g t (laidOver cs o vs)
  | _, _, [], h => h
  | _, o, v :: r, h => Blk.setCells_ (o + 1) r (h.set_ o v)
theorem laidOver_mid : ∀ (new : List Value) (pre old post : List Value), old.length = new.length → laidOver (pre ++ (old ++ post)) pre.length new = pre ++ (new ++ post)
  | [], pre, old, post, h => by
    obtain rfl : old = [] := List.eq_nil_of_length_eq_zero h
    rfl
  | v :: r, pre, old, post, h => by
    cases old with
    | nil => simp at h
    | cons u old =>
      have e : (pre ++ (u :: old ++ post)).set pre.length v = (pre ++ [v]) ++ (old ++ post) := by
        rw [List.set_append, if_neg (by omega), Nat.sub_self]
        simp
      have h2 := laidOver_mid r (pre ++ [v]) old post (by simpa using h)
      rw [laidOver, e]
      rw [List.length_append] at h2
      refine h2.trans ?_
      simp
theorem Blk.setCells {w : World} {g : Nat} {t : TypeId} {cs cs' : List Value} (h : Blk w g t cs) (o : Nat) (new : List Value) (pre old post : List Value) (he : cs = pre ++ (old ++ post)) (hl : old.length = new.length) (ho : pre.length = o) (he' : pre ++ (new ++ post) = cs') : Blk (w.setCells g o new) g t cs' := by
  subst ho
  have h2 := h.setCells_ pre.length new
  rwa [he, laidOver_mid new pre old post hl, he'] at h2
theorem Blk.setCells0 {w : World} {g : Nat} {t : TypeId} {cs : List Value} (h : Blk w g t cs) (new : List Value) (hl : cs.length = new.length) : Blk (w.setCells g 0 new) g t new :=
  h.setCells 0 new [] cs [] (by simp) hl rfl (by simp)
theorem Keeps.setCells {ts : List TypeId} {g : Nat} {t : TypeId} (ht : t ∈ ts) : ∀ {w : World} (_ : TypeAt w g t) (o : Nat) (vs : List Value), Keeps ts w (w.setCells g o vs)
  | _, _, _, [] => Keeps.refl _ _
  | _, hg, o, v :: r => (Keeps.set_ hg ht v).trans (Keeps.setCells ht (hg.setCell _ _) (o + 1) r)
theorem below_setCells_ {B g : Nat} (hg : B ≤ g) : ∀ {w : World} (o : Nat) (vs : List Value), Below B w (w.setCells g o vs)
  | _, _, [] => Below.refl _ _
  | _, o, v :: r => ((Below.refl B _).setCell hg v).trans (below_setCells_ hg (o + 1) r)
theorem Blk.there {w : World} {g : Nat} {t : TypeId} {cs : List Value} (h : Blk w g t cs) (o n : Nat) (hn : o + n ≤ cs.length) : w.there g o n := fun j hj => by
  refine ⟨?_, h.frozen _⟩
  rw [h.cell, List.getElem?_eq_getElem (by omega)]
  rfl
theorem Keeps.below_new {ts : List TypeId} {w w2 w3 : World} (h : Keeps ts w w2) (hb : Below w.heap.size w2 w3) : Keeps ts w w3 :=
  ⟨Nat.le_trans h.size hb.size, fun k t hk hn => (hb.block k hk.lt).trans (h.block k t hk hn)⟩

theorem rows_keeps {ts us : List TypeId} {w w' : World} {l : List Sh} {ds : List (List Da)} {A : Option Addr} (h : RowsAt w (InT w us) l ds A) (hk : Keeps ts w w') (hd : ∀ t, t ∈ us → t ∉ ts) : RowsAt w' (InT w' us) l ds A := h.turn (hk.inT hd) (fun _ hp => hk.cell hd hp)
/-- A struct's variable is read whole at the end. -/
theorem results_cell {P : Program} {fn : Func} {t : Tmp} {ty : TypeId} (h : fn.results = #[.cell t ty]) (tmps : Array Value) (w : World) (b : Nat) (hb : tmps.getD t undef = .pointer (some ⟨b, 0, none⟩)) (cs : List Value) (d : TypeDesc) (hc : w.rangeAt b 0 cs)
    (hu : P.underlying ty = some d) (hd : d.isRow = true) (hi : (P.info? ty).map (·.size) = some cs.length) : (results fn tmps).run P w = .ok (.agg cs.toArray) w := by
  have hl := run_loadVar_mid w b 0 ty cs d hc hu hd hi
  have hb' : tmps[t]?.getD undef = .pointer (some ⟨b, 0, none⟩) := by simpa using hb
  simp [results, h, hb', hl, asAddr]

/-! ### A known block loaded whole, stored whole; the world behind is a variable. -/
/-- From w to w' block b alone was written: it holds cs now. -/
structure Stored (w w' : World) (b : Nat) (t : TypeId) (cs : List Value) : Prop where
  blk : Blk w' b t cs
  far : ∀ k, k ≠ b → w'.heap[k]? = w.heap[k]?
  size : w'.heap.size = w.heap.size
  typ : TypeAt w b t
  bel : Below b w w'
section
variable {w w' : World} {b : Nat} {t : TypeId} {cs : List Value}
theorem Stored.keeps (h : Stored w w' b t cs) : Keeps [t] w w' := ⟨Nat.le_of_eq h.size.symm, fun k t' hk hn => h.far k (by rintro rfl; exact hn (by simp [hk.same h.typ]))⟩
theorem Stored.other (h : Stored w w' b t cs) {g : Nat} {t' : TypeId} {cs' : List Value} (hB : Blk w g t' cs') (hne : g ≠ b) : Blk w' g t' cs' := (h.far g hne).trans hB
theorem Stored.below (h : Stored w w' b t cs) {w0 : World} {B : Nat} (hb : Below B w0 w) (hB : B ≤ b) : Below B w0 w' :=
  hb.trans (h.bel.mono hB)
end
theorem setCells_size (w : World) (g : Nat) : ∀ (o : Nat) (vs : List Value), (w.setCells g o vs).heap.size = w.heap.size
  | _, [] => rfl
  | o, v :: r => by rw [show w.setCells g o (v :: r) = (w.setCell ⟨g, o, none⟩ v).setCells g (o + 1) r from rfl, setCells_size]; simp [World.setCell]
theorem setCells_far (w : World) (g : Nat) {k : Nat} (hk : k ≠ g) : ∀ (o : Nat) (vs : List Value), (w.setCells g o vs).heap[k]? = w.heap[k]?
  | _, [] => rfl
  | o, v :: r => by
    rw [show w.setCells g o (v :: r) = (w.setCell ⟨g, o, none⟩ v).setCells g (o + 1) r from rfl, setCells_far _ g hk]
    exact Below.heap_setCell w ⟨g, o, none⟩ v k hk
theorem wpList_load_blk {P : Program} {ops : Array Oper} {rest : List Oper} {op : Oper} {a : Act} {w : World} {Q : Exit → Act → World → Prop} (hgd : op.guard = none) (ty : TypeId) (x : Operand) (ho : op.op = .load ty x)
    (b : Nat) (hx : a.eval x = .pointer (some ⟨b, 0, none⟩)) {t : TypeId} {cs : List Value} (hB : Hid (Blk w b t cs)) {n : Nat} (hn : cs.length = n) {d : TypeDesc} (hu : P.underlying ty = some d) (hd : d.isRow = true) (hi : Hid ((P.info? ty).map (·.size) = some n))
    (h : wpList P ops Q rest (a.put op.dst (.agg cs.toArray)) w) : wpList P ops Q (op :: rest) a w :=
  wpList_load_mid hgd ty x ho b 0 hx cs d hB.out.range0 hu hd (hn ▸ hi.out) h
theorem wpList_store_blk {P : Program} {ops : Array Oper} {rest : List Oper} {op : Oper} {a : Act} {w : World} {Q : Exit → Act → World → Prop} (hgd : op.guard = none) (ty : TypeId) (x y : Operand) (ho : op.op = .store ty x y)
    (b : Nat) (cs : List Value) (hx : a.eval x = .pointer (some ⟨b, 0, none⟩)) (hy : a.eval y = .agg cs.toArray) {t : TypeId} {cs0 : List Value} (hB : Hid (Blk w b t cs0)) {n : Nat} (hn0 : cs0.length = n) (hn : cs.length = n)
    (hi : Hid ((P.info? ty).map (·.size) = some n)) (h1 : ∀ v ∈ cs, v.oneCell' = true)
    (h : ∀ w', Hid (Stored w w' b t cs) → wpList P ops Q rest (a.put op.dst undef) w') : wpList P ops Q (op :: rest) a w := by
  refine wpList_store_mid hgd ty x y ho b 0 cs.toArray hx hy (hB.out.there 0 _ (by simp [hn0, hn])) (by rw [List.size_toArray, hn]; exact hi.out) (all_oneCell_toArray h1) (h _ (Lib.hid ?_))
  exact ⟨hB.out.setCells0 _ (by rw [hn0, hn]), fun k hk => setCells_far w b hk 0 _, setCells_size w b 0 _, hB.out.typ, below_setCells_ (Nat.le_refl _) 0 _⟩
theorem results_blk {P : Program} {fn : Func} {t : Tmp} {ty : TypeId} (h : fn.results = #[.cell t ty]) (tmps : Array Value) (w : World) (b : Nat) (hb : tmps.getD t undef = .pointer (some ⟨b, 0, none⟩)) {t' : TypeId} {cs : List Value} (hB : Hid (Blk w b t' cs)) {n : Nat} (hn : cs.length = n) {d : TypeDesc}
    (hu : P.underlying ty = some d) (hd : d.isRow = true) (hi : Hid ((P.info? ty).map (·.size) = some n)) : (results fn tmps).run P w = .ok (.agg cs.toArray) w :=
  results_cell h tmps w b hb cs d hB.out.range0 hu hd (hn ▸ hi.out)
end Go.Proofs.Ytkdmfjpfanmgmaa
