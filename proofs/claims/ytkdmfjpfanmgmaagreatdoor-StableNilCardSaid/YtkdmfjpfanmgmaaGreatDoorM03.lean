/- Joined by mkmerge.py from the proof's texts Cel. Conditions: each theorem's own hypotheses. -/
import Derived.Test.YtkdmfjpfanmgmaaGreatDoorM02
import Derived.Test.YtkdmfjpfanmgmaaGreatDoorM01
import Derived.Deep.MidRow
namespace Go.Proofs.YtkdmfjpfanmgmaaGreatDoor
open Go.RowKit
/-! ### Blocks that stay, by their type. -/
/-- Block k is a row of cells of type t. -/
def TypeAt (w : World) (k : Nat) (t : TypeId) : Prop := ∃ cs fr, w.heap[k]? = some (.cells cs t fr)
theorem TypeAt.lt {w : World} {k : Nat} {t : TypeId} (h : TypeAt w k t) : k < w.heap.size := by
  obtain ⟨cs, fr, h⟩ := h
  exact (Array.getElem?_eq_some_iff.1 h).1
theorem TypeAt.same {w : World} {k : Nat} {t t' : TypeId} (h : TypeAt w k t) (h' : TypeAt w k t') : t = t' := by
  obtain ⟨cs, fr, h⟩ := h
  obtain ⟨cs', fr', h'⟩ := h'
  rw [h] at h'
  injection h' with h'
  injection h'
theorem TypeAt.of_eq {w w' : World} {k : Nat} {t : TypeId} (h : TypeAt w k t) (he : w'.heap[k]? = w.heap[k]?) : TypeAt w' k t := by
  obtain ⟨cs, fr, h⟩ := h
  exact ⟨cs, fr, he.trans h⟩
theorem TypeAt.setCell {w : World} {k : Nat} {t : TypeId} (h : TypeAt w k t) (p : Addr) (u : Value) : TypeAt (w.setCell p u) k t := by
  obtain ⟨cs, fr, h⟩ := h
  by_cases e : k = p.block
  · subst e
    refine ⟨if p.spot.isSome then cs else cs.setIfInBounds p.off u, fr, ?_⟩
    simp only [World.setCell, Array.getElem?_modify, h]
    cases p.spot <;> simp
  · exact ⟨cs, fr, (Below.heap_setCell w p u k e).trans h⟩
theorem Blk.typ {w : World} {g : Nat} {t : TypeId} {cs : List Value} (h : Blk w g t cs) : TypeAt w g t := ⟨_, _, h⟩
/-- From w to w' the typed blocks stay, but for those of the types ts. -/
structure Keeps (ts : List TypeId) (w w' : World) : Prop where
  size : w.heap.size ≤ w'.heap.size
  block : ∀ k t, TypeAt w k t → t ∉ ts → w'.heap[k]? = w.heap[k]?
section
variable {ts : List TypeId} {w w' w'' : World}
theorem Keeps.refl (ts : List TypeId) (w : World) : Keeps ts w w := ⟨Nat.le_refl _, fun _ _ _ _ => rfl⟩
theorem Keeps.typ (h : Keeps ts w w') {k : Nat} {t : TypeId} (ht : TypeAt w k t) (hn : t ∉ ts) : TypeAt w' k t := by
  obtain ⟨cs, fr, e⟩ := ht
  exact ⟨cs, fr, (h.block k t ⟨cs, fr, e⟩ hn).trans e⟩
theorem Keeps.trans (h : Keeps ts w w') (g : Keeps ts w' w'') : Keeps ts w w'' :=
  ⟨Nat.le_trans h.size g.size, fun k t ht hn => (g.block k t (h.typ ht hn) hn).trans (h.block k t ht hn)⟩
theorem Keeps.more {ts' : List TypeId} (h : Keeps ts w w') (hs : ∀ t, t ∈ ts → t ∈ ts') : Keeps ts' w w' :=
  ⟨h.size, fun k t ht hn => h.block k t ht fun hm => hn (hs t hm)⟩
theorem Keeps.of_below {n : Nat} (h : Below n w w') (hn : w.heap.size ≤ n) : Keeps ts w w' :=
  ⟨by have := h.size; omega, fun k t ht _ => h.block k (by have := ht.lt; omega)⟩
theorem Keeps.alloc (w : World) (o : Obj) : Keeps ts w (w.alloc o) :=
  Keeps.of_below ((Below.refl _ _).alloc (Nat.le_refl _) o) (Nat.le_refl _)
theorem Keeps.drew (w : World) : Keeps ts w w.drew := ⟨Nat.le_refl _, fun _ _ _ _ => rfl⟩
theorem Keeps.set_ {g i : Nat} {t : TypeId} (hg : TypeAt w g t) (ht : t ∈ ts) (u : Value) : Keeps ts w (w.setCell ⟨g, i, none⟩ u) := by
  refine ⟨by simp [World.setCell], fun k t' hk hn => ?_⟩
  refine Below.heap_setCell w ⟨g, i, none⟩ u k fun e => ?_
  subst e
  exact hn ((hk.same hg) ▸ ht)
theorem own_typ {base : Nat} {e : TypeId} {size n : Nat} {v : Value} {xs : List Value} (h : w.ownsRow base e size v n xs) {k : Nat} (hk : v.ownBlock = some k) : TypeAt w k e := by
  rcases h.2 with ⟨rfl, _⟩ | ⟨g, cap, cur, rfl, _, hg, _⟩
  · simp [Value.ownBlock] at hk
  · simp [Value.ownBlock] at hk
    subst hk
    exact ⟨_, _, hg⟩
theorem Keeps.grown {base : Nat} {e : TypeId} {size n : Nat} {v : Value} {xs : List Value} (h : w.ownsRow base e size v n xs) (hg : w.grownBy w' v.ownBlock) (he : e ∈ ts) (hs : w.heap.size ≤ w'.heap.size) : Keeps ts w w' := by
  refine ⟨hs, fun k t hk hn => hg.block k hk.lt fun e' => ?_⟩
  exact hn ((hk.same (own_typ h e'.symm)) ▸ he)
theorem Blk.keeps {g : Nat} {t : TypeId} {cs : List Value} (h : Blk w g t cs) (hk : Keeps ts w w') (hn : t ∉ ts) : Blk w' g t cs := (hk.block g t h.typ hn).trans h
theorem _root_.Go.World.ownsRow.keeps {base : Nat} {e : TypeId} {size n : Nat} {v : Value} {xs : List Value} (h : w.ownsRow base e size v n xs) (hk : Keeps ts w w') (hn : e ∉ ts) : w'.ownsRow base e size v n xs := by
  refine ⟨h.1, ?_⟩
  rcases h.2 with hn' | ⟨g, cap, cur, rfl, hbg, hg, rest⟩
  · exact .inl hn'
  · exact .inr ⟨g, cap, cur, rfl, hbg, by rw [hk.block g e ⟨_, _, hg⟩ hn]; exact hg, rest⟩
end
theorem add_field (ad : Addr) (k i : Nat) (h : 0 < i) : ad.add (k + i) = ⟨(ad.add k).block, (ad.add k).off + i, none⟩ := by
  rw [← add_of_add]
  generalize ad.add k = x
  unfold Addr.add
  rw [if_neg (by omega)]
/-- A known block's cells as a range, for a load of many cells. -/
theorem Blk.range0 {w : World} {g : Nat} {t : TypeId} {cs : List Value} (h : Blk w g t cs) : w.rangeAt g 0 cs := fun j v hv => by
  rw [Nat.zero_add]
  exact (h.cell j).trans hv
theorem Blk.range {w : World} {g : Nat} {t : TypeId} {cs0 : List Value} (h : Blk w g t cs0) (o : Nat) (cs : List Value) (he : (cs0.drop o).take cs.length = cs) : w.rangeAt g o cs := fun j v hv => by
  rw [← he, List.getElem?_take] at hv
  split at hv
  · rw [List.getElem?_drop] at hv
    exact (h.cell (o + j)).trans hv
  · cases hv
/-- A fact on the world at a call, laid ahead of the contract. -/
theorem at_below {P : Program} {f : FuncId} {args : Array Value} {Q : Ending → World → Prop} (w wX : World) (h : Below w.heap.size w wX) (k : Below w.heap.size w wX → Calls P f args wX Q) : Calls P f args wX Q := k h
/-! ### Fields that hold data of a shape. -/
mutual
/-- A field's value holds a datum of a shape; what it leads to lies in blocks of S. -/
def Cel (w : World) (S : Nat → Prop) : Sh → Da → Value → Prop
  | .num, .int n, v => v = .int .i64 n
  | .whole, .int n, v => v = .int .i64 n ∧ -9223372036854775808 ≤ n ∧ n ≤ 9223372036854775807
  | .text, .text b, v => v = .string (text b)
  | .flag, .flag b, v => v = .bool b
  | .rows l, .rows ds, v => ∃ A c, v = .slice A ds.length c ∧ (0 < ds.length → ∃ ad, A = some ad ∧ S ad.block ∧
      ∀ (j : Nat) (d : List Da), ds[j]? = some d → ∃ vs, Cels w S l d vs ∧ ∀ (i : Nat) (u : Value), vs[i]? = some u → w.cell? (ad.add (j * l.length + i)) = some u)
  | _, _, _ => False
/-- Fields, one behind the other, each of one cell. -/
def Cels (w : World) (S : Nat → Prop) : List Sh → List Da → List Value → Prop
  | [], [], vs => vs = []
  | a :: l, d :: ds, vs => ∃ v vs', vs = v :: vs' ∧ Cel w S a d v ∧ Cels w S l ds vs'
  | _, _, _ => False
end
section
variable {w w' : World} {S S' : Nat → Prop}
mutual
theorem Cel.turn (hs : ∀ k, S k → S' k) (hc : ∀ p : Addr, S p.block → w'.cell? p = w.cell? p) : ∀ (a : Sh) (d : Da) (v : Value), Cel w S a d v → Cel w' S' a d v
  | .num, .int n, v, h => by simpa only [Cel] using h
  | .whole, .int n, v, h => by simpa only [Cel] using h
  | .text, .text b, v, h => by simpa only [Cel] using h
  | .flag, .flag b, v, h => by simpa only [Cel] using h
  | .rows l, .rows ds, v, h => by
    simp only [Cel] at h ⊢
    obtain ⟨A, c, hv, h⟩ := h
    refine ⟨A, c, hv, fun hn => ?_⟩
    obtain ⟨ad, hA, hS, h⟩ := h hn
    refine ⟨ad, hA, hs _ hS, fun j d hd => ?_⟩
    obtain ⟨vs, h1, h2⟩ := h j d hd
    exact ⟨vs, Cels.turn hs hc l d vs h1, fun i u hu => (hc _ (by rw [block_of_add]; exact hS)).trans (h2 i u hu)⟩
  | .num, .text _, v, h => by simp only [Cel] at h
  | .num, .flag _, v, h => by simp only [Cel] at h
  | .num, .rows _, v, h => by simp only [Cel] at h
  | .whole, .text _, v, h => by simp only [Cel] at h
  | .whole, .flag _, v, h => by simp only [Cel] at h
  | .whole, .rows _, v, h => by simp only [Cel] at h
  | .text, .int _, v, h => by simp only [Cel] at h
  | .text, .flag _, v, h => by simp only [Cel] at h
  | .text, .rows _, v, h => by simp only [Cel] at h
  | .flag, .int _, v, h => by simp only [Cel] at h
  | .flag, .text _, v, h => by simp only [Cel] at h
  | .flag, .rows _, v, h => by simp only [Cel] at h
  | .rows _, .int _, v, h => by simp only [Cel] at h
  | .rows _, .text _, v, h => by simp only [Cel] at h
  | .rows _, .flag _, v, h => by simp only [Cel] at h
theorem Cels.turn (hs : ∀ k, S k → S' k) (hc : ∀ p : Addr, S p.block → w'.cell? p = w.cell? p) : ∀ (l : List Sh) (ds : List Da) (vs : List Value), Cels w S l ds vs → Cels w' S' l ds vs
  | [], [], vs, h => by simpa only [Cels] using h
  | a :: l, d :: ds, vs, h => by
    simp only [Cels] at h ⊢
    obtain ⟨v, vs', e, h1, h2⟩ := h
    exact ⟨v, vs', e, Cel.turn hs hc a d v h1, Cels.turn hs hc l ds vs' h2⟩
  | [], _ :: _, vs, h => by simp only [Cels] at h
  | _ :: _, [], vs, h => by simp only [Cels] at h
end
theorem Cels.cons {a : Sh} {l : List Sh} {ds : List Da} {vs : List Value} (h : Cels w S (a :: l) ds vs) : ∃ d ds' v vs', ds = d :: ds' ∧ vs = v :: vs' ∧ Cel w S a d v ∧ Cels w S l ds' vs' := by
  cases ds with
  | nil => simp only [Cels] at h
  | cons d ds =>
    simp only [Cels] at h
    obtain ⟨v, vs', e, h1, h2⟩ := h
    exact ⟨d, ds, v, vs', rfl, e, h1, h2⟩
theorem Cels.nil {ds : List Da} {vs : List Value} (h : Cels w S [] ds vs) : ds = [] ∧ vs = [] := by
  cases ds with
  | nil => exact ⟨rfl, by simpa only [Cels] using h⟩
  | cons d ds => simp only [Cels] at h
theorem Cels.mk {a : Sh} {l : List Sh} {d : Da} {ds : List Da} {v : Value} {vs : List Value} (h : Cel w S a d v) (hs : Cels w S l ds vs) : Cels w S (a :: l) (d :: ds) (v :: vs) := by
  simp only [Cels]
  exact ⟨v, vs, rfl, h, hs⟩
theorem Cels.mk0 : Cels w S [] [] [] := by simp only [Cels]
theorem Cels.one {a : Sh} {d : Da} {v : Value} (h : Cel w S a d v) : Cels w S [a] [d] [v] := Cels.mk h Cels.mk0
theorem Cels.len : ∀ {l : List Sh} {ds : List Da} {vs : List Value}, Cels w S l ds vs → ds.length = l.length ∧ vs.length = l.length
  | [], ds, vs, h => by
    obtain ⟨rfl, rfl⟩ := h.nil
    exact ⟨rfl, rfl⟩
  | a :: l, ds, vs, h => by
    obtain ⟨d, ds', v, vs', rfl, rfl, _, h⟩ := h.cons
    have := h.len
    simp [this.1, this.2]
/-- The first fields and the others. -/
theorem Cels.split : ∀ {l l' : List Sh} {ds : List Da} {vs : List Value}, Cels w S (l ++ l') ds vs → ∃ d1 d2 v1 v2, ds = d1 ++ d2 ∧ vs = v1 ++ v2 ∧ Cels w S l d1 v1 ∧ Cels w S l' d2 v2
  | [], l', ds, vs, h => ⟨[], ds, [], vs, rfl, rfl, Cels.mk0, h⟩
  | a :: l, l', ds, vs, h => by
    obtain ⟨d, ds', v, vs', rfl, rfl, h1, h2⟩ := Cels.cons (l := l ++ l') h
    obtain ⟨d1, d2, v1, v2, rfl, rfl, h3, h4⟩ := Cels.split h2
    exact ⟨d :: d1, d2, v :: v1, v2, rfl, rfl, Cels.mk h1 h3, h4⟩
theorem Cels.join : ∀ {l l' : List Sh} {d1 d2 : List Da} {v1 v2 : List Value}, Cels w S l d1 v1 → Cels w S l' d2 v2 → Cels w S (l ++ l') (d1 ++ d2) (v1 ++ v2)
  | [], l', d1, d2, v1, v2, h, h' => by
    obtain ⟨rfl, rfl⟩ := h.nil
    exact h'
  | a :: l, l', d1, d2, v1, v2, h, h' => by
    obtain ⟨d, ds', v, vs', rfl, rfl, h1, h2⟩ := h.cons
    exact Cels.mk h1 (h2.join h')
theorem Cel.num {d : Da} {v : Value} (h : Cel w S .num d v) : ∃ n, d = .int n ∧ v = .int .i64 n := by
  cases d <;> simp only [Cel] at h
  exact ⟨_, rfl, h⟩
theorem Cel.whole {d : Da} {v : Value} (h : Cel w S .whole d v) : ∃ n, d = .int n ∧ v = .int .i64 n ∧ -9223372036854775808 ≤ n ∧ n ≤ 9223372036854775807 := by
  cases d <;> simp only [Cel] at h
  exact ⟨_, rfl, h⟩
theorem Cel.txt {d : Da} {v : Value} (h : Cel w S .text d v) : ∃ b, d = .text b ∧ v = .string (text b) := by
  cases d <;> simp only [Cel] at h
  exact ⟨_, rfl, h⟩
theorem Cel.flag {d : Da} {v : Value} (h : Cel w S .flag d v) : ∃ b, d = .flag b ∧ v = .bool b := by
  cases d <;> simp only [Cel] at h
  exact ⟨_, rfl, h⟩
/-- A list of things at A. -/
def RowsAt (w : World) (S : Nat → Prop) (l : List Sh) (ds : List (List Da)) (A : Option Addr) : Prop :=
  0 < ds.length → ∃ ad, A = some ad ∧ S ad.block ∧ ∀ (j : Nat) (d : List Da), ds[j]? = some d → ∃ vs, Cels w S l d vs ∧ ∀ (i : Nat) (u : Value), vs[i]? = some u → w.cell? (ad.add (j * l.length + i)) = some u
theorem Cel.rows {l : List Sh} {d : Da} {v : Value} (h : Cel w S (.rows l) d v) : ∃ ds A c, d = .rows ds ∧ v = .slice A ds.length c ∧ RowsAt w S l ds A := by
  cases d <;> simp only [Cel] at h
  obtain ⟨A, c, hv, h⟩ := h
  exact ⟨_, A, c, rfl, hv, h⟩
theorem Cel.mk_rows {l : List Sh} {ds : List (List Da)} {A : Option Addr} (c : Nat) (h : RowsAt w S l ds A) : Cel w S (.rows l) (.rows ds) (.slice A ds.length c) := by
  simp only [Cel]
  exact ⟨A, c, rfl, h⟩
theorem Cel.mk_num (n : Int) : Cel w S .num (.int n) (.int .i64 n) := by simp only [Cel]
theorem Cel.mk_whole {n : Int} (h : -9223372036854775808 ≤ n ∧ n ≤ 9223372036854775807) : Cel w S .whole (.int n) (.int .i64 n) := by simp only [Cel]; exact ⟨trivial, h⟩
theorem Cel.mk_text (b : List UInt8) : Cel w S .text (.text b) (.string (text b)) := by simp only [Cel]
theorem Cel.mk_flag (b : Bool) : Cel w S .flag (.flag b) (.bool b) := by simp only [Cel]
theorem RowsAt.nil {l : List Sh} {A : Option Addr} : RowsAt w S l [] A := fun h => absurd h (by simp)
theorem RowsAt.turn {l : List Sh} {ds : List (List Da)} {A : Option Addr} (h : RowsAt w S l ds A) (hs : ∀ k, S k → S' k) (hc : ∀ p : Addr, S p.block → w'.cell? p = w.cell? p) : RowsAt w' S' l ds A := fun hn => by
  obtain ⟨ad, e, hS, h⟩ := h hn
  refine ⟨ad, e, hs _ hS, fun j d hd => ?_⟩
  obtain ⟨vs, h1, h2⟩ := h j d hd
  exact ⟨vs, Cels.turn hs hc l d vs h1, fun i u hu => (hc _ (by rw [block_of_add]; exact hS)).trans (h2 i u hu)⟩
/-- One element, its cells. -/
theorem RowsAt.at_ {l : List Sh} {ds : List (List Da)} {A : Option Addr} (h : RowsAt w S l ds A) {j : Nat} (hj : j < ds.length) :
    ∃ ad vs, A = some ad ∧ Cels w S l ds[j] vs ∧ ∀ (i : Nat) (u : Value), vs[i]? = some u → w.cell? (ad.add (j * l.length + i)) = some u := by
  obtain ⟨ad, e, _, h⟩ := h (by omega)
  obtain ⟨vs, h1, h2⟩ := h j ds[j] (List.getElem?_eq_getElem hj)
  exact ⟨ad, vs, e, h1, h2⟩
theorem RowsAt.block {l : List Sh} {ds : List (List Da)} {ad : Addr} (h : RowsAt w S l ds (some ad)) (hn : 0 < ds.length) : S ad.block := by
  obtain ⟨ad', e, hS, _⟩ := h hn
  injection e with e
  exact e ▸ hS
end
/-- Data that lie below a block. -/
theorem Cel.below {w w' : World} {B : Nat} {a : Sh} {d : Da} {v : Value} (h : Cel w (· < B) a d v) (hb : Below B w w') : Cel w' (· < B) a d v := Cel.turn (fun _ h => h) (fun _ hp => hb.cell hp) a d v h
theorem Cels.below {w w' : World} {B : Nat} {l : List Sh} {ds : List Da} {vs : List Value} (h : Cels w (· < B) l ds vs) (hb : Below B w w') : Cels w' (· < B) l ds vs := Cels.turn (fun _ h => h) (fun _ hp => hb.cell hp) l ds vs h
theorem RowsAt.below {w w' : World} {B : Nat} {l : List Sh} {ds : List (List Da)} {A : Option Addr} (h : RowsAt w (· < B) l ds A) (hb : Below B w w') : RowsAt w' (· < B) l ds A := h.turn (fun _ h => h) (fun _ hp => hb.cell hp)
theorem Cels.more {w : World} {B B' : Nat} {l : List Sh} {ds : List Da} {vs : List Value} (h : Cels w (· < B) l ds vs) (hb : B ≤ B') : Cels w (· < B') l ds vs := Cels.turn (fun _ h => Nat.lt_of_lt_of_le h hb) (fun _ _ => rfl) l ds vs h
/-- Data that lie in blocks of some types. -/
def InT (w : World) (ts : List TypeId) : Nat → Prop := fun k => ∃ t, t ∈ ts ∧ TypeAt w k t
theorem Keeps.cell {ts us : List TypeId} {w w' : World} (h : Keeps ts w w') (hd : ∀ t, t ∈ us → t ∉ ts) {p : Addr} (hp : InT w us p.block) : w'.cell? p = w.cell? p := by
  obtain ⟨t, ht, hp⟩ := hp
  exact World.cell?_of_block (h.block p.block t hp (hd t ht))
theorem Keeps.inT {ts us : List TypeId} {w w' : World} (h : Keeps ts w w') (hd : ∀ t, t ∈ us → t ∉ ts) (k : Nat) (hp : InT w us k) : InT w' us k := by
  obtain ⟨t, ht, hp⟩ := hp
  exact ⟨t, ht, h.typ hp (hd t ht)⟩
theorem Cel.keeps {ts us : List TypeId} {w w' : World} {a : Sh} {d : Da} {v : Value} (h : Cel w (InT w us) a d v) (hk : Keeps ts w w') (hd : ∀ t, t ∈ us → t ∉ ts) : Cel w' (InT w' us) a d v := Cel.turn (hk.inT hd) (fun _ hp => hk.cell hd hp) a d v h
theorem Cels.keeps {ts us : List TypeId} {w w' : World} {l : List Sh} {ds : List Da} {vs : List Value} (h : Cels w (InT w us) l ds vs) (hk : Keeps ts w w') (hd : ∀ t, t ∈ us → t ∉ ts) : Cels w' (InT w' us) l ds vs := Cels.turn (hk.inT hd) (fun _ hp => hk.cell hd hp) l ds vs h
theorem Cel.inT_more {us us' : List TypeId} {w : World} {a : Sh} {d : Da} {v : Value} (h : Cel w (InT w us) a d v) (hd : ∀ t, t ∈ us → t ∈ us') : Cel w (InT w us') a d v := Cel.turn (fun _ ⟨t, ht, hp⟩ => ⟨t, hd t ht, hp⟩) (fun _ _ => rfl) a d v h
theorem Cels.inT_more {us us' : List TypeId} {w : World} {l : List Sh} {ds : List Da} {vs : List Value} (h : Cels w (InT w us) l ds vs) (hd : ∀ t, t ∈ us → t ∈ us') : Cels w (InT w us') l ds vs := Cels.turn (fun _ ⟨t, ht, hp⟩ => ⟨t, hd t ht, hp⟩) (fun _ _ => rfl) l ds vs h
/-- A row of the call's own as a list of things: its own elements lie in row blocks of type e, what they lead to in blocks of the types us. -/
theorem rowsAt_own {w : World} {base n c : Nat} {e : TypeId} {A : Option Addr} {xs : List Value} {us : List TypeId} {l : List Sh} {ds : List (List Da)} (_hl : 0 < l.length)
    (h : w.ownsRow base e l.length (.slice A n c) n xs) (hn : ds.length = n)
    (hd : ∀ (j : Nat) (d : List Da), ds[j]? = some d → ∃ vs, Cels w (InT w us) l d vs ∧ ∀ (i : Nat) (u : Value), vs[i]? = some u → xs[j * l.length + i]? = some u) : RowsAt w (InT w (e :: us)) l ds A := by
  intro h0
  obtain ⟨g, cap, hv, _, hlt⟩ := h.form (by omega)
  have hA : A = some ⟨g, 0, none⟩ := by injection hv
  subst hA
  refine ⟨_, rfl, ⟨e, by simp, own_typ h rfl⟩, fun j d hj => ?_⟩
  obtain ⟨vs, h1, h2⟩ := hd j d hj
  exact ⟨vs, h1.inT_more (fun t ht => List.mem_cons_of_mem _ ht), fun i u hu => h.cells (g := g) rfl _ u (h2 i u hu)⟩
end Go.Proofs.YtkdmfjpfanmgmaaGreatDoor
