/- Joined by mkmerge.py from the proof's texts Fold2, Disk0, Disk1. Conditions: each theorem's own hypotheses. -/
import Derived.Test.YtkdmfjpfanmgmaaGreatDoorM04
import Derived.Test.YtkdmfjpfanmgmaaGreatDoorM09
import Derived.Test.YtkdmfjpfanmgmaaGreatDoorM08
import Derived.Lib.SliceRun
import Derived.Deep.RegionHeld3
import Derived.Maps.OwnSet
import Derived.Maps.OwnOps
import Derived.Maps.RangeWalk
import Derived.StringKeys
namespace Go.Proofs.YtkdmfjpfanmgmaaGreatDoor
open Go.RowKit Le
set_option maxRecDepth 100000
set_option linter.unusedSimpArgs false
set_option linter.unusedVariables false
/-- A block from base on: an unfrozen row of one of the types. -/
def Nw (w : World) (base : Nat) (ts : List TypeId) (k : Nat) : Prop := base ≤ k ∧ ∃ t, t ∈ ts ∧ ∃ cs, w.heap[k]? = some (.cells cs t (0, 0))
section
variable {w w' : World} {base base' : Nat} {ts ts' : List TypeId} {k : Nat}
theorem Nw.lt (h : Nw w base ts k) : k < w.heap.size := by
  obtain ⟨_, t, _, cs, h⟩ := h
  exact (Array.getElem?_eq_some_iff.1 h).1
theorem Nw.below (h : Nw w base ts k) (hb : Below w.heap.size w w') : Nw w' base ts k := by
  have hlt := h.lt
  obtain ⟨hk, t, ht, cs, h⟩ := h
  exact ⟨hk, t, ht, cs, (hb.block k hlt).trans h⟩
theorem Nw.mono (h : Nw w base ts k) (hb : base' ≤ base) (hs : ∀ t, t ∈ ts → t ∈ ts') : Nw w base' ts' k := by
  obtain ⟨hk, t, ht, cs, h⟩ := h
  exact ⟨Nat.le_trans hb hk, t, hs t ht, cs, h⟩
theorem RowsAt.nw_below {l : List Sh} {ds : List (List Da)} {A : Option Addr} (h : RowsAt w (Nw w base ts) l ds A) (hb : Below w.heap.size w w') : RowsAt w' (Nw w' base ts) l ds A :=
  h.turn (fun _ h => h.below hb) (fun _ hp => hb.cell hp.lt)
theorem RowsAt.nw_lt {l : List Sh} {ds : List (List Da)} {A : Option Addr} (h : RowsAt w (Nw w base ts) l ds A) : RowsAt w (· < w.heap.size) l ds A :=
  h.turn (fun _ h => h.lt) (fun _ _ => rfl)
theorem RowsAt.nw_mono {l : List Sh} {ds : List (List Da)} {A : Option Addr} (h : RowsAt w (Nw w base ts) l ds A) (hb : base' ≤ base) (hs : ∀ t, t ∈ ts → t ∈ ts') : RowsAt w (Nw w base' ts') l ds A :=
  h.turn (fun _ h => h.mono hb hs) (fun _ _ => rfl)
theorem Cels.nw_below {l : List Sh} {ds : List Da} {vs : List Value} (h : Cels w (Nw w base ts) l ds vs) (hb : Below w.heap.size w w') : Cels w' (Nw w' base ts) l ds vs :=
  Cels.turn (fun _ h => h.below hb) (fun _ hp => hb.cell hp.lt) l ds vs h
theorem Cels.nw_lt {l : List Sh} {ds : List Da} {vs : List Value} (h : Cels w (Nw w base ts) l ds vs) : Cels w (· < w.heap.size) l ds vs :=
  Cels.turn (fun _ h => h.lt) (fun _ _ => rfl) l ds vs h
theorem Cels.nw_mono {l : List Sh} {ds : List Da} {vs : List Value} (h : Cels w (Nw w base ts) l ds vs) (hb : base' ≤ base) (hs : ∀ t, t ∈ ts → t ∈ ts') : Cels w (Nw w base' ts') l ds vs :=
  Cels.turn (fun _ h => h.mono hb hs) (fun _ _ => rfl) l ds vs h
theorem Keeps.step {ts : List TypeId} {w w1 : World} {g i : Nat} {t : TypeId} {u : Value} (hk : Keeps ts w w1) (hg : TypeAt w1 g t) (ht : t ∈ ts) : Keeps ts w (w1.setCell ⟨g, i, none⟩ u) := hk.trans (Keeps.set_ hg ht u)
theorem Keeps.step1 {w w1 : World} {g i : Nat} {t : TypeId} {u : Value} (hk : Keeps [t] w w1) (hg : TypeAt w1 g t) : Keeps [t] w (w1.setCell ⟨g, i, none⟩ u) := hk.step hg (by simp)
theorem Nw.keeps {us : List TypeId} (h : Nw w base ts k) (hk : Keeps us w w') (hd : ∀ t, t ∈ ts → t ∉ us) : Nw w' base ts k ∧ w'.heap[k]? = w.heap[k]? := by
  obtain ⟨hb, t, ht, cs, h⟩ := h
  have e := hk.block k t ⟨_, _, h⟩ (hd t ht)
  exact ⟨⟨hb, t, ht, cs, e.trans h⟩, e⟩
theorem RowsAt.nw_keeps {us : List TypeId} {l : List Sh} {ds : List (List Da)} {A : Option Addr} (h : RowsAt w (Nw w base ts) l ds A) (hk : Keeps us w w') (hd : ∀ t, t ∈ ts → t ∉ us) : RowsAt w' (Nw w' base ts) l ds A :=
  h.turn (fun _ h => (h.keeps hk hd).1) (fun _ hp => World.cell?_of_block (hp.keeps hk hd).2)
theorem Cels.nw_keeps {us : List TypeId} {l : List Sh} {ds : List Da} {vs : List Value} (h : Cels w (Nw w base ts) l ds vs) (hk : Keeps us w w') (hd : ∀ t, t ∈ ts → t ∉ us) : Cels w' (Nw w' base ts) l ds vs :=
  Cels.turn (fun _ h => (h.keeps hk hd).1) (fun _ hp => World.cell?_of_block (hp.keeps hk hd).2) l ds vs h
theorem RowsAt.more {B B' : Nat} {l : List Sh} {ds : List (List Da)} {A : Option Addr} (h : RowsAt w (· < B) l ds A) (hb : B ≤ B') : RowsAt w (· < B') l ds A :=
  h.turn (fun _ h => Nat.lt_of_lt_of_le h hb) (fun _ _ => rfl)
end
/-! ### Lists of numbers as cells. -/
def i64s (l : List Int) : List Value := l.map (Value.int .i64)
@[simp] theorem i64s_length (l : List Int) : (i64s l).length = l.length := by simp [i64s]
theorem i64s_one (l : List Int) : ∀ u ∈ i64s l, u.oneCell' = true := by
  intro u hu
  simp only [i64s, List.mem_map] at hu
  obtain ⟨c, _, rfl⟩ := hu
  rfl
section
variable {w : World} {S : Nat → Prop} {B : Nat} {l : List Int} {A : Option Addr}
theorem RowsAt.reads (h : RowsAt w S [.num] (nums l) A) (hS : ∀ k, S k → k < B) : Reads w B A l.length (i64s l) := by
  refine ⟨by simp, fun hn => ?_⟩
  obtain ⟨ad, e, hb, hc⟩ := h (by rw [nums_len]; exact hn)
  refine ⟨ad, e, hS _ hb, fun j u hu => ?_⟩
  simp only [i64s, List.getElem?_map] at hu
  cases hj : l[j]? with
  | none => rw [hj] at hu; simp at hu
  | some n =>
    rw [hj] at hu
    simp only [Option.map_some, Option.some.injEq] at hu
    subst hu
    obtain ⟨vs, h1, h2⟩ := hc j [.int n] (by simp [nums, hj])
    obtain ⟨d, ds', v, vs', e1, rfl, h3, h4⟩ := h1.cons
    obtain ⟨m, rfl, rfl⟩ := h3.num
    injection e1 with e1
    injection e1 with e1
    subst e1
    have := h2 0 _ rfl
    simpa using this
theorem RowsAt.lt_reads (h : RowsAt w (· < B) [.num] (nums l) A) : Reads w B A l.length (i64s l) := h.reads fun _ h => h
theorem reads_rows {S : Nat → Prop} (h : Reads w B A l.length (i64s l)) (hS : ∀ ad, A = some ad → 0 < l.length → S ad.block) : RowsAt w S [.num] (nums l) A := fun hn => by
  rw [nums_len] at hn
  obtain ⟨ad, rfl, hb, hc⟩ := h.2 hn
  refine ⟨ad, rfl, hS ad rfl hn, fun j d hd => ?_⟩
  simp only [nums, List.getElem?_map] at hd
  cases hj : l[j]? with
  | none => rw [hj] at hd; simp at hd
  | some n =>
    rw [hj] at hd
    simp only [Option.map_some, Option.some.injEq] at hd
    subst hd
    refine ⟨[.int .i64 n], Cels.one (Cel.mk_num n), fun i u hu => ?_⟩
    cases i with
    | succ i => simp at hu
    | zero =>
      simp only [List.getElem?_cons_zero, Option.some.injEq] at hu
      subst hu
      have := hc j (.int .i64 n) (by simp [i64s, hj])
      simpa using this
theorem own_rows {base c : Nat} {t : TypeId} (h : w.ownsRow base t 1 (.slice A l.length c) l.length (i64s l)) : RowsAt w (Nw w base [t]) [.num] (nums l) A := by
  refine reads_rows (B := w.heap.size) ⟨by simp, fun hn => ?_⟩ fun ad e hn => ?_
  · obtain ⟨g, cap, hv, _, hlt⟩ := h.form hn
    have hA : A = some ⟨g, 0, none⟩ := by injection hv
    subst hA
    exact ⟨_, rfl, hlt, h.cells (g := g) rfl⟩
  · subst e
    rcases h.2 with ⟨h0, _⟩ | ⟨g, cap, cur, hv, hg, hh, _⟩
    · cases h0
    · injection hv with hv
      injection hv with hv
      subst hv
      exact ⟨hg, t, by simp, cur, hh⟩
end
theorem own_empty (w : World) (t : TypeId) (B size : Nat) (hB : B ≤ w.heap.size) : (w.alloc (.cells #[] t)).ownsRow B t size (.slice (some ⟨w.heap.size, 0, none⟩) 0 0) 0 [] :=
  ⟨by simp, .inr ⟨w.heap.size, 0, #[], rfl, hB, heap_alloc_new w _, Nat.le_refl _, by simp [maxLen], by simp, by simp⟩⟩
/-- A copy of a list in new memory. -/
def SetEnd (w : World) (l : List Int) (e : Ending) (w' : World) : Prop :=
  ∃ A c, e = .returned (.slice A l.length c) ∧ RowsAt w' (Nw w' w.heap.size [3]) [.num] (nums l) A ∧ Below w.heap.size w w'
theorem info_int : (Tryz.prog.info? 3).map (fun i => (i.zero, i.size, i.bytes)) = some (some (.int .i64 0), 1, 8) := by kernel_rfl
set_option maxHeartbeats 800000 in
theorem cloneSet_any (A : Option Addr) (c : Nat) (l : List Int) (w : World) (h : RowsAt w (· < w.heap.size) [.num] (nums l) A) (hl : l.length ≤ 1099511627776) :
    Calls Tryz.prog 116 #[.slice A l.length c] w (SetEnd w l) := by
  obtain ⟨i0, hi0, hz0, hz1, hz2⟩ := info_parts info_int
  have HR := Lib.hid (h.lt_reads.alloc (Nat.le_refl _) (.cells #[] 3))
  generalize hn : l.length = n at *
  have HN := Lib.hid hn
  have HH := Lib.hid h
  clear hn h
  cases A with
  | none =>
    have kn : ∀ w, (binOp .eql 25 (.slice none n c) (.slice none 0 0)).run Tryz.prog w = .ok (.bool true) w := fun w => Lib.run_eql_slice_nil w _ _ _ _ _ _ _ Tryz.underlying25
    go_enter Tryz.func116, Tryz.ntmps116
    go_wp2
    go_ret
    have h0 : l = [] := by
      rcases Nat.eq_zero_or_pos l.length with h0 | h0
      · exact List.eq_nil_of_length_eq_zero h0
      · obtain ⟨ad, h1, _⟩ := HH.out (by rw [nums_len]; exact h0)
        cases h1
    subst h0
    exact ⟨none, 0, rfl, RowsAt.nil, Below.refl _ _⟩
  | some ad =>
    have kn : ∀ w, (binOp .eql 25 (.slice (some ad) n c) (.slice none 0 0)).run Tryz.prog w = .ok (.bool false) w := fun w => Lib.run_eql_slice_nil w _ _ _ _ _ _ _ Tryz.underlying25
    go_enter Tryz.func116, Tryz.ntmps116
    go_wp2_with (at_builtin; refine wpList_app rfl _ _ _ rfl w.heap.size 3 i0 _ 8 Tryz.underlying25 hi0 hz0 hz1 hz2 rfl (.slice (some ⟨w.heap.size, 0, none⟩) 0 0) 0 [] rfl (own_empty w _ _ _ (Nat.le_refl _)) _ _ n c _ rfl HR.out (i64s_one _) (by unfold maxLen; omega) (by omega) (by simp) w ((Below.refl _ _).alloc (Nat.le_refl _) _) ?_; intro A3 c3 w3 HO3 hb3 _)
    go_ret
    refine ⟨A3, c3, by rw [HN.out]; rfl, own_rows (c := c3) ?_, hb3⟩
    have h := HO3.out
    rw [Nat.zero_add, List.nil_append] at h
    rwa [HN.out]
end Go.Proofs.YtkdmfjpfanmgmaaGreatDoor
namespace Go.Proofs.YtkdmfjpfanmgmaaGreatDoor
open Go.RowKit Le Go.Maps
set_option linter.unusedVariables false
/-! ### Plain. -/
/-- Files: names and bytes. -/
abbrev FM := List (List UInt8 × List UInt8)
def FM.get : FM → List UInt8 → Option (List UInt8)
  | [], _ => none
  | (a, l) :: r, k => if a = k then some l else FM.get r k
def FM.del (F : FM) (k : List UInt8) : FM := F.filter fun p => decide (p.1 ≠ k)
def FM.put (F : FM) (k l : List UInt8) : FM := (k, l) :: FM.del F k
theorem FM.get_del_same (F : FM) (k : List UInt8) : (F.del k).get k = none := by
  induction F with
  | nil => rfl
  | cons p F ih =>
    obtain ⟨a, l⟩ := p
    unfold FM.del at ih ⊢
    by_cases h : a = k
    · rw [List.filter_cons_of_neg (by simp [h])]; exact ih
    · rw [List.filter_cons_of_pos (by simp [h]), FM.get, if_neg h]; exact ih
theorem FM.get_del_other (F : FM) {k j : List UInt8} (h : j ≠ k) : (F.del k).get j = F.get j := by
  induction F with
  | nil => rfl
  | cons p F ih =>
    obtain ⟨a, l⟩ := p
    unfold FM.del at ih ⊢
    by_cases ha : a = k
    · rw [List.filter_cons_of_neg (by simp [ha]), FM.get, if_neg (by rw [ha]; exact fun e => h e.symm)]; exact ih
    · rw [List.filter_cons_of_pos (by simp [ha])]
      simp only [FM.get]
      split
      · rfl
      · exact ih
theorem FM.get_put_same (F : FM) (k l : List UInt8) : (F.put k l).get k = some l := by simp [FM.put, FM.get]
theorem FM.get_put_other (F : FM) {k j : List UInt8} (l : List UInt8) (h : j ≠ k) : (F.put k l).get j = F.get j := by
  unfold FM.put
  rw [FM.get, if_neg (fun e => h e.symm)]
  exact FM.get_del_other F h
/-- No name twice. -/
def FM.Once (F : FM) : Prop := F.Pairwise fun p q => p.1 ≠ q.1
theorem FM.Once.del {F : FM} (h : F.Once) (k : List UInt8) : (F.del k).Once := h.sublist List.filter_sublist
theorem FM.Once.put {F : FM} (h : F.Once) (k l : List UInt8) : (F.put k l).Once := by
  refine List.pairwise_cons.2 ⟨fun p hp => ?_, h.del k⟩
  have := (List.mem_filter.1 hp).2
  simp only [decide_eq_true_eq] at this
  exact fun e => this e.symm
theorem FM.del_len {F : FM} (h : F.Once) (k : List UInt8) : (F.del k).length + (if F.get k = none then 0 else 1) = F.length := by
  induction F with
  | nil => rfl
  | cons p F ih =>
    obtain ⟨a, l⟩ := p
    have h' := List.pairwise_cons.1 h
    by_cases ha : a = k
    · have hn : FM.get F k = none := by
        have : ∀ G : FM, (∀ q ∈ G, a ≠ q.1) → FM.get G k = none := fun G => by
          induction G with
          | nil => intro _; rfl
          | cons q G ihG =>
            intro hq
            obtain ⟨b, m⟩ := q
            rw [FM.get, if_neg (by rw [← ha]; exact fun e => hq (b, m) (by simp) e.symm)]
            exact ihG fun q hq' => hq q (by simp [hq'])
        exact this F h'.1
      have ih := ih h'.2
      rw [if_pos hn] at ih
      unfold FM.del at ih ⊢
      rw [List.filter_cons_of_neg (by simp [ha]), FM.get, if_pos ha]
      simp only [reduceCtorEq, if_false, List.length_cons]
      omega
    · have ih := ih h'.2
      unfold FM.del at ih ⊢
      rw [List.filter_cons_of_pos (by simp [ha]), FM.get, if_neg ha]
      simp only [List.length_cons]
      omega
theorem FM.put_len {F : FM} (h : F.Once) (k l : List UInt8) : (F.put k l).length = if F.get k = none then F.length + 1 else F.length := by
  have := FM.del_len h k
  unfold FM.put
  simp only [List.length_cons]
  split <;> rename_i hg <;> simp only [hg, if_true, if_false] at this <;> omega
/-- Bytes with others from a place on. -/
def laidB (old : List UInt8) (at_ : Nat) (b : List UInt8) : List UInt8 := old.take at_ ++ b ++ old.drop (at_ + b.length)
/-- What does not last: a write, a removal. -/
inductive Chg where
  | wr (file : List UInt8) (at_ : Nat) (b : List UInt8)
  | rm (file : List UInt8)
def Chg.file : Chg → List UInt8
  | .wr f _ _ => f
  | .rm f => f
def Chg.run : Chg → FM → FM
  | .wr f i b, F => F.put f (laidB ((F.get f).getD []) i b)
  | .rm f, F => F.del f
/-! ### In memory. -/
/-- A value as a token. -/
def heldR (v : Value) : Option (DataW Value × List MemPlace) := some (.held v, [])
/-- Bytes in a row that nobody else writes. -/
def BytesN (w : World) (base : Nat) (A : Option Addr) (l : List UInt8) : Prop :=
  Reads w w.heap.size A l.length (u8s l) ∧ ∀ ad, A = some ad → 0 < l.length → Nw w base [5] ad.block
/-- A map of files. -/
structure FilesAt (w : World) (base b : Nat) (F : FM) : Prop where
  ge : base ≤ b
  once : F.Once
  map : ∃ D, w.ownsMap Tryz.prog 9 heldR b F.length D ∧ Maps.size D = F.length ∧
    (∀ k, F.get k = none → Maps.has D (.string k) = false) ∧
    (∀ k l, F.get k = some l → Maps.has D (.string k) = true ∧ ∃ A c, (∀ z, D.atKey (.string k) z = .held (.slice A l.length c)) ∧ l.length ≤ c ∧ c ≤ maxLen ∧ BytesN w base A l)
/-- Blocks that a disk reads: maps, and cells of these types. -/
def isD : Obj → Bool
  | .map _ _ => true
  | .cells _ t _ => [80, 106, 5, 9, 3, 72].contains t
  | _ => false
/-- What a disk reads stays. -/
def SameD (w w' : World) : Prop := w.heap.size ≤ w'.heap.size ∧ ∀ (k : Nat) (o : Obj), w.heap[k]? = some o → isD o = true → w'.heap[k]? = some o
theorem SameD.refl (w : World) : SameD w w := ⟨Nat.le_refl _, fun _ _ h _ => h⟩
theorem SameD.trans {w w' w'' : World} (h : SameD w w') (g : SameD w' w'') : SameD w w'' := ⟨Nat.le_trans h.1 g.1, fun k o ho hd => g.2 k o (h.2 k o ho hd) hd⟩
theorem SameD.of_below {w w' : World} (h : Below w.heap.size w w') : SameD w w' := ⟨h.size, fun k o ho _ => by
  have hk : k < w.heap.size := (Array.getElem?_eq_some_iff.1 ho).1
  rw [h.block k hk]; exact ho⟩
theorem SameD.set {w : World} {p : Addr} {t : TypeId} (hp : TypeAt w p.block t) (ht : [80, 106, 5, 9, 3, 72].contains t = false) (v : Value) : SameD w (w.setCell p v) :=
  ⟨by simp [World.setCell], fun k o ho hd => by
    have hne : k ≠ p.block := fun e => by
      subst e
      obtain ⟨cs, fr, hp⟩ := hp
      rw [hp] at ho
      injection ho with ho
      subst ho
      simp only [isD] at hd
      rw [ht] at hd
      cases hd
    rw [Below.heap_setCell w p v k hne]
    exact ho⟩
/-- .. its cells stay. -/
def SameC (w w' : World) : Prop := w.heap.size ≤ w'.heap.size ∧ ∀ (k : Nat) (cs : Array Value) (t : TypeId) (fr : Nat × Nat), w.heap[k]? = some (.cells cs t fr) → [5, 9, 3, 72].contains t = true → w'.heap[k]? = some (.cells cs t fr)
theorem SameD.c {w w' : World} (h : SameD w w') : SameC w w' := ⟨h.1, fun k cs t fr hk ht => h.2 k _ hk (by
  simp only [isD]
  simp only [List.contains_cons, Bool.or_eq_true] at ht ⊢
  exact .inr (.inr ht))⟩
theorem SameC.nw {w w' : World} (h : SameC w w') {base k : Nat} {t : TypeId} (ht : [5, 9, 3, 72].contains t = true) (hn : Nw w base [t] k) : Nw w' base [t] k ∧ w'.heap[k]? = w.heap[k]? := by
  obtain ⟨hb, t', ht', cs, hk⟩ := hn
  obtain rfl := List.mem_singleton.1 ht'
  have := h.2 k _ _ _ hk ht
  exact ⟨⟨hb, t', ht', cs, this⟩, this.trans hk.symm⟩
theorem BytesN.same {w w' : World} {base : Nat} {A : Option Addr} {l : List UInt8} (h : BytesN w base A l) (hs : SameC w w') : BytesN w' base A l := by
  refine ⟨⟨h.1.1, fun hn => ?_⟩, fun ad e hn => (hs.nw (by decide) (h.2 ad e hn)).1⟩
  obtain ⟨ad, e, hb, hc⟩ := h.1.2 hn
  refine ⟨ad, e, Nat.lt_of_lt_of_le hb hs.1, fun j u hu => ?_⟩
  have hk := (hs.nw (by decide) (h.2 ad e hn)).2
  rw [World.cell?_of_block (w := w) (w' := w') (by rw [block_of_add]; exact hk)]
  exact hc j u hu
theorem FilesAt.same {w w' : World} {base b : Nat} {F : FM} (h : FilesAt w base b F) (hs : SameD w w') : FilesAt w' base b F := by
  obtain ⟨hb, ho, D, hown, hz, h0, h1⟩ := h
  refine ⟨hb, ho, D, ?_, hz, h0, fun k l hk => ?_⟩
  · obtain ⟨es, clock, he, hf, hsz, hD⟩ := hown
    exact ⟨es, clock, hs.2 b _ he rfl, hf, hsz, hD⟩
  · obtain ⟨h2, A, c, h3, h4, h5, h6⟩ := h1 k l hk
    exact ⟨h2, A, c, h3, h4, h5, h6.same hs.c⟩
end Go.Proofs.YtkdmfjpfanmgmaaGreatDoor
namespace Go.Proofs.YtkdmfjpfanmgmaaGreatDoor
open Go.RowKit Le Go.Maps
set_option linter.unusedVariables false
theorem keyed : Keyed Tryz.prog 9 := string_keyed Tryz.underlying9
theorem key_text {k : List UInt8} (h : k.length ≤ maxLen) : keyOf Tryz.prog 9 (.string (text k)) = some (.string k) := by
  have := WideMaps.keyOf_string_mk (P := Tryz.prog) Tryz.underlying9 (s := text k) (by rw [text_size]; exact h)
  rwa [text_data] at this
theorem zeroB (w : World) : (zeroValue 72).run Tryz.prog w = .ok (.slice none 0 0) w := by kernel_rfl
theorem World_tight {P : Program} {k : TypeId} {R : Value → Option (DataW Value × List MemPlace)} {w : World} {b n : Nat} {D : DataW Value} (h : w.ownsMap P k R b n D) : w.ownsMap P k R b (Maps.size D) D := by
  obtain ⟨es, clock, hb, F, _, rfl⟩ := h
  exact ⟨es, clock, hb, F, Nat.le_of_eq (by simp [Maps.size, length_sorted]), rfl⟩
section
variable {w : World} {base b : Nat} {F : FM}
theorem FilesAt.lt (h : FilesAt w base b F) : b < w.heap.size := by
  obtain ⟨D, hown, _⟩ := h.map
  exact hown.lt
theorem FilesAt.made (w : World) {base : Nat} (h : base ≤ w.heap.size) : FilesAt (w.alloc (.map #[] 0)) base w.heap.size [] :=
  ⟨h, List.Pairwise.nil, .map [], World.ownsMap_made w _ _ _, rfl, fun _ _ => rfl, fun k l h => by cases h⟩
/-- What a look-up gives. -/
def Found (w : World) (base : Nat) (x : Option (List UInt8)) (v : Value) : Prop :=
  match x with
  | none => v = .slice none 0 0
  | some l => ∃ A c, v = .slice A l.length c ∧ l.length ≤ c ∧ c ≤ maxLen ∧ BytesN w base A l
theorem FilesAt.look_ok (h : FilesAt w base b F) {k : List UInt8} (hk : k.length ≤ maxLen) :
    ∃ v, (Instr.lookup 77 (.map (some b)) (.string (text k)) true).run Tryz.prog w = .ok (.tuple #[v, .bool (F.get k).isSome]) w ∧ Found w base (F.get k) v := by
  obtain ⟨D, hown, _, h0, h1⟩ := h.map
  obtain ⟨v, ps, hrun, hv⟩ := hown.look_ok keyed Tryz.underlying77 (zeroB w) (zd := .held (.slice none 0 0)) (zp := []) rfl (key_text hk)
  simp only [heldR, Option.some.injEq, Prod.mk.injEq] at hv
  refine ⟨v, ?_, ?_⟩
  · rw [hrun]
    cases hg : F.get k with
    | none => rw [h0 k hg]; rfl
    | some l => rw [(h1 k l hg).1]; rfl
  · cases hg : F.get k with
    | none =>
      have := Maps.atKey_of_not_has (h0 k hg) (.held (.slice none 0 0))
      rw [this] at hv
      exact DataW.held.inj hv.1
    | some l =>
      obtain ⟨_, A, c, h2, h3, h4, h5⟩ := h1 k l hg
      rw [h2] at hv
      exact ⟨A, c, DataW.held.inj hv.1, h3, h4, h5⟩
/-- .. the same value in every world whose map is this. -/
theorem FilesAt.look_all (h : FilesAt w base b F) {k : List UInt8} (hk : k.length ≤ maxLen) :
    ∃ v, (∀ w' : World, w'.heap[b]? = w.heap[b]? → (Instr.lookup 77 (.map (some b)) (.string (text k)) false).run Tryz.prog w' = .ok v w') ∧ Found w base (F.get k) v := by
  obtain ⟨D, hown, _, h0, h1⟩ := h.map
  obtain ⟨v, ps, hrun, hv⟩ := hown.lookup keyed Tryz.underlying77 (zeroB w) (zd := .held (.slice none 0 0)) (zp := []) rfl (key_text hk)
  refine ⟨v, fun w' hw => ?_, ?_⟩
  · obtain ⟨es, clock, he, hf, hsz, hD⟩ := hown
    have hown' : w'.ownsMap Tryz.prog 9 heldR b F.length D := ⟨es, clock, hw.trans he, hf, hsz, hD⟩
    obtain ⟨v', ps', hrun', hv'⟩ := hown'.lookup keyed Tryz.underlying77 (zeroB w') (zd := .held (.slice none 0 0)) (zp := []) rfl (key_text hk)
    rw [hrun']
    simp only [heldR, Option.some.injEq, Prod.mk.injEq] at hv hv'
    rw [← hv.1] at hv'
    rw [DataW.held.inj hv'.1]
  · simp only [heldR, Option.some.injEq, Prod.mk.injEq] at hv
    cases hg : F.get k with
    | none =>
      have := Maps.atKey_of_not_has (h0 k hg) (.held (.slice none 0 0))
      rw [this] at hv
      exact DataW.held.inj hv.1
    | some l =>
      obtain ⟨_, A, c, h2, h3, h4, h5⟩ := h1 k l hg
      rw [h2] at hv
      exact ⟨A, c, DataW.held.inj hv.1, h3, h4, h5⟩
theorem FilesAt.look_ok_all (h : FilesAt w base b F) {k : List UInt8} (hk : k.length ≤ maxLen) :
    ∃ v, (∀ w' : World, w'.heap[b]? = w.heap[b]? → (Instr.lookup 77 (.map (some b)) (.string (text k)) true).run Tryz.prog w' = .ok (.tuple #[v, .bool (F.get k).isSome]) w') ∧ Found w base (F.get k) v := by
  obtain ⟨v, hr, hf⟩ := h.look_all hk
  refine ⟨v, fun w' hw => ?_, hf⟩
  obtain ⟨D, hown, _, h0, h1⟩ := h.map
  have hr0 := hr w rfl
  obtain ⟨es, clock, he, hf, hsz, hD⟩ := hown
  have hown : w.ownsMap Tryz.prog 9 heldR b F.length D := ⟨es, clock, he, hf, hsz, hD⟩
  have hown' : w'.ownsMap Tryz.prog 9 heldR b F.length D := ⟨es, clock, hw.trans he, hf, hsz, hD⟩
  obtain ⟨v1, ps1, hrun1, hv1⟩ := hown.lookup keyed Tryz.underlying77 (zeroB w) (zd := .held (.slice none 0 0)) (zp := []) rfl (key_text hk)
  obtain ⟨v', ps', hrun', hv'⟩ := hown'.look_ok keyed Tryz.underlying77 (zeroB w') (zd := .held (.slice none 0 0)) (zp := []) rfl (key_text hk)
  have e1 : v = v1 := by
    have e := hr0.symm.trans hrun1
    simp only [Result.ok.injEq, and_true] at e
    exact e
  subst e1
  refine hrun'.trans ?_
  simp only [heldR, Option.some.injEq, Prod.mk.injEq] at hv1 hv'
  rw [← hv1.1] at hv'
  rw [DataW.held.inj hv'.1]
  cases hg : F.get k with
  | none => rw [h0 k hg]; rfl
  | some l => rw [(h1 k l hg).1]; rfl
theorem turned_same {w w' : World} (h : w.mapTurned w' b) : w'.heap.size = w.heap.size ∧ ∀ k, k ≠ b → w'.heap[k]? = w.heap[k]? := by
  have hg := h.grown
  obtain ⟨es, clock, es', clock', hb, rfl⟩ := h
  exact ⟨by simp [ChangeMaps.setBlock], fun k hk => ChangeMaps.heap_setBlock_other hb _ hk⟩
theorem BytesN.turned {w w' : World} {A : Option Addr} {l : List UInt8} (h : BytesN w base A l) (hm : w.mapTurned w' b) : BytesN w' base A l := by
  obtain ⟨hz, hs⟩ := turned_same hm
  have hne : ∀ {k}, Nw w base [5] k → k ≠ b := fun {k} hn e => by
    obtain ⟨es, clock, _, _, hb, _⟩ := hm
    obtain ⟨_, t, _, cs, hk⟩ := hn
    rw [e, hb] at hk
    cases hk
  refine ⟨⟨h.1.1, fun hn => ?_⟩, fun ad e hn => ?_⟩
  · obtain ⟨ad, e, hb, hc⟩ := h.1.2 hn
    refine ⟨ad, e, by rw [hz]; exact hb, fun j u hu => ?_⟩
    rw [World.cell?_of_block (w := w) (w' := w') (by rw [block_of_add]; exact hs _ (hne (h.2 ad e hn)))]
    exact hc j u hu
  · have hq := h.2 ad e hn
    obtain ⟨hb, t, ht, cs, hk⟩ := hq
    exact ⟨hb, t, ht, cs, (hs _ (hne ⟨hb, t, ht, cs, hk⟩)).trans hk⟩
theorem keyLit (k : List UInt8) : WideAt.IsKeyLit (.string k) := trivial
theorem key_ne {a b : List UInt8} (h : a ≠ b) : (Lit.string a) ≠ .string b := fun e => h (by injection e)
theorem FilesAt.put (h : FilesAt w base b F) {k l : List UInt8} {A : Option Addr} {c : Nat} (hk : k.length ≤ maxLen) (hn : F.length < maxLen) (hc : l.length ≤ c) (hcm : c ≤ maxLen) (hB : BytesN w base A l) :
    ∃ w', (Instr.mapUpdate 77 (.map (some b)) (.string (text k)) (.slice A l.length c)).run Tryz.prog w = .ok () w' ∧ FilesAt w' base b (F.put k l) ∧ w.mapTurned w' b := by
  obtain ⟨D, hown, hz, h0, h1⟩ := h.map
  obtain ⟨w', hrun, hown', hm⟩ := hown.store keyed Tryz.underlying77 hn (key_text hk) (val := .slice A l.length c) (d := .held (.slice A l.length c)) (ps := []) rfl
  have hsz : Maps.size (D.put (.string k) (.held (.slice A l.length c))) = (F.put k l).length := by
    rw [Maps.size_put (hown.tidy keyed), FM.put_len h.once, hz]
    cases hg : F.get k with
    | none => rw [h0 k hg]; rfl
    | some m => rw [(h1 k m hg).1]; rfl
  refine ⟨w', hrun, ⟨h.ge, h.once.put k l, _, by have := World_tight hown'; rwa [hsz] at this, hsz, fun j hj => ?_, fun j m hj => ?_⟩, hm⟩
  · by_cases e : j = k
    · subst e; rw [FM.get_put_same] at hj; cases hj
    · rw [FM.get_put_other _ _ e] at hj
      rw [Maps.has_put_other (key_ne e)]
      exact h0 j hj
  · by_cases e : j = k
    · subst e
      rw [FM.get_put_same] at hj
      injection hj with hj
      subst hj
      exact ⟨Maps.has_put_same hown.isMap (keyLit _) _, A, c, fun z => Maps.atKey_put_same hown.isMap (keyLit _) _ _, hc, hcm, hB.turned hm⟩
    · rw [FM.get_put_other _ _ e] at hj
      obtain ⟨g1, A', c', g2, g3, g4, g5⟩ := h1 j m hj
      exact ⟨by rw [Maps.has_put_other (key_ne e)]; exact g1, A', c', fun z => by rw [Maps.atKey_put_other (key_ne e)]; exact g2 z, g3, g4, g5.turned hm⟩
theorem FilesAt.del (h : FilesAt w base b F) {k : List UInt8} (hk : k.length ≤ maxLen) (ty : TypeId) :
    ∃ w', (Builtin.delete_ #[77, 9] ty #[.map (some b), .string (text k)]).run Tryz.prog w = .ok (.tuple #[]) w' ∧ FilesAt w' base b (F.del k) ∧ w.mapTurned w' b := by
  obtain ⟨D, hown, hz, h0, h1⟩ := h.map
  obtain ⟨w', hrun, hown', hm⟩ := hown.drop keyed Tryz.underlying77 (key_text hk) ty
  have hsz : Maps.size (D.del (.string k)) = (F.del k).length := by
    have e1 := Maps.size_del (k := .string k) (hown.tidy keyed)
    have e2 := FM.del_len h.once k
    rw [hz] at e1
    cases hg : F.get k with
    | none => rw [h0 k hg] at e1; rw [hg] at e2; simp at e1 e2; omega
    | some m => rw [(h1 k m hg).1] at e1; rw [hg] at e2; simp at e1 e2; omega
  refine ⟨w', hrun, ⟨h.ge, h.once.del k, _, by have := World_tight hown'; rwa [hsz] at this, hsz, fun j hj => ?_, fun j m hj => ?_⟩, hm⟩
  · by_cases e : j = k
    · subst e; exact Maps.has_del_same
    · rw [FM.get_del_other _ e] at hj
      rw [Maps.has_del_other (key_ne e)]
      exact h0 j hj
  · by_cases e : j = k
    · subst e; rw [FM.get_del_same] at hj; cases hj
    · rw [FM.get_del_other _ e] at hj
      obtain ⟨g1, A', c', g2, g3, g4, g5⟩ := h1 j m hj
      exact ⟨by rw [Maps.has_del_other (key_ne e)]; exact g1, A', c', fun z => by rw [Maps.atKey_del_other (key_ne e)]; exact g2 z, g3, g4, g5.turned hm⟩
theorem FilesAt.len (h : FilesAt w base b F) (ty : TypeId) : (Builtin.len_ #[77] ty #[.map (some b)]).run Tryz.prog w = .ok (.int .i64 F.length) w := by
  obtain ⟨D, hown, hz, _, _⟩ := h.map
  rw [hown.len Tryz.underlying77 ty, hz]
end
end Go.Proofs.YtkdmfjpfanmgmaaGreatDoor
