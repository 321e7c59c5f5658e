/- Words for a stable's structs in new memory; the walks of Clone and of the configurations' copies. -/
import Derived.Test.YtkdmfjpfanmgmaaFold1
import Derived.Test.YtkdmfjpfanmgmaaPut1
import Derived.Test.YtkdmfjpfanmgmaaMany
import Derived.Lib.SliceRun
import Derived.Deep.RegionHeld3
namespace Go.Proofs.Ytkdmfjpfanmgmaa
open Go.RowKit Le
set_option maxRecDepth 100000
set_option linter.unusedSimpArgs false
set_option linter.unusedVariables false

/-- A block from base on: an unfrozen row of one of the types. -/
def Nw (w : World) (base : Nat) (ts : List TypeId) (k : Nat) : Prop := base ≤ k ∧ ∃ t, t ∈ ts ∧ ∃ cs, w.heap[k]? = some (.cells cs t (0, 0))
section
variable {w w' : World} {base base' : Nat} {ts ts' : List TypeId} {k : Nat}
theorem Nw.lt (h : Nw w base ts k) : k < w.heap.size := by
  obtain ⟨_, t, _, cs, h⟩ := h
  exact (Array.getElem?_eq_some_iff.1 h).1
theorem Nw.below (h : Nw w base ts k) (hb : Below w.heap.size w w') : Nw w' base ts k := by
  have hlt := h.lt
  obtain ⟨hk, t, ht, cs, h⟩ := h
  exact ⟨hk, t, ht, cs, (hb.block k hlt).trans h⟩
theorem Nw.mono (h : Nw w base ts k) (hb : base' ≤ base) (hs : ∀ t, t ∈ ts → t ∈ ts') : Nw w base' ts' k := by
  obtain ⟨hk, t, ht, cs, h⟩ := h
  exact ⟨Nat.le_trans hb hk, t, hs t ht, cs, h⟩
theorem RowsAt.nw_below {l : List Sh} {ds : List (List Da)} {A : Option Addr} (h : RowsAt w (Nw w base ts) l ds A) (hb : Below w.heap.size w w') : RowsAt w' (Nw w' base ts) l ds A :=
  h.turn (fun _ h => h.below hb) (fun _ hp => hb.cell hp.lt)
theorem RowsAt.nw_lt {l : List Sh} {ds : List (List Da)} {A : Option Addr} (h : RowsAt w (Nw w base ts) l ds A) : RowsAt w (· < w.heap.size) l ds A :=
  h.turn (fun _ h => h.lt) (fun _ _ => rfl)
theorem RowsAt.nw_mono {l : List Sh} {ds : List (List Da)} {A : Option Addr} (h : RowsAt w (Nw w base ts) l ds A) (hb : base' ≤ base) (hs : ∀ t, t ∈ ts → t ∈ ts') : RowsAt w (Nw w base' ts') l ds A :=
  h.turn (fun _ h => h.mono hb hs) (fun _ _ => rfl)
theorem Cels.nw_below {l : List Sh} {ds : List Da} {vs : List Value} (h : Cels w (Nw w base ts) l ds vs) (hb : Below w.heap.size w w') : Cels w' (Nw w' base ts) l ds vs :=
  Cels.turn (fun _ h => h.below hb) (fun _ hp => hb.cell hp.lt) l ds vs h
theorem Cels.nw_lt {l : List Sh} {ds : List Da} {vs : List Value} (h : Cels w (Nw w base ts) l ds vs) : Cels w (· < w.heap.size) l ds vs :=
  Cels.turn (fun _ h => h.lt) (fun _ _ => rfl) l ds vs h
theorem Cels.nw_mono {l : List Sh} {ds : List Da} {vs : List Value} (h : Cels w (Nw w base ts) l ds vs) (hb : base' ≤ base) (hs : ∀ t, t ∈ ts → t ∈ ts') : Cels w (Nw w base' ts') l ds vs :=
  Cels.turn (fun _ h => h.mono hb hs) (fun _ _ => rfl) l ds vs h
theorem Keeps.step {ts : List TypeId} {w w1 : World} {g i : Nat} {t : TypeId} {u : Value} (hk : Keeps ts w w1) (hg : TypeAt w1 g t) (ht : t ∈ ts) : Keeps ts w (w1.setCell ⟨g, i, none⟩ u) := hk.trans (Keeps.set_ hg ht u)
theorem Keeps.step1 {w w1 : World} {g i : Nat} {t : TypeId} {u : Value} (hk : Keeps [t] w w1) (hg : TypeAt w1 g t) : Keeps [t] w (w1.setCell ⟨g, i, none⟩ u) := hk.step hg (by simp)
theorem Nw.keeps {us : List TypeId} (h : Nw w base ts k) (hk : Keeps us w w') (hd : ∀ t, t ∈ ts → t ∉ us) : Nw w' base ts k ∧ w'.heap[k]? = w.heap[k]? := by
  obtain ⟨hb, t, ht, cs, h⟩ := h
  have e := hk.block k t ⟨_, _, h⟩ (hd t ht)
  exact ⟨⟨hb, t, ht, cs, e.trans h⟩, e⟩
theorem RowsAt.nw_keeps {us : List TypeId} {l : List Sh} {ds : List (List Da)} {A : Option Addr} (h : RowsAt w (Nw w base ts) l ds A) (hk : Keeps us w w') (hd : ∀ t, t ∈ ts → t ∉ us) : RowsAt w' (Nw w' base ts) l ds A :=
  h.turn (fun _ h => (h.keeps hk hd).1) (fun _ hp => World.cell?_of_block (hp.keeps hk hd).2)
theorem Cels.nw_keeps {us : List TypeId} {l : List Sh} {ds : List Da} {vs : List Value} (h : Cels w (Nw w base ts) l ds vs) (hk : Keeps us w w') (hd : ∀ t, t ∈ ts → t ∉ us) : Cels w' (Nw w' base ts) l ds vs :=
  Cels.turn (fun _ h => (h.keeps hk hd).1) (fun _ hp => World.cell?_of_block (hp.keeps hk hd).2) l ds vs h
theorem RowsAt.more {B B' : Nat} {l : List Sh} {ds : List (List Da)} {A : Option Addr} (h : RowsAt w (· < B) l ds A) (hb : B ≤ B') : RowsAt w (· < B') l ds A :=
  h.turn (fun _ h => Nat.lt_of_lt_of_le h hb) (fun _ _ => rfl)
end

/-! ### Lists of numbers as cells. -/
def i64s (l : List Int) : List Value := l.map (Value.int .i64)
@[simp] theorem i64s_length (l : List Int) : (i64s l).length = l.length := by simp [i64s]
theorem i64s_one (l : List Int) : ∀ u ∈ i64s l, u.oneCell' = true := by
  intro u hu
  simp only [i64s, List.mem_map] at hu
  obtain ⟨c, _, rfl⟩ := hu
  rfl
theorem i64s_append (a b : List Int) : i64s (a ++ b) = i64s a ++ i64s b := by simp [i64s]
section
variable {w : World} {S : Nat → Prop} {B : Nat} {l : List Int} {A : Option Addr}
theorem RowsAt.reads (h : RowsAt w S [.num] (nums l) A) (hS : ∀ k, S k → k < B) : Reads w B A l.length (i64s l) := by
  refine ⟨by simp, fun hn => ?_⟩
  obtain ⟨ad, e, hb, hc⟩ := h (by rw [nums_len]; exact hn)
  refine ⟨ad, e, hS _ hb, fun j u hu => ?_⟩
  simp only [i64s, List.getElem?_map] at hu
  cases hj : l[j]? with
  | none => rw [hj] at hu; simp at hu
  | some n =>
    rw [hj] at hu
    simp only [Option.map_some, Option.some.injEq] at hu
    subst hu
    obtain ⟨vs, h1, h2⟩ := hc j [.int n] (by simp [nums, hj])
    obtain ⟨d, ds', v, vs', e1, rfl, h3, h4⟩ := h1.cons
    obtain ⟨m, rfl, rfl⟩ := h3.num
    injection e1 with e1
    injection e1 with e1
    subst e1
    have := h2 0 _ rfl
    simpa using this
theorem RowsAt.lt_reads (h : RowsAt w (· < B) [.num] (nums l) A) : Reads w B A l.length (i64s l) := h.reads fun _ h => h
theorem reads_rows {S : Nat → Prop} (h : Reads w B A l.length (i64s l)) (hS : ∀ ad, A = some ad → 0 < l.length → S ad.block) : RowsAt w S [.num] (nums l) A := fun hn => by
  rw [nums_len] at hn
  obtain ⟨ad, rfl, hb, hc⟩ := h.2 hn
  refine ⟨ad, rfl, hS ad rfl hn, fun j d hd => ?_⟩
  simp only [nums, List.getElem?_map] at hd
  cases hj : l[j]? with
  | none => rw [hj] at hd; simp at hd
  | some n =>
    rw [hj] at hd
    simp only [Option.map_some, Option.some.injEq] at hd
    subst hd
    refine ⟨[.int .i64 n], Cels.one (Cel.mk_num n), fun i u hu => ?_⟩
    cases i with
    | succ i => simp at hu
    | zero =>
      simp only [List.getElem?_cons_zero, Option.some.injEq] at hu
      subst hu
      have := hc j (.int .i64 n) (by simp [i64s, hj])
      simpa using this
theorem own_rows {base c : Nat} {t : TypeId} (h : w.ownsRow base t 1 (.slice A l.length c) l.length (i64s l)) : RowsAt w (Nw w base [t]) [.num] (nums l) A := by
  refine reads_rows (B := w.heap.size) ⟨by simp, fun hn => ?_⟩ fun ad e hn => ?_
  · obtain ⟨g, cap, hv, _, hlt⟩ := h.form hn
    have hA : A = some ⟨g, 0, none⟩ := by injection hv
    subst hA
    exact ⟨_, rfl, hlt, h.cells (g := g) rfl⟩
  · subst e
    rcases h.2 with ⟨h0, _⟩ | ⟨g, cap, cur, hv, hg, hh, _⟩
    · cases h0
    · injection hv with hv
      injection hv with hv
      subst hv
      exact ⟨hg, t, by simp, cur, hh⟩
end
theorem own_empty (w : World) (t : TypeId) (B size : Nat) (hB : B ≤ w.heap.size) : (w.alloc (.cells #[] t)).ownsRow B t size (.slice (some ⟨w.heap.size, 0, none⟩) 0 0) 0 [] :=
  ⟨by simp, .inr ⟨w.heap.size, 0, #[], rfl, hB, heap_alloc_new w _, Nat.le_refl _, by simp [maxLen], by simp, by simp⟩⟩

/-- A copy of a list in new memory. -/
def SetEnd (w : World) (l : List Int) (e : Ending) (w' : World) : Prop :=
  ∃ A c, e = .returned (.slice A l.length c) ∧ RowsAt w' (Nw w' w.heap.size [3]) [.num] (nums l) A ∧ Below w.heap.size w w'
theorem info_int : (Try.prog.info? 3).map (fun i => (i.zero, i.size, i.bytes)) = some (some (.int .i64 0), 1, 8) := by kernel_rfl

set_option maxHeartbeats 800000 in
theorem cloneSet_any (A : Option Addr) (c : Nat) (l : List Int) (w : World) (h : RowsAt w (· < w.heap.size) [.num] (nums l) A) (hl : l.length ≤ 1099511627776) :
    Calls Try.prog 60 #[.slice A l.length c] w (SetEnd w l) := by
  obtain ⟨i0, hi0, hz0, hz1, hz2⟩ := info_parts info_int
  have HR := Lib.hid (h.lt_reads.alloc (Nat.le_refl _) (.cells #[] 3))
  generalize hn : l.length = n at *
  have HN := Lib.hid hn
  have HH := Lib.hid h
  clear hn h
  cases A with
  | none =>
    have kn : ∀ w, (binOp .eql 23 (.slice none n c) (.slice none 0 0)).run Try.prog w = .ok (.bool true) w := fun w => Lib.run_eql_slice_nil w _ _ _ _ _ _ _ Try.underlying23
    go_enter Try.func60, Try.ntmps60
    go_wp2
    go_ret
    have h0 : l = [] := by
      rcases Nat.eq_zero_or_pos l.length with h0 | h0
      · exact List.eq_nil_of_length_eq_zero h0
      · obtain ⟨ad, h1, _⟩ := HH.out (by rw [nums_len]; exact h0)
        cases h1
    subst h0
    exact ⟨none, 0, rfl, RowsAt.nil, Below.refl _ _⟩
  | some ad =>
    have kn : ∀ w, (binOp .eql 23 (.slice (some ad) n c) (.slice none 0 0)).run Try.prog w = .ok (.bool false) w := fun w => Lib.run_eql_slice_nil w _ _ _ _ _ _ _ Try.underlying23
    go_enter Try.func60, Try.ntmps60
    go_wp2_with (at_builtin; refine wpList_app rfl _ _ _ rfl w.heap.size 3 i0 _ 8 Try.underlying23 hi0 hz0 hz1 hz2 rfl (.slice (some ⟨w.heap.size, 0, none⟩) 0 0) 0 [] rfl (own_empty w _ _ _ (Nat.le_refl _)) _ _ n c _ rfl HR.out (i64s_one _) (by unfold maxLen; omega) (by omega) (by simp) w ((Below.refl _ _).alloc (Nat.le_refl _) _) ?_; intro A3 c3 w3 HO3 hb3 _)
    go_ret
    refine ⟨A3, c3, by rw [HN.out]; rfl, own_rows (c := c3) ?_, hb3⟩
    have h := HO3.out
    rw [Nat.zero_add, List.nil_append] at h
    rwa [HN.out]
end Go.Proofs.Ytkdmfjpfanmgmaa
