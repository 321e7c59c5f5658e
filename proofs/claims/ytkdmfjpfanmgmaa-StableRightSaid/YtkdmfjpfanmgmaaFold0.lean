/- Plain: what a stable keeps, and what a record makes of it. No condition: no program is in sight. -/
import Derived.Test.YtkdmfjpfanmgmaaShapes
namespace Go.Proofs.Ytkdmfjpfanmgmaa

structure Snp where
  idx : Int
  term : Int
  v : List Int
  l : List Int
  b : List UInt8
  deriving DecidableEq
structure Ent where
  idx : Int
  term : Int
  kind : Int
  v : List Int
  l : List Int
  b : List UInt8
  deriving DecidableEq
structure Rcd where
  kind : Int
  term : Int
  vote : Int
  ent : Ent
  at_ : Int
  snp : Snp
  deriving DecidableEq
structure Kep where
  term : Int
  vote : Int
  snp : Snp
  ents : List Ent
  deriving DecidableEq

def shEntry : List Sh := [.num, .num, .num, .rows [.num], .rows [.num], .text]
def shSnap : List Sh := [.num, .num, .rows [.num], .rows [.num], .text]
def shKept : List Sh := [.num, .num, .num, .num, .rows [.num], .rows [.num], .text, .rows shEntry]
def nums (l : List Int) : List (List Da) := l.map fun n => [.int n]
def Snp.da (s : Snp) : List Da := [.int s.idx, .int s.term, .rows (nums s.v), .rows (nums s.l), .text s.b]
def Ent.da (e : Ent) : List Da := [.int e.idx, .int e.term, .int e.kind, .rows (nums e.v), .rows (nums e.l), .text e.b]
def Rcd.da (r : Rcd) : List Da := [.int r.kind, .int r.term, .int r.vote, .int r.ent.idx, .int r.ent.term, .int r.ent.kind, .rows (nums r.ent.v), .rows (nums r.ent.l), .text r.ent.b, .int r.at_, .int r.snp.idx, .int r.snp.term, .rows (nums r.snp.v), .rows (nums r.snp.l), .text r.snp.b]
def Kep.da (k : Kep) : List Da := [.int k.term, .int k.vote, .int k.snp.idx, .int k.snp.term, .rows (nums k.snp.v), .rows (nums k.snp.l), .text k.snp.b, .rows (k.ents.map Ent.da)]
def Snp.zero : Snp := ⟨0, 0, [], [], []⟩
def Ent.zero : Ent := ⟨0, 0, 0, [], [], []⟩
def Kep.zero : Kep := ⟨0, 0, .zero, []⟩
def Rcd.ofVote (t v : Int) : Rcd := ⟨1, t, v, .zero, 0, .zero⟩
def Rcd.ofEnt (e : Ent) : Rcd := ⟨2, 0, 0, e, 0, .zero⟩
def Rcd.ofCut (n : Int) : Rcd := ⟨3, 0, 0, .zero, n, .zero⟩
def Rcd.ofSnp (s : Snp) : Rcd := ⟨4, 0, 0, .zero, 0, s⟩

/-- The error of a record's bytes. -/
def putE (r : Rcd) : Nat := (lays shRecord r.da ([], 0)).2
def recs (k : Kep) : List Rcd := Rcd.ofVote k.term k.vote :: ((if k.snp = .zero then [] else [Rcd.ofSnp k.snp]) ++ k.ents.map Rcd.ofEnt)
/-- A machine's sum. -/
def wr (n : Int) : Int := i64w (u64w n)
def inRow (s : Int) : Nat → List Ent → Bool
  | _, [] => true
  | i, e :: l => e.idx == wr (wr (s + 1) + i) && inRow s (i + 1) l
def rightP (k : Kep) : Bool := k.ents.length ≤ 10000 && !(k.snp.idx < 1 && k.snp ≠ .zero) && inRow k.snp.idx 0 k.ents && (recs k).all fun r => putE r == 0
def mayP (r : Rcd) : Bool := putE r == 0 &&
  ((r.kind == 1 && r.ent = .zero && r.at_ == 0 && r.snp = .zero) || (r.kind == 2 && r.term == 0 && r.vote == 0 && r.at_ == 0 && r.snp = .zero)
  || (r.kind == 3 && r.term == 0 && r.vote == 0 && r.ent = .zero && r.snp = .zero) || (r.kind == 4 && r.term == 0 && r.vote == 0 && r.ent = .zero && r.at_ == 0))
def Kep.last (k : Kep) : Int := k.snp.idx + k.ents.length
/-- What is right, and a record that may be. -/
def foldedP (k : Kep) (r : Rcd) : Kep × Nat :=
  if r.kind = 1 then (if r.term < k.term then (.zero, 140) else ({ k with term := r.term, vote := r.vote }, 0))
  else if r.kind = 2 then (if r.ent.idx ≠ k.last + 1 then (.zero, 140) else if 10000 ≤ k.ents.length then (.zero, 2) else ({ k with ents := k.ents ++ [r.ent] }, 0))
  else if r.kind = 3 then (if r.at_ ≤ k.snp.idx ∨ k.last < r.at_ then (.zero, 140) else ({ k with ents := k.ents.take (r.at_ - k.snp.idx - 1).toNat }, 0))
  else if r.snp.idx ≤ k.snp.idx then (.zero, 140)
  else ({ k with snp := r.snp, ents := if (k.ents[(r.snp.idx - k.snp.idx - 1).toNat]?).map (·.term) = some r.snp.term then k.ents.drop ((r.snp.idx - k.snp.idx - 1).toNat + 1) else [] }, 0)
def foldP (k : Kep) (r : Rcd) : Kep × Nat := if rightP k then (if mayP r then foldedP k r else (.zero, 140)) else (.zero, 1)

/-! ### When a record's bytes may be laid. -/
def okN (n : Int) : Prop := 0 ≤ n ∧ n ≤ 1000000000
def okL (l : List Int) : Prop := l.length ≤ 4096 ∧ ∀ n ∈ l, okN n
def okT (b : List UInt8) : Prop := b.length ≤ 65536
theorem layNum_ok (n : Int) (s : St) : (layNum n s).2 = 0 ↔ s.2 = 0 ∧ okN n := by
  unfold layNum okN
  split
  · rename_i h; simp [St.put, h]
  · rename_i h
    simp only [St.fail]
    split <;> simp_all
theorem layText_ok (b : List UInt8) (s : St) : (layText b s).2 = 0 ↔ s.2 = 0 ∧ okT b := by
  unfold layText okT
  split
  · rename_i h; simp [St.put, h]
  · rename_i h
    simp only [St.fail]
    split <;> simp_all
theorem layNums_fold : ∀ (l : List Int) (s : St), ((nums l).foldl (fun s d => lays [.num] d s) s).2 = 0 ↔ s.2 = 0 ∧ ∀ n ∈ l, okN n
  | [], s => by simp [nums]
  | n :: l, s => by
    have h := layNums_fold l (layNum n s)
    simp only [nums, List.map_cons, List.foldl_cons, lays, lay] at h ⊢
    rw [h, layNum_ok]
    simp [and_assoc]
theorem layNums_ok (l : List Int) (s : St) : (lay (.rows [.num]) (.rows (nums l)) s).2 = 0 ↔ s.2 = 0 ∧ okL l := by
  have hl : (nums l).length = l.length := by simp [nums]
  simp only [lay]
  split
  · rename_i h0
    rw [hl]
    split
    · rename_i h1
      rw [layNums_fold, layNum_ok]
      simp only [h0, okL, okN, h1, true_and, and_iff_right_iff_imp]
      intro _
      omega
    · rename_i h1
      simp [St.fail, h0, okL, h1]
  · rename_i h0
    simp [h0]
/-- The parts that may be laid. -/
structure OkS (s : Snp) : Prop where
  idx : okN s.idx
  term : okN s.term
  v : okL s.v
  l : okL s.l
  b : okT s.b
structure OkE (e : Ent) : Prop where
  idx : okN e.idx
  term : okN e.term
  kind : okN e.kind
  v : okL e.v
  l : okL e.l
  b : okT e.b
theorem putE_ok (r : Rcd) : putE r = 0 ↔ okN r.kind ∧ okN r.term ∧ okN r.vote ∧ OkE r.ent ∧ okN r.at_ ∧ OkS r.snp := by
  unfold putE shRecord Rcd.da
  simp only [lays]
  simp only [layText_ok, layNums_ok, lay_num_eq, lay_text_eq, layNum_ok]
  constructor
  · rintro ⟨⟨⟨⟨⟨⟨⟨⟨⟨⟨⟨⟨⟨⟨⟨-, a⟩, b⟩, c⟩, d⟩, e⟩, f⟩, g⟩, h⟩, i⟩, j⟩, k⟩, l⟩, m⟩, n⟩, o⟩
    exact ⟨a, b, c, ⟨d, e, f, g, h, i⟩, j, ⟨k, l, m, n, o⟩⟩
  · rintro ⟨a, b, c, ⟨d, e, f, g, h, i⟩, j, ⟨k, l, m, n, o⟩⟩
    exact ⟨⟨⟨⟨⟨⟨⟨⟨⟨⟨⟨⟨⟨⟨⟨trivial, a⟩, b⟩, c⟩, d⟩, e⟩, f⟩, g⟩, h⟩, i⟩, j⟩, k⟩, l⟩, m⟩, n⟩, o⟩
theorem okN0 : okN 0 := ⟨by omega, by omega⟩
theorem okN1 (n : Int) (h : 0 ≤ n) (g : n ≤ 1000000000) : okN n := ⟨h, g⟩
theorem OkS.zero : OkS .zero := ⟨okN0, okN0, ⟨by simp [Snp.zero], by simp [Snp.zero]⟩, ⟨by simp [Snp.zero], by simp [Snp.zero]⟩, by simp [okT, Snp.zero]⟩
theorem OkE.zero : OkE .zero := ⟨okN0, okN0, okN0, ⟨by simp [Ent.zero], by simp [Ent.zero]⟩, ⟨by simp [Ent.zero], by simp [Ent.zero]⟩, by simp [okT, Ent.zero]⟩
theorem ofVote_ok (t v : Int) : putE (.ofVote t v) = 0 ↔ okN t ∧ okN v := by
  rw [putE_ok]
  exact ⟨fun h => ⟨h.2.1, h.2.2.1⟩, fun h => ⟨okN1 1 (by omega) (by omega), h.1, h.2, .zero, okN0, .zero⟩⟩
theorem ofEnt_ok (e : Ent) : putE (.ofEnt e) = 0 ↔ OkE e := by
  rw [putE_ok]
  exact ⟨fun h => h.2.2.2.1, fun h => ⟨okN1 2 (by omega) (by omega), okN0, okN0, h, okN0, .zero⟩⟩
theorem ofSnp_ok (s : Snp) : putE (.ofSnp s) = 0 ↔ OkS s := by
  rw [putE_ok]
  exact ⟨fun h => h.2.2.2.2.2, fun h => ⟨okN1 4 (by omega) (by omega), okN0, okN0, .zero, okN0, h⟩⟩

/-- What is right, in words. -/
structure Right (k : Kep) : Prop where
  len : k.ents.length ≤ 10000
  term : okN k.term
  vote : okN k.vote
  snp : OkS k.snp
  one : k.snp = .zero ∨ 1 ≤ k.snp.idx
  ents : ∀ e ∈ k.ents, OkE e
  row : ∀ (i : Nat) (e : Ent), k.ents[i]? = some e → e.idx = k.snp.idx + 1 + i
theorem wr_eq {n : Int} (h : -9223372036854775808 ≤ n) (g : n ≤ 9223372036854775807) : wr n = n := by
  unfold wr i64w u64w
  split <;> omega
theorem inRow_iff (s : Int) : ∀ (i : Nat) (l : List Ent), inRow s i l = true ↔ ∀ (j : Nat) (e : Ent), l[j]? = some e → e.idx = wr (wr (s + 1) + (i + j : Nat))
  | i, [] => by simp [inRow]
  | i, e :: l => by
    simp only [inRow, Bool.and_eq_true, beq_iff_eq, inRow_iff s (i + 1) l]
    constructor
    · rintro ⟨h1, h2⟩ j e' hj
      cases j with
      | zero => simp at hj; subst hj; simpa using h1
      | succ j =>
        have := h2 j e' (by simpa using hj)
        rw [this]
        congr 2
        omega
    · intro h
      refine ⟨by simpa using h 0 e (by simp), fun j e' hj => ?_⟩
      have := h (j + 1) e' (by simpa using hj)
      rw [this]
      congr 2
      omega
theorem rightP_iff (k : Kep) : rightP k = true ↔ Right k := by
  have hz : k.snp = .zero → k.snp.idx = 0 := fun h => by rw [h]; rfl
  have hrec : ((recs k).all fun r => putE r == 0) = true ↔ (okN k.term ∧ okN k.vote) ∧ (k.snp = .zero ∨ OkS k.snp) ∧ ∀ e ∈ k.ents, OkE e := by
    unfold recs
    simp only [List.all_cons, List.all_append, List.all_map, Bool.and_eq_true, beq_iff_eq, ofVote_ok]
    refine and_congr Iff.rfl (and_congr ?_ ?_)
    · by_cases h : k.snp = .zero
      · simp [h]
      · simp [h, ofSnp_ok]
    · simp [List.all_eq_true, ofEnt_ok]
  simp only [rightP, Bool.and_eq_true, hrec, decide_eq_true_eq, Bool.not_eq_true', Bool.and_eq_false_iff, decide_eq_false_iff_not, inRow_iff]
  constructor
  · rintro ⟨⟨⟨h1, h2⟩, h3⟩, ⟨h4, h5⟩, h6, h7⟩
    have hs : OkS k.snp := by
      rcases h6 with h | h
      · rw [h]; exact .zero
      · exact h
    refine ⟨h1, h4, h5, hs, ?_, h7, fun i e he => ?_⟩
    · by_cases h : k.snp = .zero
      · exact .inl h
      · right
        rcases h2 with h2 | h2
        · omega
        · exact absurd h (by simpa using h2)
    · have hi := (List.getElem?_eq_some_iff.1 he).1
      have h := h3 i e he
      have := hs.idx.1
      have := hs.idx.2
      rw [wr_eq (n := k.snp.idx + 1) (by omega) (by omega), wr_eq (by omega) (by omega)] at h
      rw [h]
      omega
  · intro h
    refine ⟨⟨⟨h.len, ?_⟩, fun i e he => ?_⟩, ⟨h.term, h.vote⟩, .inr h.snp, h.ents⟩
    · rcases h.one with h' | h'
      · exact .inr (by simpa using h')
      · exact .inl (by omega)
    · have hi := (List.getElem?_eq_some_iff.1 he).1
      have := h.len
      have := h.snp.idx.1
      have := h.snp.idx.2
      rw [wr_eq (n := k.snp.idx + 1) (by omega) (by omega), wr_eq (by omega) (by omega), h.row i e he]
      omega
/-- What comes out of what is right is right. -/
theorem foldP_right {k x : Kep} {r : Rcd} (h : foldP k r = (x, 0)) : Right k ∧ putE r = 0 ∧ mayP r = true ∧ foldedP k r = (x, 0) := by
  unfold foldP at h
  split at h
  · rename_i h1
    split at h
    · rename_i h2
      refine ⟨(rightP_iff k).1 h1, ?_, h2, h⟩
      simp only [mayP, Bool.and_eq_true, beq_iff_eq] at h2
      exact h2.1
    · simp at h
  · simp at h
end Go.Proofs.Ytkdmfjpfanmgmaa
