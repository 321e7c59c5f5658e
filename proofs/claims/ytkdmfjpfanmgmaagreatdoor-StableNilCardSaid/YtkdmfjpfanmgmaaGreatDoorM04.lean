/- Joined by mkmerge.py from the proof's texts Fold1. Conditions: each theorem's own hypotheses. -/
import Derived.Test.YtkdmfjpfanmgmaaGreatDoorM01
import Derived.Test.YtkdmfjpfanmgmaaGreatDoorM03
namespace Go.Proofs.YtkdmfjpfanmgmaaGreatDoor
open Go.RowKit
section
variable {w w' : World} {S S' : Nat → Prop}
theorem nums_len (l : List Int) : (nums l).length = l.length := by simp [nums]
theorem all_map {α β : Type} (f : α → β) : ∀ (l : List β), (∀ y ∈ l, ∃ x, y = f x) → ∃ m : List α, l = m.map f
  | [], _ => ⟨[], rfl⟩
  | y :: l, h => by
    obtain ⟨x, rfl⟩ := h y (by simp)
    obtain ⟨l', rfl⟩ := all_map f l fun z hz => h z (by simp [hz])
    exact ⟨x :: l', rfl⟩
theorem RowsAt.all {l : List Sh} {ds : List (List Da)} {A : Option Addr} (h : RowsAt w S l ds A) : ∀ d ∈ ds, ∃ vs, Cels w S l d vs := fun d hd => by
  obtain ⟨j, hj⟩ := List.getElem?_of_mem hd
  obtain ⟨ad, _, _, h⟩ := h (by have := (List.getElem?_eq_some_iff.1 hj).1; omega)
  obtain ⟨vs, hc, _⟩ := h j d hj
  exact ⟨vs, hc⟩
theorem RowsAt.ints {ds : List (List Da)} {A : Option Addr} (h : RowsAt w S [.num] ds A) : ∃ l : List Int, ds = nums l :=
  all_map (fun n : Int => [Da.int n]) ds fun d hd => by
    obtain ⟨vs, hc⟩ := h.all d hd
    obtain ⟨d0, ds', v, vs', rfl, rfl, h1, h2⟩ := hc.cons
    obtain ⟨n, rfl, rfl⟩ := h1.num
    obtain ⟨rfl, rfl⟩ := h2.nil
    exact ⟨n, rfl⟩
theorem Cel.ints {d : Da} {v : Value} (h : Cel w S (.rows [.num]) d v) : ∃ (l : List Int) (A : Option Addr) (c : Nat), d = .rows (nums l) ∧ v = .slice A l.length c ∧ RowsAt w S [.num] (nums l) A := by
  obtain ⟨ds, A, c, rfl, rfl, g⟩ := Cel.rows h
  obtain ⟨l, rfl⟩ := RowsAt.ints g
  exact ⟨l, A, c, rfl, by rw [nums_len], g⟩
theorem Cel.mk_ints {l : List Int} {A : Option Addr} (c : Nat) (h : RowsAt w S [.num] (nums l) A) : Cel w S (.rows [.num]) (.rows (nums l)) (.slice A l.length c) := by
  have h := Cel.mk_rows c h
  rwa [nums_len] at h
def Ent.cs (e : Ent) (A : Option Addr) (c : Nat) (B : Option Addr) (d : Nat) : List Value := [.int .i64 e.idx, .int .i64 e.term, .int .i64 e.kind, .slice A e.v.length c, .slice B e.l.length d, .string (text e.b)]
def Snp.cs (s : Snp) (A : Option Addr) (c : Nat) (B : Option Addr) (d : Nat) : List Value := [.int .i64 s.idx, .int .i64 s.term, .slice A s.v.length c, .slice B s.l.length d, .string (text s.b)]
theorem Ent.open_ {ds : List Da} {vs : List Value} (h : Cels w S shEntry ds vs) : ∃ (e : Ent) (A : Option Addr) (c : Nat) (B : Option Addr) (d : Nat), ds = e.da ∧ vs = e.cs A c B d ∧ RowsAt w S [.num] (nums e.v) A ∧ RowsAt w S [.num] (nums e.l) B := by
  unfold shEntry at h
  obtain ⟨_, _, _, _, rfl, rfl, h0, h⟩ := h.cons
  obtain ⟨_, _, _, _, rfl, rfl, h1, h⟩ := h.cons
  obtain ⟨_, _, _, _, rfl, rfl, h2, h⟩ := h.cons
  obtain ⟨_, _, _, _, rfl, rfl, h3, h⟩ := h.cons
  obtain ⟨_, _, _, _, rfl, rfl, h4, h⟩ := h.cons
  obtain ⟨_, _, _, _, rfl, rfl, h5, h⟩ := h.cons
  obtain ⟨rfl, rfl⟩ := h.nil
  obtain ⟨n0, rfl, rfl⟩ := h0.num
  obtain ⟨n1, rfl, rfl⟩ := h1.num
  obtain ⟨n2, rfl, rfl⟩ := h2.num
  obtain ⟨l3, A, c, rfl, rfl, r3⟩ := h3.ints
  obtain ⟨l4, B, d, rfl, rfl, r4⟩ := h4.ints
  obtain ⟨b, rfl, rfl⟩ := h5.txt
  exact ⟨⟨n0, n1, n2, l3, l4, b⟩, A, c, B, d, rfl, rfl, r3, r4⟩
theorem Ent.mk_ (e : Ent) {A : Option Addr} (c : Nat) {B : Option Addr} (d : Nat) (h : RowsAt w S [.num] (nums e.v) A) (g : RowsAt w S [.num] (nums e.l) B) : Cels w S shEntry e.da (e.cs A c B d) :=
  .mk (.mk_num _) <| .mk (.mk_num _) <| .mk (.mk_num _) <| .mk (.mk_ints c h) <| .mk (.mk_ints d g) <| .mk (.mk_text _) .mk0
theorem Snp.open_ {ds : List Da} {vs : List Value} (h : Cels w S shSnap ds vs) : ∃ (e : Snp) (A : Option Addr) (c : Nat) (B : Option Addr) (d : Nat), ds = e.da ∧ vs = e.cs A c B d ∧ RowsAt w S [.num] (nums e.v) A ∧ RowsAt w S [.num] (nums e.l) B := by
  unfold shSnap at h
  obtain ⟨_, _, _, _, rfl, rfl, h0, h⟩ := h.cons
  obtain ⟨_, _, _, _, rfl, rfl, h1, h⟩ := h.cons
  obtain ⟨_, _, _, _, rfl, rfl, h3, h⟩ := h.cons
  obtain ⟨_, _, _, _, rfl, rfl, h4, h⟩ := h.cons
  obtain ⟨_, _, _, _, rfl, rfl, h5, h⟩ := h.cons
  obtain ⟨rfl, rfl⟩ := h.nil
  obtain ⟨n0, rfl, rfl⟩ := h0.num
  obtain ⟨n1, rfl, rfl⟩ := h1.num
  obtain ⟨l3, A, c, rfl, rfl, r3⟩ := h3.ints
  obtain ⟨l4, B, d, rfl, rfl, r4⟩ := h4.ints
  obtain ⟨b, rfl, rfl⟩ := h5.txt
  exact ⟨⟨n0, n1, l3, l4, b⟩, A, c, B, d, rfl, rfl, r3, r4⟩
theorem Snp.mk_ (e : Snp) {A : Option Addr} (c : Nat) {B : Option Addr} (d : Nat) (h : RowsAt w S [.num] (nums e.v) A) (g : RowsAt w S [.num] (nums e.l) B) : Cels w S shSnap e.da (e.cs A c B d) :=
  .mk (.mk_num _) <| .mk (.mk_num _) <| .mk (.mk_ints c h) <| .mk (.mk_ints d g) <| .mk (.mk_text _) .mk0
theorem RowsAt.ents {ds : List (List Da)} {A : Option Addr} (h : RowsAt w S shEntry ds A) : ∃ l : List Ent, ds = l.map Ent.da :=
  all_map Ent.da ds fun d hd => by
    obtain ⟨vs, hc⟩ := h.all d hd
    obtain ⟨e, _, _, _, _, rfl, _⟩ := Ent.open_ hc
    exact ⟨e, rfl⟩
/-- A record's cells: an entry's and a snapshot's among them. -/
theorem Rcd.open_ {ds : List Da} {vs : List Value} (h : Cels w S shRecord ds vs) : ∃ (r : Rcd) (A : Option Addr) (c : Nat) (B : Option Addr) (d : Nat) (A' : Option Addr) (c' : Nat) (B' : Option Addr) (d' : Nat), ds = r.da ∧
    vs = .int .i64 r.kind :: .int .i64 r.term :: .int .i64 r.vote :: (r.ent.cs A c B d ++ .int .i64 r.at_ :: r.snp.cs A' c' B' d') ∧ RowsAt w S [.num] (nums r.ent.v) A ∧ RowsAt w S [.num] (nums r.ent.l) B ∧ RowsAt w S [.num] (nums r.snp.v) A' ∧ RowsAt w S [.num] (nums r.snp.l) B' := by
  replace h : Cels w S (.num :: .num :: .num :: (shEntry ++ .num :: shSnap)) ds vs := h
  obtain ⟨_, _, _, _, rfl, rfl, h0, g1⟩ := h.cons
  obtain ⟨_, _, _, _, rfl, rfl, h1, g2⟩ := g1.cons
  obtain ⟨_, _, _, _, rfl, rfl, h2, g3⟩ := g2.cons
  obtain ⟨_, _, _, _, rfl, rfl, he, g4⟩ := g3.split
  obtain ⟨_, _, _, _, rfl, rfl, h3, g5⟩ := g4.cons
  obtain ⟨n0, rfl, rfl⟩ := h0.num
  obtain ⟨n1, rfl, rfl⟩ := h1.num
  obtain ⟨n2, rfl, rfl⟩ := h2.num
  obtain ⟨n3, rfl, rfl⟩ := h3.num
  obtain ⟨e, A, c, B, d, rfl, rfl, r1, r2⟩ := Ent.open_ he
  obtain ⟨s, A', c', B', d', rfl, rfl, r3, r4⟩ := Snp.open_ g5
  exact ⟨⟨n0, n1, n2, e, n3, s⟩, A, c, B, d, A', c', B', d', rfl, rfl, r1, r2, r3, r4⟩
theorem Rcd.mk_ (r : Rcd) {A : Option Addr} (c : Nat) {B : Option Addr} (d : Nat) {A' : Option Addr} (c' : Nat) {B' : Option Addr} (d' : Nat) (h1 : RowsAt w S [.num] (nums r.ent.v) A) (h2 : RowsAt w S [.num] (nums r.ent.l) B) (h3 : RowsAt w S [.num] (nums r.snp.v) A') (h4 : RowsAt w S [.num] (nums r.snp.l) B') :
    Cels w S shRecord r.da (.int .i64 r.kind :: .int .i64 r.term :: .int .i64 r.vote :: (r.ent.cs A c B d ++ .int .i64 r.at_ :: r.snp.cs A' c' B' d')) :=
  .mk (.mk_num _) <| .mk (.mk_num _) <| .mk (.mk_num _) <| Cels.join (l := shEntry) (Ent.mk_ r.ent c d h1 h2) <| .mk (.mk_num _) (Snp.mk_ r.snp c' d' h3 h4)
theorem Kep.open_ {ds : List Da} {vs : List Value} (h : Cels w S shKept ds vs) : ∃ (k : Kep) (A : Option Addr) (c : Nat) (B : Option Addr) (d : Nat) (E : Option Addr) (n : Nat), ds = k.da ∧
    vs = .int .i64 k.term :: .int .i64 k.vote :: (k.snp.cs A c B d ++ [.slice E k.ents.length n]) ∧ RowsAt w S [.num] (nums k.snp.v) A ∧ RowsAt w S [.num] (nums k.snp.l) B ∧ RowsAt w S shEntry (k.ents.map Ent.da) E := by
  replace h : Cels w S (.num :: .num :: (shSnap ++ [.rows shEntry])) ds vs := h
  obtain ⟨_, _, _, _, rfl, rfl, h0, g1⟩ := h.cons
  obtain ⟨_, _, _, _, rfl, rfl, h1, g2⟩ := g1.cons
  obtain ⟨_, _, _, _, rfl, rfl, he, g3⟩ := g2.split
  obtain ⟨_, _, _, _, rfl, rfl, h3, g4⟩ := g3.cons
  obtain ⟨rfl, rfl⟩ := g4.nil
  obtain ⟨n0, rfl, rfl⟩ := h0.num
  obtain ⟨n1, rfl, rfl⟩ := h1.num
  obtain ⟨s, A, c, B, d, rfl, rfl, r1, r2⟩ := Snp.open_ he
  obtain ⟨es, E, n, rfl, rfl, r3⟩ := h3.rows
  obtain ⟨l, rfl⟩ := r3.ents
  exact ⟨⟨n0, n1, s, l⟩, A, c, B, d, E, n, rfl, by simp, r1, r2, r3⟩
theorem Kep.mk_ (k : Kep) {A : Option Addr} (c : Nat) {B : Option Addr} (d : Nat) {E : Option Addr} (n : Nat) (h1 : RowsAt w S [.num] (nums k.snp.v) A) (h2 : RowsAt w S [.num] (nums k.snp.l) B) (h3 : RowsAt w S shEntry (k.ents.map Ent.da) E) :
    Cels w S shKept k.da (.int .i64 k.term :: .int .i64 k.vote :: (k.snp.cs A c B d ++ [.slice E k.ents.length n])) := by
  have h4 := Cel.mk_rows n h3
  rw [List.length_map] at h4
  exact .mk (.mk_num _) <| .mk (.mk_num _) <| Cels.join (l := shSnap) (Snp.mk_ k.snp c d h1 h2) <| .mk h4 .mk0
end
end Go.Proofs.YtkdmfjpfanmgmaaGreatDoor
