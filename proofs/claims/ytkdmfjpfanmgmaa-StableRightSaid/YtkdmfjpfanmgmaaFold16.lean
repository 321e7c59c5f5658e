/- The walks of stable's is, last and vote. Printed by mkfold16.py. -/
import Derived.Test.YtkdmfjpfanmgmaaFold14
import Derived.StillTailTactics
import Derived.BigQuiet
import Derived.Deep.QuietTactic
import Derived.RegionTactic
import Derived.IntWalk
namespace Go.Proofs.Ytkdmfjpfanmgmaa
open Go.RowKit Le
set_option maxRecDepth 100000
set_option linter.unusedSimpArgs false
set_option linter.unusedVariables false

/-- What stable throws. -/
def thrownS (E : Int) : List PanicEntry := [{ v := .iface 77 (.agg #[.int .i64 E]), recovered := false }]
set_option maxHeartbeats 800000 in
theorem is_ok (E : Int) (w : World) : Calls Try.prog 33 #[.bool true, .int .i64 E] w fun e w' => e = .returned (.tuple #[]) ∧ w = w' := by
  go_enter Try.func33, Try.ntmps33
  go_wp2
  go_end0
  exact ⟨rfl, rfl⟩
set_option maxHeartbeats 800000 in
theorem is_no (E : Int) (w : World) : Calls Try.prog 33 #[.bool false, .int .i64 E] w fun e w' => e = .panicked (thrownS E) ∧ w = w' := by
  go_enter Try.func33, Try.ntmps33
  go_wp2
  exact ⟨rfl, rfl, rfl⟩

/-- The cells of a fold: what is kept, and the record. -/
def foldCs (k : Kep) (r : Rcd) (A : Option Addr) (c : Nat) (B : Option Addr) (d : Nat) (E : Option Addr) (n : Nat) (A1 : Option Addr) (c1 : Nat) (B1 : Option Addr) (d1 : Nat) (A2 : Option Addr) (c2 : Nat) (B2 : Option Addr) (d2 : Nat) : List Value := [.int .i64 k.term, .int .i64 k.vote, .int .i64 k.snp.idx, .int .i64 k.snp.term, .slice A k.snp.v.length c, .slice B k.snp.l.length d, .string (text k.snp.b), .slice E k.ents.length n, .int .i64 r.kind, .int .i64 r.term, .int .i64 r.vote, .int .i64 r.ent.idx, .int .i64 r.ent.term, .int .i64 r.ent.kind, .slice A1 r.ent.v.length c1, .slice B1 r.ent.l.length d1, .string (text r.ent.b), .int .i64 r.at_, .int .i64 r.snp.idx, .int .i64 r.snp.term, .slice A2 r.snp.v.length c2, .slice B2 r.snp.l.length d2, .string (text r.snp.b)]
/-- Numbers are small. -/
structure OkK (k : Kep) : Prop where
  idx : okN k.snp.idx
  len : k.ents.length ≤ 10000
theorem okN_i {n : Int} (h : okN n) : 0 ≤ n ∧ n ≤ 1000000000 := h

set_option maxHeartbeats 1600000 in
theorem last_any (k : Kep) (r : Rcd) (A : Option Addr) (c : Nat) (B : Option Addr) (d : Nat) (E : Option Addr) (n : Nat) (A1 : Option Addr) (c1 : Nat) (B1 : Option Addr) (d1 : Nat) (A2 : Option Addr) (c2 : Nat) (B2 : Option Addr) (d2 : Nat) (g : Nat) (w : World) (hB : Blk w g 66 (foldCs k r A c B d E n A1 c1 B1 d1 A2 c2 B2 d2)) (hk : OkK k) :
    Calls Try.prog 50 #[.pointer (some ⟨g, 0, none⟩)] w fun e w' => e = .returned (.int .i64 (k.snp.idx + k.ents.length)) ∧ ∃ m, w' = w.drewN m := by
  unfold foldCs at hB
  have HB := Lib.hid hB
  clear hB
  have h1 := okN_i hk.idx
  have h2 := hk.len
  have s1 : IntKind.i64.wrap (k.snp.idx + (k.ents.length : Int)) = k.snp.idx + (k.ents.length : Int) := IntWalk.i64_in _ (by omega)
  have a2 : w.cell? ⟨g, 2, none⟩ = some (.int .i64 k.snp.idx) := HB.out.cell 2
  have a7 : w.cell? ⟨g, 7, none⟩ = some (.slice E k.ents.length n) := HB.out.cell 7
  go_enter Try.func50, Try.ntmps50
  go_wp2
  go_quiet (fail)
  go_wp2
  go_ret
  exact ⟨rfl, _, rfl⟩

/-- How a step of a fold ends: an error is thrown, or the fold's block holds what comes out. -/
def FoldEnd (w : World) (base g : Nat) (k : Kep) (r : Rcd) (A1 : Option Addr) (c1 : Nat) (B1 : Option Addr) (d1 : Nat) (A2 : Option Addr) (c2 : Nat) (B2 : Option Addr) (d2 : Nat) (e : Ending) (w' : World) : Prop :=
  ((∃ E : Nat, E ≠ 0 ∧ foldedP k r = (.zero, E) ∧ e = .panicked (thrownS E)) ∨
  (∃ k' A c B d E n, foldedP k r = (k', 0) ∧ e = .returned (.tuple #[]) ∧ Blk w' g 66 (foldCs k' r A c B d E n A1 c1 B1 d1 A2 c2 B2 d2) ∧ KepAt w' (Nw w' base [34, 3]) k' A B E)) ∧ Below base w w' ∧ Keeps [66, 34] w w'
theorem FoldEnd.bad {w w' : World} {base g : Nat} {k : Kep} {r : Rcd} {A1 : Option Addr} {c1 : Nat} {B1 : Option Addr} {d1 : Nat} {A2 : Option Addr} {c2 : Nat} {B2 : Option Addr} {d2 : Nat} {e : Ending} (E : Nat) (h0 : E ≠ 0) (h : foldedP k r = (.zero, E)) (he : e = .panicked (thrownS E)) (hb : Below base w w') (hk : Keeps [66, 34] w w') :
    FoldEnd w base g k r A1 c1 B1 d1 A2 c2 B2 d2 e w' := ⟨.inl ⟨E, h0, h, he⟩, hb, hk⟩
theorem FoldEnd.good {w w' : World} {base g : Nat} {k : Kep} {r : Rcd} {A1 : Option Addr} {c1 : Nat} {B1 : Option Addr} {d1 : Nat} {A2 : Option Addr} {c2 : Nat} {B2 : Option Addr} {d2 : Nat} {e : Ending} (k' : Kep) (A : Option Addr) (c : Nat) (B : Option Addr) (d : Nat) (E : Option Addr) (n : Nat) (h : foldedP k r = (k', 0)) (he : e = .returned (.tuple #[]))
    (hB : Blk w' g 66 (foldCs k' r A c B d E n A1 c1 B1 d1 A2 c2 B2 d2)) (hA : KepAt w' (Nw w' base [34, 3]) k' A B E) (hb : Below base w w') (hk : Keeps [66, 34] w w') :
    FoldEnd w base g k r A1 c1 B1 d1 A2 c2 B2 d2 e w' := ⟨.inr ⟨k', A, c, B, d, E, n, h, he, hB, hA⟩, hb, hk⟩
theorem FoldEnd.good1 {w w' : World} {base g : Nat} {k : Kep} {r : Rcd} {A1 : Option Addr} {c1 : Nat} {B1 : Option Addr} {d1 : Nat} {A2 : Option Addr} {c2 : Nat} {B2 : Option Addr} {d2 : Nat} {e : Ending} {A : Option Addr} {c : Nat} {B : Option Addr} {d : Nat} {E : Option Addr} {n : Nat} (t v : Int) (h : foldedP k r = ({ k with term := t, vote := v }, 0)) (he : e = .returned (.tuple #[]))
    (hA : KepOwn w base k A B E n) (hB : Blk w' g 66 (foldCs { k with term := t, vote := v } r A c B d E n A1 c1 B1 d1 A2 c2 B2 d2)) (hb : Below base w w') (hk : Keeps [66] w w') :
    FoldEnd w base g k r A1 c1 B1 d1 A2 c2 B2 d2 e w' :=
  FoldEnd.good _ A c B d E n h he hB (by have h := (hA.keeps hk (by decide) (by decide)).at_; exact ⟨h.v, h.l, h.e⟩) hb (hk.more (by simp))
theorem folded_vote_no {k : Kep} {r : Rcd} (h : r.kind = 1) (ht : r.term < k.term) : foldedP k r = (.zero, 140) := by unfold foldedP; rw [if_pos h, if_pos ht]
theorem folded_vote_ok {k : Kep} {r : Rcd} (h : r.kind = 1) (ht : ¬ r.term < k.term) : foldedP k r = ({ k with term := r.term, vote := r.vote }, 0) := by unfold foldedP; rw [if_pos h, if_neg ht]

theorem kv1 {w : World} {g i : Nat} {x y u : Value} (hi : i < 9) (h : w.cell? ⟨g, 9, none⟩ = some x ∧ w.cell? ⟨g, 10, none⟩ = some y) : (w.setCell ⟨g, i, none⟩ u).cell? ⟨g, 9, none⟩ = some x ∧ (w.setCell ⟨g, i, none⟩ u).cell? ⟨g, 10, none⟩ = some y := by
  refine ⟨?_, ?_⟩
  · rw [World.cell?_setCell_other _ _ _ _ (by first | (simp; done) | (simp; omega))]; exact h.1
  · rw [World.cell?_setCell_other _ _ _ _ (by first | (simp; done) | (simp; omega))]; exact h.2
theorem lt09 : 0 < 9 := by decide
theorem lt19 : 1 < 9 := by decide
set_option maxHeartbeats 3200000 in
theorem vote_any (k : Kep) (r : Rcd) (A : Option Addr) (c : Nat) (B : Option Addr) (d : Nat) (E : Option Addr) (n : Nat) (A1 : Option Addr) (c1 : Nat) (B1 : Option Addr) (d1 : Nat) (A2 : Option Addr) (c2 : Nat) (B2 : Option Addr) (d2 : Nat) (base g : Nat) (w : World) (hB : Blk w g 66 (foldCs k r A c B d E n A1 c1 B1 d1 A2 c2 B2 d2)) (hK : KepOwn w base k A B E n) (hbg : base ≤ g) (h1 : r.kind = 1) :
    Calls Try.prog 35 #[.pointer (some ⟨g, 0, none⟩)] w (FoldEnd w base g k r A1 c1 B1 d1 A2 c2 B2 d2) := by
  unfold foldCs at hB
  have HB := Lib.hid hB
  have HK := Lib.hid hK
  have H1 := Lib.hid h1
  clear hB hK h1
  have a0 : w.cell? ⟨g, 0, none⟩ = some (.int .i64 k.term) := HB.out.cell 0
  have a1 : w.cell? ⟨g, 1, none⟩ = some (.int .i64 k.vote) := HB.out.cell 1
  have a9 : w.cell? ⟨g, 9, none⟩ = some (.int .i64 r.term) := HB.out.cell 9
  have a10 : w.cell? ⟨g, 10, none⟩ = some (.int .i64 r.vote) := HB.out.cell 10
  have p0 : w.frozen? ⟨g, 0, none⟩ = false := HB.out.frozen 0
  have p1 : w.frozen? ⟨g, 1, none⟩ = false := HB.out.frozen 1
  by_cases ht : r.term < k.term
  · have HF := Lib.hid (folded_vote_no H1.out ht)
    have t : decide (k.term ≤ r.term) = false := decide_eq_false (by omega)
    go_enter Try.func35, Try.ntmps35
    go_wp2_with fail
    go_still_tail 11, (by kernel_rfl)
    go_wp2_with fail
    refine (is_no 140 _).mono ?_
    rintro e w1 ⟨rfl, rfl⟩
    exact ⟨rfl, FoldEnd.bad 140 (by decide) HF.out rfl (Below.refl _ _).drew (Keeps.drew _)⟩
  · have HF := Lib.hid (folded_vote_ok H1.out ht)
    go_enter Try.func35, Try.ntmps35
    go_wp2_with fail
    go_still_tail 11, (by kernel_rfl)
    go_wp2_with fail
    refine (is_ok 140 _).mono ?_
    rintro e w1 ⟨rfl, rfl⟩
    go_wp2
    go_region_held3 (fun w' => w'.cell? ⟨g, 9, none⟩ = some (.int .i64 r.term) ∧ w'.cell? ⟨g, 10, none⟩ = some (.int .i64 r.vote)) (first
      | exact ⟨a9, a10⟩
      | exact kv1 lt09 ⟨a9, a10⟩
      | exact kv1 lt19 ⟨a9, a10⟩
      | exact kv1 lt19 (kv1 lt09 ⟨a9, a10⟩)
      | exact kv1 lt09 (kv1 lt19 ⟨a9, a10⟩)) (fail)
    all_goals
      go_wp2
      go_end0
      refine FoldEnd.good1 (A := A) (c := c) (B := B) (d := d) (E := E) (n := n) r.term r.vote HF.out rfl HK.out ?_ ?_ ?_
      · have := HB.out.set_ 0 (.int .i64 r.term) |>.set_ 1 (.int .i64 r.vote)
        have h2 := HB.out.set_ 1 (.int .i64 r.vote) |>.set_ 0 (.int .i64 r.term)
        unfold foldCs
        first
          | exact Blk.drew (Blk.drew (by simpa using this))
          | exact Blk.drew (Blk.drew (by simpa using h2))
      · exact Below.drew (Below.drew (by repeat (first | exact Below.refl _ _ | refine Below.setCell ?_ (by dsimp only; omega) _)))
      · exact Keeps.trans (Keeps.trans (by repeat (first | with_reducible exact Keeps.refl _ _ | (with_reducible refine Keeps.step1 ?_ (by repeat (first | with_reducible exact Blk.typ HB.out | with_reducible refine TypeAt.setCell ?_ _ _))))) (Keeps.drew _)) (Keeps.drew _)
end Go.Proofs.Ytkdmfjpfanmgmaa
