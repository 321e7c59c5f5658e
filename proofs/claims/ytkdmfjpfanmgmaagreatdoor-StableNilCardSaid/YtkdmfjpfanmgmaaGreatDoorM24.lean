/- Joined by mkmerge.py from the proof's texts Fold16, Fold18, Fold19, Fold20. Conditions: each theorem's own hypotheses. -/
import Derived.Test.YtkdmfjpfanmgmaaGreatDoorM23
import Derived.StillTailTactics
import Derived.BigQuiet
import Derived.Deep.QuietTactic
import Derived.RegionTactic
import Derived.IntWalk
import Derived.Deep.RegionLaw
import Derived.Recover
import Derived.Defers
namespace Go.Proofs.YtkdmfjpfanmgmaaGreatDoor
open Go.RowKit Le
set_option maxRecDepth 100000
set_option linter.unusedSimpArgs false
set_option linter.unusedVariables false
/-- What stable throws. -/
def thrownS (E : Int) : List PanicEntry := [{ v := .iface 82 (.agg #[.int .i64 E]), recovered := false }]
set_option maxHeartbeats 800000 in
theorem is_ok (E : Int) (w : World) : Calls Tryz.prog 49 #[.bool true, .int .i64 E] w fun e w' => e = .returned (.tuple #[]) ∧ w = w' := by
  go_enter Tryz.func49, Tryz.ntmps49
  go_wp2
  go_end0
  exact ⟨rfl, rfl⟩
set_option maxHeartbeats 800000 in
theorem is_no (E : Int) (w : World) : Calls Tryz.prog 49 #[.bool false, .int .i64 E] w fun e w' => e = .panicked (thrownS E) ∧ w = w' := by
  go_enter Tryz.func49, Tryz.ntmps49
  go_wp2
  exact ⟨rfl, rfl, rfl⟩
/-- The cells of a fold: what is kept, and the record. -/
def foldCs (k : Kep) (r : Rcd) (A : Option Addr) (c : Nat) (B : Option Addr) (d : Nat) (E : Option Addr) (n : Nat) (A1 : Option Addr) (c1 : Nat) (B1 : Option Addr) (d1 : Nat) (A2 : Option Addr) (c2 : Nat) (B2 : Option Addr) (d2 : Nat) : List Value := [.int .i64 k.term, .int .i64 k.vote, .int .i64 k.snp.idx, .int .i64 k.snp.term, .slice A k.snp.v.length c, .slice B k.snp.l.length d, .string (text k.snp.b), .slice E k.ents.length n, .int .i64 r.kind, .int .i64 r.term, .int .i64 r.vote, .int .i64 r.ent.idx, .int .i64 r.ent.term, .int .i64 r.ent.kind, .slice A1 r.ent.v.length c1, .slice B1 r.ent.l.length d1, .string (text r.ent.b), .int .i64 r.at_, .int .i64 r.snp.idx, .int .i64 r.snp.term, .slice A2 r.snp.v.length c2, .slice B2 r.snp.l.length d2, .string (text r.snp.b)]
/-- Numbers are small. -/
structure OkK (k : Kep) : Prop where
  idx : okN k.snp.idx
  len : k.ents.length ≤ 10000
theorem okN_i {n : Int} (h : okN n) : 0 ≤ n ∧ n ≤ 1000000000 := h
set_option maxHeartbeats 1600000 in
theorem last_any (k : Kep) (r : Rcd) (A : Option Addr) (c : Nat) (B : Option Addr) (d : Nat) (E : Option Addr) (n : Nat) (A1 : Option Addr) (c1 : Nat) (B1 : Option Addr) (d1 : Nat) (A2 : Option Addr) (c2 : Nat) (B2 : Option Addr) (d2 : Nat) (g : Nat) (w : World) (hB : Blk w g 112 (foldCs k r A c B d E n A1 c1 B1 d1 A2 c2 B2 d2)) (hk : OkK k) :
    Calls Tryz.prog 87 #[.pointer (some ⟨g, 0, none⟩)] w fun e w' => e = .returned (.int .i64 (k.snp.idx + k.ents.length)) ∧ ∃ m, w' = w.drewN m := by
  unfold foldCs at hB
  have HB := Lib.hid hB
  clear hB
  have h1 := okN_i hk.idx
  have h2 := hk.len
  have s1 : IntKind.i64.wrap (k.snp.idx + (k.ents.length : Int)) = k.snp.idx + (k.ents.length : Int) := IntWalk.i64_in _ (by omega)
  have a2 : w.cell? ⟨g, 2, none⟩ = some (.int .i64 k.snp.idx) := HB.out.cell 2
  have a7 : w.cell? ⟨g, 7, none⟩ = some (.slice E k.ents.length n) := HB.out.cell 7
  go_enter Tryz.func87, Tryz.ntmps87
  go_wp2
  go_quiet (fail)
  go_wp2
  go_ret
  exact ⟨rfl, _, rfl⟩
/-- How a step of a fold ends: an error is thrown, or the fold's block holds what comes out. -/
def FoldEnd (w : World) (base g : Nat) (k : Kep) (r : Rcd) (A1 : Option Addr) (c1 : Nat) (B1 : Option Addr) (d1 : Nat) (A2 : Option Addr) (c2 : Nat) (B2 : Option Addr) (d2 : Nat) (e : Ending) (w' : World) : Prop :=
  ((∃ E : Nat, E ≠ 0 ∧ foldedP k r = (.zero, E) ∧ e = .panicked (thrownS E)) ∨
  (∃ k' A c B d E n, foldedP k r = (k', 0) ∧ e = .returned (.tuple #[]) ∧ Blk w' g 112 (foldCs k' r A c B d E n A1 c1 B1 d1 A2 c2 B2 d2) ∧ KepAt w' (Nw w' base [29, 3]) k' A B E)) ∧ Below base w w' ∧ Keeps [112, 29] w w'
theorem FoldEnd.bad {w w' : World} {base g : Nat} {k : Kep} {r : Rcd} {A1 : Option Addr} {c1 : Nat} {B1 : Option Addr} {d1 : Nat} {A2 : Option Addr} {c2 : Nat} {B2 : Option Addr} {d2 : Nat} {e : Ending} (E : Nat) (h0 : E ≠ 0) (h : foldedP k r = (.zero, E)) (he : e = .panicked (thrownS E)) (hb : Below base w w') (hk : Keeps [112, 29] w w') :
    FoldEnd w base g k r A1 c1 B1 d1 A2 c2 B2 d2 e w' := ⟨.inl ⟨E, h0, h, he⟩, hb, hk⟩
theorem FoldEnd.good {w w' : World} {base g : Nat} {k : Kep} {r : Rcd} {A1 : Option Addr} {c1 : Nat} {B1 : Option Addr} {d1 : Nat} {A2 : Option Addr} {c2 : Nat} {B2 : Option Addr} {d2 : Nat} {e : Ending} (k' : Kep) (A : Option Addr) (c : Nat) (B : Option Addr) (d : Nat) (E : Option Addr) (n : Nat) (h : foldedP k r = (k', 0)) (he : e = .returned (.tuple #[]))
    (hB : Blk w' g 112 (foldCs k' r A c B d E n A1 c1 B1 d1 A2 c2 B2 d2)) (hA : KepAt w' (Nw w' base [29, 3]) k' A B E) (hb : Below base w w') (hk : Keeps [112, 29] w w') :
    FoldEnd w base g k r A1 c1 B1 d1 A2 c2 B2 d2 e w' := ⟨.inr ⟨k', A, c, B, d, E, n, h, he, hB, hA⟩, hb, hk⟩
theorem FoldEnd.good1 {w w' : World} {base g : Nat} {k : Kep} {r : Rcd} {A1 : Option Addr} {c1 : Nat} {B1 : Option Addr} {d1 : Nat} {A2 : Option Addr} {c2 : Nat} {B2 : Option Addr} {d2 : Nat} {e : Ending} {A : Option Addr} {c : Nat} {B : Option Addr} {d : Nat} {E : Option Addr} {n : Nat} (t v : Int) (h : foldedP k r = ({ k with term := t, vote := v }, 0)) (he : e = .returned (.tuple #[]))
    (hA : KepOwn w base k A B E n) (hB : Blk w' g 112 (foldCs { k with term := t, vote := v } r A c B d E n A1 c1 B1 d1 A2 c2 B2 d2)) (hb : Below base w w') (hk : Keeps [112] w w') :
    FoldEnd w base g k r A1 c1 B1 d1 A2 c2 B2 d2 e w' :=
  FoldEnd.good _ A c B d E n h he hB (by have h := (hA.keeps hk (by decide) (by decide)).at_; exact ⟨h.v, h.l, h.e⟩) hb (hk.more (by simp))
theorem folded_vote_no {k : Kep} {r : Rcd} (h : r.kind = 1) (ht : r.term < k.term) : foldedP k r = (.zero, 140) := by unfold foldedP; rw [if_pos h, if_pos ht]
theorem folded_vote_ok {k : Kep} {r : Rcd} (h : r.kind = 1) (ht : ¬ r.term < k.term) : foldedP k r = ({ k with term := r.term, vote := r.vote }, 0) := by unfold foldedP; rw [if_pos h, if_neg ht]
theorem kv1 {w : World} {g i : Nat} {x y u : Value} (hi : i < 9) (h : w.cell? ⟨g, 9, none⟩ = some x ∧ w.cell? ⟨g, 10, none⟩ = some y) : (w.setCell ⟨g, i, none⟩ u).cell? ⟨g, 9, none⟩ = some x ∧ (w.setCell ⟨g, i, none⟩ u).cell? ⟨g, 10, none⟩ = some y := by
  refine ⟨?_, ?_⟩
  · rw [World.cell?_setCell_other _ _ _ _ (by first | (simp; done) | (simp; omega))]; exact h.1
  · rw [World.cell?_setCell_other _ _ _ _ (by first | (simp; done) | (simp; omega))]; exact h.2
theorem lt09 : 0 < 9 := by decide
theorem lt19 : 1 < 9 := by decide
set_option maxHeartbeats 3200000 in
theorem vote_any (k : Kep) (r : Rcd) (A : Option Addr) (c : Nat) (B : Option Addr) (d : Nat) (E : Option Addr) (n : Nat) (A1 : Option Addr) (c1 : Nat) (B1 : Option Addr) (d1 : Nat) (A2 : Option Addr) (c2 : Nat) (B2 : Option Addr) (d2 : Nat) (base g : Nat) (w : World) (hB : Blk w g 112 (foldCs k r A c B d E n A1 c1 B1 d1 A2 c2 B2 d2)) (hK : KepOwn w base k A B E n) (hbg : base ≤ g) (h1 : r.kind = 1) :
    Calls Tryz.prog 51 #[.pointer (some ⟨g, 0, none⟩)] w (FoldEnd w base g k r A1 c1 B1 d1 A2 c2 B2 d2) := by
  unfold foldCs at hB
  have HB := Lib.hid hB
  have HK := Lib.hid hK
  have H1 := Lib.hid h1
  clear hB hK h1
  have a0 : w.cell? ⟨g, 0, none⟩ = some (.int .i64 k.term) := HB.out.cell 0
  have a1 : w.cell? ⟨g, 1, none⟩ = some (.int .i64 k.vote) := HB.out.cell 1
  have a9 : w.cell? ⟨g, 9, none⟩ = some (.int .i64 r.term) := HB.out.cell 9
  have a10 : w.cell? ⟨g, 10, none⟩ = some (.int .i64 r.vote) := HB.out.cell 10
  have p0 : w.frozen? ⟨g, 0, none⟩ = false := HB.out.frozen 0
  have p1 : w.frozen? ⟨g, 1, none⟩ = false := HB.out.frozen 1
  by_cases ht : r.term < k.term
  · have HF := Lib.hid (folded_vote_no H1.out ht)
    have t : decide (k.term ≤ r.term) = false := decide_eq_false (by omega)
    go_enter Tryz.func51, Tryz.ntmps51
    go_wp2_with fail
    go_still_tail 11, (by kernel_rfl)
    go_wp2_with fail
    refine (is_no 140 _).mono ?_
    rintro e w1 ⟨rfl, rfl⟩
    exact ⟨rfl, FoldEnd.bad 140 (by decide) HF.out rfl (Below.refl _ _).drew (Keeps.drew _)⟩
  · have HF := Lib.hid (folded_vote_ok H1.out ht)
    go_enter Tryz.func51, Tryz.ntmps51
    go_wp2_with fail
    go_still_tail 11, (by kernel_rfl)
    go_wp2_with fail
    refine (is_ok 140 _).mono ?_
    rintro e w1 ⟨rfl, rfl⟩
    go_wp2
    go_region_held3 (fun w' => w'.cell? ⟨g, 9, none⟩ = some (.int .i64 r.term) ∧ w'.cell? ⟨g, 10, none⟩ = some (.int .i64 r.vote)) (first
      | exact ⟨a9, a10⟩
      | exact kv1 lt09 ⟨a9, a10⟩
      | exact kv1 lt19 ⟨a9, a10⟩
      | exact kv1 lt19 (kv1 lt09 ⟨a9, a10⟩)
      | exact kv1 lt09 (kv1 lt19 ⟨a9, a10⟩)) (fail)
    all_goals
      go_wp2
      go_end0
      refine FoldEnd.good1 (A := A) (c := c) (B := B) (d := d) (E := E) (n := n) r.term r.vote HF.out rfl HK.out ?_ ?_ ?_
      · have := HB.out.set_ 0 (.int .i64 r.term) |>.set_ 1 (.int .i64 r.vote)
        have h2 := HB.out.set_ 1 (.int .i64 r.vote) |>.set_ 0 (.int .i64 r.term)
        unfold foldCs
        first
          | exact Blk.drew (Blk.drew (by simpa using this))
          | exact Blk.drew (Blk.drew (by simpa using h2))
      · exact Below.drew (Below.drew (by repeat (first | exact Below.refl _ _ | refine Below.setCell ?_ (by dsimp only; omega) _)))
      · exact Keeps.trans (Keeps.trans (by repeat (first | with_reducible exact Keeps.refl _ _ | (with_reducible refine Keeps.step1 ?_ (by repeat (first | with_reducible exact Blk.typ HB.out | with_reducible refine TypeAt.setCell ?_ _ _))))) (Keeps.drew _)) (Keeps.drew _)
end Go.Proofs.YtkdmfjpfanmgmaaGreatDoor
namespace Go.Proofs.YtkdmfjpfanmgmaaGreatDoor
open Go.RowKit Le
set_option maxRecDepth 100000
set_option linter.unusedSimpArgs false
set_option linter.unusedVariables false
theorem folded_cut_no {k : Kep} {r : Rcd} (h : r.kind = 3) (ht : r.at_ ≤ k.snp.idx ∨ k.last < r.at_) : foldedP k r = (.zero, 140) := by
  unfold foldedP; rw [if_neg (by omega), if_neg (by omega), if_pos h, if_pos ht]
theorem folded_cut_ok {k : Kep} {r : Rcd} (h : r.kind = 3) (ht : ¬ (r.at_ ≤ k.snp.idx ∨ k.last < r.at_)) : foldedP k r = ({ k with ents := k.ents.take (r.at_ - k.snp.idx - 1).toNat }, 0) := by
  unfold foldedP; rw [if_neg (by omega), if_neg (by omega), if_pos h, if_neg ht]
theorem RowsAt.take {w : World} {S : Nat → Prop} {l : List Sh} {ds : List (List Da)} {A : Option Addr} (h : RowsAt w S l ds A) (q : Nat) : RowsAt w S l (ds.take q) A := fun hn => by
  obtain ⟨ad, e, hS, h⟩ := h (by rw [List.length_take] at hn; omega)
  refine ⟨ad, e, hS, fun j d hj => ?_⟩
  rw [List.getElem?_take] at hj
  split at hj
  · exact h j d hj
  · cases hj
set_option maxHeartbeats 3200000 in
theorem cut_any (k : Kep) (r : Rcd) (A : Option Addr) (c : Nat) (B : Option Addr) (d : Nat) (E : Option Addr) (n : Nat) (A1 : Option Addr) (c1 : Nat) (B1 : Option Addr) (d1 : Nat) (A2 : Option Addr) (c2 : Nat) (B2 : Option Addr) (d2 : Nat) (base g : Nat) (w : World) (hB : Blk w g 112 (foldCs k r A c B d E n A1 c1 B1 d1 A2 c2 B2 d2)) (hK : KepOwn w base k A B E n) (hbg : base ≤ g) (h1 : r.kind = 3) (hk : OkK k) (hat : okN r.at_) :
    Calls Tryz.prog 53 #[.pointer (some ⟨g, 0, none⟩)] w (FoldEnd w base g k r A1 c1 B1 d1 A2 c2 B2 d2) := by
  have HB := Lib.hid hB
  have HO := Lib.hid hk
  have HK := Lib.hid hK
  have H1 := Lib.hid h1
  have q1 := okN_i hk.idx
  have q2 := hk.len
  have q3 := hB.lt
  have q4 := okN_i hat
  clear hB hK h1 hk hat
  by_cases ht : k.snp.idx < r.at_
  · have t1 : decide (k.snp.idx < r.at_) = true := decide_eq_true ht
    by_cases ht2 : r.at_ ≤ k.snp.idx + (k.ents.length : Int)
    · have t2 : decide (r.at_ ≤ k.snp.idx + (k.ents.length : Int)) = true := decide_eq_true ht2
      have HF := Lib.hid (folded_cut_ok (k := k) H1.out (by unfold Kep.last; omega))
      obtain ⟨q, hq⟩ : ∃ q : Nat, r.at_ - k.snp.idx - 1 = (q : Int) := ⟨(r.at_ - k.snp.idx - 1).toNat, by omega⟩
      have hq2 : q < k.ents.length := by omega
      rw [hq, Int.toNat_natCast] at HF
      obtain ⟨xs, ho, hth⟩ := HK.out.e
      have hcap := own_cap ho
      obtain ⟨ge, cap, hv, _, hlt⟩ := ho.form (by omega)
      have hE : E = some ⟨ge, 0, none⟩ := by injection hv
      subst hE
      clear ho hth hv
      have HQ := Lib.hid hq
      have HTL : Hid ((k.ents.take q).length = q) := Lib.hid (by rw [List.length_take]; omega)
      go_enter Tryz.func53, Tryz.ntmps53
      go_wp2_with fail
      refine wp_region_held_drew (S := fun w' => w'.cell? ⟨g, 2, none⟩ = some (.int .i64 k.snp.idx) ∧ w'.cell? ⟨g, 7, none⟩ = some (.slice (some ⟨ge, 0, none⟩) k.ents.length n) ∧ w'.cell? ⟨g, 17, none⟩ = some (.int .i64 r.at_)) (by kernel_rfl) ⟨HB.out.cell 2, HB.out.cell 7, HB.out.cell 17⟩ (fun HD => ?_)
      refine wpAnyH_take (i := 0) (oi := ⟨some 2, _, _, _, _, _⟩) (v := ?_) rfl (by kernel_rfl) (by kernel_rfl) (by kernel_rfl) (fun _ _ _ h => h) (Or.inl ⟨by rfl, ?_⟩) HD ?_
      rotate_left
      · intro w hSw
        (try dsimp only at hSw)
        go_simp <;> with_reducible rfl
      (try simp only [Act.put, List.setIfInBounds_toArray, List.set_cons_zero, List.set_cons_succ])
      refine wpAnyH_take (i := 1) (oi := ⟨some 3, _, _, _, _, _⟩) (v := ?_) rfl (by kernel_rfl) (by kernel_rfl) (by kernel_rfl) (fun _ _ _ h => h) (Or.inl ⟨by rfl, ?_⟩) HD ?_
      rotate_left
      · intro w hSw
        (try dsimp only at hSw)
        go_simp <;> with_reducible rfl
      (try simp only [Act.put, List.setIfInBounds_toArray, List.set_cons_zero, List.set_cons_succ])
      refine wpAnyH_take (i := 2) (oi := ⟨some 4, _, _, _, _, _⟩) (v := ?_) rfl (by kernel_rfl) (by kernel_rfl) (by kernel_rfl) (fun _ _ _ h => h) (Or.inl ⟨by rfl, ?_⟩) HD ?_
      rotate_left
      · intro w hSw
        (try dsimp only at hSw)
        go_simp <;> with_reducible rfl
      (try simp only [Act.put, List.setIfInBounds_toArray, List.set_cons_zero, List.set_cons_succ])
      refine wpAnyH_take (i := 3) (oi := ⟨some 5, _, _, _, _, _⟩) (v := ?_) rfl (by kernel_rfl) (by kernel_rfl) (by kernel_rfl) (fun _ _ _ h => h) (Or.inl ⟨by rfl, ?_⟩) HD ?_
      rotate_left
      · intro w hSw
        (try dsimp only at hSw)
        go_simp <;> with_reducible rfl
      (try simp only [Act.put, List.setIfInBounds_toArray, List.set_cons_zero, List.set_cons_succ])
      refine wpAnyH_take (i := 4) (oi := ⟨some 6, _, _, _, _, _⟩) (v := ?_) rfl (by kernel_rfl) (by kernel_rfl) (by kernel_rfl) (fun _ _ _ h => h) (Or.inl ⟨by rfl, ?_⟩) HD ?_
      rotate_left
      · intro w hSw
        (try dsimp only at hSw)
        go_simp <;> with_reducible rfl
      (try simp only [Act.put, List.setIfInBounds_toArray, List.set_cons_zero, List.set_cons_succ])
      refine wpAnyH_take (i := 5) (oi := ⟨some 7, _, _, _, _, _⟩) (v := ?_) rfl (by kernel_rfl) (by kernel_rfl) (by kernel_rfl) (fun _ _ _ h => h) (Or.inl ⟨by rfl, ?_⟩) HD ?_
      rotate_left
      · intro w hSw
        (try dsimp only at hSw)
        go_simp <;> with_reducible rfl
      (try simp only [Act.put, List.setIfInBounds_toArray, List.set_cons_zero, List.set_cons_succ])
      refine wpAnyH_take (i := 6) (oi := ⟨some 8, _, _, _, _, _⟩) (v := ?_) rfl (by kernel_rfl) (by kernel_rfl) (by kernel_rfl) (fun _ _ _ h => h) (Or.inl ⟨by rfl, ?_⟩) HD ?_
      rotate_left
      · intro w hSw
        (try dsimp only at hSw)
        go_simp <;> with_reducible rfl
      (try simp only [Act.put, List.setIfInBounds_toArray, List.set_cons_zero, List.set_cons_succ])
      refine wpAnyH_take (i := 7) (oi := ⟨some 9, _, _, _, _, _⟩) (v := ?_) rfl (by kernel_rfl) (by kernel_rfl) (by kernel_rfl) (fun _ _ _ h => h) (Or.inl ⟨by rfl, ?_⟩) HD ?_
      rotate_left
      · intro w hSw
        (try dsimp only at hSw)
        go_simp <;> with_reducible rfl
      (try simp only [Act.put, List.setIfInBounds_toArray, List.set_cons_zero, List.set_cons_succ])
      refine wpAnyH_take (i := 8) (oi := ⟨some 10, _, _, _, _, _⟩) (v := ?_) rfl (by kernel_rfl) (by kernel_rfl) (by kernel_rfl) (fun _ _ _ h => h) (Or.inl ⟨by rfl, ?_⟩) HD ?_
      rotate_left
      · intro w hSw
        (try dsimp only at hSw)
        go_simp <;> with_reducible rfl
      (try simp only [Act.put, List.setIfInBounds_toArray, List.set_cons_zero, List.set_cons_succ])
      refine wpAnyH_take (i := 9) (oi := ⟨some 11, _, _, _, _, _⟩) (v := ?_) rfl (by kernel_rfl) (by kernel_rfl) (by kernel_rfl) (fun _ _ _ h => h) (Or.inl ⟨by rfl, ?_⟩) HD ?_
      rotate_left
      · intro w hSw
        (try dsimp only at hSw)
        go_simp <;> with_reducible rfl
      (try simp only [Act.put, List.setIfInBounds_toArray, List.set_cons_zero, List.set_cons_succ])
      refine wpAnyH_take (i := 10) (oi := ⟨some 12, _, _, _, _, _⟩) (v := ?_) rfl (by kernel_rfl) (by kernel_rfl) (by kernel_rfl) (fun _ _ _ h => h) (Or.inl ⟨by rfl, ?_⟩) HD ?_
      rotate_left
      · intro w hSw
        (try dsimp only at hSw)
        go_simp <;> with_reducible rfl
      (try simp only [Act.put, List.setIfInBounds_toArray, List.set_cons_zero, List.set_cons_succ])
      refine wpAnyH_take (i := 11) (oi := ⟨some 13, _, _, _, _, _⟩) (v := ?_) rfl (by kernel_rfl) (by kernel_rfl) (by kernel_rfl) (fun _ _ _ h => h) (Or.inl ⟨by rfl, ?_⟩) HD ?_
      rotate_left
      · intro w hSw
        (try dsimp only at hSw)
        go_simp <;> with_reducible rfl
      (try simp only [Act.put, List.setIfInBounds_toArray, List.set_cons_zero, List.set_cons_succ])
      refine wpAnyH_take (i := 12) (oi := ⟨some 14, _, _, _, _, _⟩) (v := ?_) rfl (by kernel_rfl) (by kernel_rfl) (by kernel_rfl) (fun _ _ _ h => h) (Or.inl ⟨by rfl, ?_⟩) HD ?_
      rotate_left
      · intro w hSw
        (try dsimp only at hSw)
        go_simp <;> with_reducible rfl
      (try simp only [Act.put, List.setIfInBounds_toArray, List.set_cons_zero, List.set_cons_succ])
      refine wpAnyH_take (i := 13) (oi := ⟨some 15, _, _, _, _, _⟩) (v := ?_) rfl (by kernel_rfl) (by kernel_rfl) (by kernel_rfl) (fun _ _ _ h => h) (Or.inl ⟨by rfl, ?_⟩) HD ?_
      rotate_left
      · intro w hSw
        (try dsimp only at hSw)
        go_simp <;> with_reducible rfl
      (try simp only [Act.put, List.setIfInBounds_toArray, List.set_cons_zero, List.set_cons_succ])
      refine wpAnyH_take (i := 14) (oi := ⟨some 16, _, _, _, _, _⟩) (v := ?_) rfl (by kernel_rfl) (by kernel_rfl) (by kernel_rfl) (fun _ _ _ h => h) (Or.inl ⟨by rfl, ?_⟩) HD ?_
      rotate_left
      · intro w hSw
        (try dsimp only at hSw)
        go_simp <;> with_reducible rfl
      (try simp only [Act.put, List.setIfInBounds_toArray, List.set_cons_zero, List.set_cons_succ])
      refine wpAnyH_take (i := 15) (oi := ⟨some 17, _, _, _, _, _⟩) (v := ?_) rfl (by kernel_rfl) (by kernel_rfl) (by kernel_rfl) (fun _ _ _ h => h) (Or.inl ⟨by rfl, ?_⟩) HD ?_
      rotate_left
      · intro w hSw
        (try dsimp only at hSw)
        go_simp <;> with_reducible rfl
      (try simp only [Act.put, List.setIfInBounds_toArray, List.set_cons_zero, List.set_cons_succ])
      refine wpAnyH_take (i := 16) (oi := ⟨some 18, _, _, _, _, _⟩) (v := ?_) rfl (by kernel_rfl) (by kernel_rfl) (by kernel_rfl) (fun _ _ _ h => h) (Or.inl ⟨by rfl, ?_⟩) HD ?_
      rotate_left
      · intro w hSw
        (try dsimp only at hSw)
        go_simp <;> with_reducible rfl
      (try simp only [Act.put, List.setIfInBounds_toArray, List.set_cons_zero, List.set_cons_succ])
      refine wpAnyH_take (i := 17) (oi := ⟨some 19, _, _, _, _, _⟩) (v := ?_) rfl (by kernel_rfl) (by kernel_rfl) (by kernel_rfl) (fun _ _ _ h => h) (Or.inl ⟨by rfl, ?_⟩) HD ?_
      rotate_left
      · intro w hSw
        (try dsimp only at hSw)
        go_simp <;> with_reducible rfl
      (try simp only [Act.put, List.setIfInBounds_toArray, List.set_cons_zero, List.set_cons_succ])
      refine wpAnyH_take (i := 18) (oi := ⟨some 20, _, _, _, _, _⟩) (v := ?_) rfl (by kernel_rfl) (by kernel_rfl) (by kernel_rfl) (fun _ _ _ h => h) (Or.inl ⟨by rfl, ?_⟩) HD ?_
      rotate_left
      · intro w hSw
        (try dsimp only at hSw)
        go_simp <;> with_reducible rfl
      (try simp only [Act.put, List.setIfInBounds_toArray, List.set_cons_zero, List.set_cons_succ])
      refine wpAnyH_ready (rs := [19]) (by kernel_rfl) (by simp) ?_
      refine AllReadyH.cons (o := ⟨some 21, _, _, _, _, _⟩) rfl (fun K hK => ?_) AllReadyH.nil
      go_simp
      go_at_call 87
      refine (last_any k r A c B d (some ⟨ge, 0, none⟩) n A1 c1 B1 d1 A2 c2 B2 d2 g _ (by exact HB.out) HO.out).mono ?_
      rintro e w1 ⟨rfl, m, rfl⟩
      dsimp only
      refine hK.out _ _ HD (fun HD => ?_)
      clear hK K
      (try simp only [Act.put, List.setIfInBounds_toArray, List.set_cons_zero, List.set_cons_succ])
      refine wpAnyH_take (i := 20) (oi := ⟨some 22, _, _, _, _, _⟩) (v := ?_) rfl (by kernel_rfl) (by kernel_rfl) (by kernel_rfl) (fun _ _ _ h => h) (Or.inl ⟨by rfl, ?_⟩) HD ?_
      rotate_left
      · intro w hSw
        (try dsimp only at hSw)
        go_simp <;> with_reducible rfl
      (try simp only [Act.put, List.setIfInBounds_toArray, List.set_cons_zero, List.set_cons_succ])
      refine wpAnyH_take (i := 21) (oi := ⟨some 23, _, _, _, _, _⟩) (v := ?_) rfl (by kernel_rfl) (by kernel_rfl) (by kernel_rfl) (fun _ _ _ h => h) (Or.inl ⟨by rfl, ?_⟩) HD ?_
      rotate_left
      · intro w hSw
        (try dsimp only at hSw)
        go_simp <;> with_reducible rfl
      (try simp only [Act.put, List.setIfInBounds_toArray, List.set_cons_zero, List.set_cons_succ])
      refine wpAnyH_ready (rs := [22]) (by kernel_rfl) (by simp) ?_
      refine AllReadyH.cons (o := ⟨some 24, _, _, _, _, _⟩) rfl (fun K hK => ?_) AllReadyH.nil
      go_simp
      go_at_call 49
      refine (is_ok 140 _).mono ?_
      rintro e w1 ⟨rfl, rfl⟩
      dsimp only
      refine hK.out _ _ HD (fun HD => ?_)
      clear hK K
      (try simp only [Act.put, List.setIfInBounds_toArray, List.set_cons_zero, List.set_cons_succ])
      refine wpAnyH_done (by kernel_rfl) ?_ _
      clear t1 t2 HD
      have HBw : Hid (Below base w (w.drewN (1 + m))) := Lib.hid ((below_drewN w (1 + m)).mono (by omega))
      have HKw : Hid (Keeps [112, 29] w (w.drewN (1 + m))) := Lib.hid ⟨Nat.le_refl _, fun _ _ _ _ => rfl⟩
      have HK2 : Hid (KepAt (w.drewN (1 + m)) (Nw (w.drewN (1 + m)) base [29, 3]) k A B (some ⟨ge, 0, none⟩)) := Lib.hid (HK.out.keeps (ts := []) (w' := w.drewN (1 + m)) ⟨Nat.le_refl _, fun _ _ _ _ => rfl⟩ (by simp) (by simp)).at_
      have HB2 : Hid (Blk (w.drewN (1 + m)) g 112 [.int .i64 k.term, .int .i64 k.vote, .int .i64 k.snp.idx, .int .i64 k.snp.term, .slice A k.snp.v.length c, .slice B k.snp.l.length d, .string (text k.snp.b), .slice (some ⟨ge, 0, none⟩) k.ents.length n, .int .i64 r.kind, .int .i64 r.term, .int .i64 r.vote, .int .i64 r.ent.idx, .int .i64 r.ent.term, .int .i64 r.ent.kind, .slice A1 r.ent.v.length c1, .slice B1 r.ent.l.length d1, .string (text r.ent.b), .int .i64 r.at_, .int .i64 r.snp.idx, .int .i64 r.snp.term, .slice A2 r.snp.v.length c2, .slice B2 r.snp.l.length d2, .string (text r.snp.b)]) := Lib.hid HB.out
      clear HB HK
      generalize w.drewN (1 + m) = W at *
      have s1 : IntKind.i64.wrap (r.at_ - k.snp.idx) = r.at_ - k.snp.idx := IntWalk.i64_in _ (by omega)
      have s2 : IntKind.i64.wrap (r.at_ - k.snp.idx - 1) = (q : Int) := by rw [HQ.out]; exact IntWalk.i64_in _ (by omega)
      have b2 : W.cell? ⟨g, 2, none⟩ = some (.int .i64 k.snp.idx) := HB2.out.cell 2
      have b7 : W.cell? ⟨g, 7, none⟩ = some (.slice (some ⟨ge, 0, none⟩) k.ents.length n) := HB2.out.cell 7
      have b17 : W.cell? ⟨g, 17, none⟩ = some (.int .i64 r.at_) := HB2.out.cell 17
      have p7 : W.frozen? ⟨g, 7, none⟩ = false := HB2.out.frozen 7
      have u1 : (0 : Int) ≤ (q : Int) := Int.natCast_nonneg _
      have u2 : (q : Int) ≤ (n : Int) := by omega
      clear hq ht ht2
      go_wp2_with fail
      go_still_tail 23, (by kernel_rfl)
      clear s1 s2
      go_wp2
      go_end0
      have KF : Keeps [112] W (W.setCell ⟨g, 7, none⟩ (.slice (some ⟨ge, 0, none⟩) q n)).drew := (Keeps.set_ HB2.out.typ (by simp) _).trans (Keeps.drew _)
      refine FoldEnd.good { k with ents := k.ents.take q } A c B d (some ⟨ge, 0, none⟩) n HF.out rfl ?_ ⟨?_, ?_, ?_⟩ ?_ (HKw.out.trans (KF.more (by simp)))
      · have := (HB2.out.set_ 7 (.slice (some ⟨ge, 0, none⟩) q n)).drew
        unfold foldCs
        simp only [HTL.out]
        simpa using this
      · exact HK2.out.v.nw_keeps KF (by decide)
      · exact HK2.out.l.nw_keeps KF (by decide)
      · have h := (HK2.out.e.take q).nw_keeps KF (by decide)
        rwa [← List.map_take] at h
      · exact (HBw.out.setCell hbg _).drew
    · have t2 : decide (r.at_ ≤ k.snp.idx + (k.ents.length : Int)) = false := decide_eq_false ht2
      have HF := Lib.hid (folded_cut_no (k := k) H1.out (by unfold Kep.last; omega))
      go_enter Tryz.func53, Tryz.ntmps53
      go_wp2_with fail
      refine wp_region_held_drew (S := fun w' => w'.cell? ⟨g, 2, none⟩ = some (.int .i64 k.snp.idx) ∧ w'.cell? ⟨g, 7, none⟩ = some (.slice E k.ents.length n) ∧ w'.cell? ⟨g, 17, none⟩ = some (.int .i64 r.at_)) (by kernel_rfl) ⟨HB.out.cell 2, HB.out.cell 7, HB.out.cell 17⟩ (fun HD => ?_)
      refine wpAnyH_take (i := 0) (oi := ⟨some 2, _, _, _, _, _⟩) (v := ?_) rfl (by kernel_rfl) (by kernel_rfl) (by kernel_rfl) (fun _ _ _ h => h) (Or.inl ⟨by rfl, ?_⟩) HD ?_
      rotate_left
      · intro w hSw
        (try dsimp only at hSw)
        go_simp <;> with_reducible rfl
      (try simp only [Act.put, List.setIfInBounds_toArray, List.set_cons_zero, List.set_cons_succ])
      refine wpAnyH_take (i := 1) (oi := ⟨some 3, _, _, _, _, _⟩) (v := ?_) rfl (by kernel_rfl) (by kernel_rfl) (by kernel_rfl) (fun _ _ _ h => h) (Or.inl ⟨by rfl, ?_⟩) HD ?_
      rotate_left
      · intro w hSw
        (try dsimp only at hSw)
        go_simp <;> with_reducible rfl
      (try simp only [Act.put, List.setIfInBounds_toArray, List.set_cons_zero, List.set_cons_succ])
      refine wpAnyH_take (i := 2) (oi := ⟨some 4, _, _, _, _, _⟩) (v := ?_) rfl (by kernel_rfl) (by kernel_rfl) (by kernel_rfl) (fun _ _ _ h => h) (Or.inl ⟨by rfl, ?_⟩) HD ?_
      rotate_left
      · intro w hSw
        (try dsimp only at hSw)
        go_simp <;> with_reducible rfl
      (try simp only [Act.put, List.setIfInBounds_toArray, List.set_cons_zero, List.set_cons_succ])
      refine wpAnyH_take (i := 3) (oi := ⟨some 5, _, _, _, _, _⟩) (v := ?_) rfl (by kernel_rfl) (by kernel_rfl) (by kernel_rfl) (fun _ _ _ h => h) (Or.inl ⟨by rfl, ?_⟩) HD ?_
      rotate_left
      · intro w hSw
        (try dsimp only at hSw)
        go_simp <;> with_reducible rfl
      (try simp only [Act.put, List.setIfInBounds_toArray, List.set_cons_zero, List.set_cons_succ])
      refine wpAnyH_take (i := 4) (oi := ⟨some 6, _, _, _, _, _⟩) (v := ?_) rfl (by kernel_rfl) (by kernel_rfl) (by kernel_rfl) (fun _ _ _ h => h) (Or.inl ⟨by rfl, ?_⟩) HD ?_
      rotate_left
      · intro w hSw
        (try dsimp only at hSw)
        go_simp <;> with_reducible rfl
      (try simp only [Act.put, List.setIfInBounds_toArray, List.set_cons_zero, List.set_cons_succ])
      refine wpAnyH_take (i := 5) (oi := ⟨some 7, _, _, _, _, _⟩) (v := ?_) rfl (by kernel_rfl) (by kernel_rfl) (by kernel_rfl) (fun _ _ _ h => h) (Or.inl ⟨by rfl, ?_⟩) HD ?_
      rotate_left
      · intro w hSw
        (try dsimp only at hSw)
        go_simp <;> with_reducible rfl
      (try simp only [Act.put, List.setIfInBounds_toArray, List.set_cons_zero, List.set_cons_succ])
      refine wpAnyH_take (i := 6) (oi := ⟨some 8, _, _, _, _, _⟩) (v := ?_) rfl (by kernel_rfl) (by kernel_rfl) (by kernel_rfl) (fun _ _ _ h => h) (Or.inl ⟨by rfl, ?_⟩) HD ?_
      rotate_left
      · intro w hSw
        (try dsimp only at hSw)
        go_simp <;> with_reducible rfl
      (try simp only [Act.put, List.setIfInBounds_toArray, List.set_cons_zero, List.set_cons_succ])
      refine wpAnyH_take (i := 7) (oi := ⟨some 9, _, _, _, _, _⟩) (v := ?_) rfl (by kernel_rfl) (by kernel_rfl) (by kernel_rfl) (fun _ _ _ h => h) (Or.inl ⟨by rfl, ?_⟩) HD ?_
      rotate_left
      · intro w hSw
        (try dsimp only at hSw)
        go_simp <;> with_reducible rfl
      (try simp only [Act.put, List.setIfInBounds_toArray, List.set_cons_zero, List.set_cons_succ])
      refine wpAnyH_take (i := 8) (oi := ⟨some 10, _, _, _, _, _⟩) (v := ?_) rfl (by kernel_rfl) (by kernel_rfl) (by kernel_rfl) (fun _ _ _ h => h) (Or.inl ⟨by rfl, ?_⟩) HD ?_
      rotate_left
      · intro w hSw
        (try dsimp only at hSw)
        go_simp <;> with_reducible rfl
      (try simp only [Act.put, List.setIfInBounds_toArray, List.set_cons_zero, List.set_cons_succ])
      refine wpAnyH_take (i := 9) (oi := ⟨some 11, _, _, _, _, _⟩) (v := ?_) rfl (by kernel_rfl) (by kernel_rfl) (by kernel_rfl) (fun _ _ _ h => h) (Or.inl ⟨by rfl, ?_⟩) HD ?_
      rotate_left
      · intro w hSw
        (try dsimp only at hSw)
        go_simp <;> with_reducible rfl
      (try simp only [Act.put, List.setIfInBounds_toArray, List.set_cons_zero, List.set_cons_succ])
      refine wpAnyH_take (i := 10) (oi := ⟨some 12, _, _, _, _, _⟩) (v := ?_) rfl (by kernel_rfl) (by kernel_rfl) (by kernel_rfl) (fun _ _ _ h => h) (Or.inl ⟨by rfl, ?_⟩) HD ?_
      rotate_left
      · intro w hSw
        (try dsimp only at hSw)
        go_simp <;> with_reducible rfl
      (try simp only [Act.put, List.setIfInBounds_toArray, List.set_cons_zero, List.set_cons_succ])
      refine wpAnyH_take (i := 11) (oi := ⟨some 13, _, _, _, _, _⟩) (v := ?_) rfl (by kernel_rfl) (by kernel_rfl) (by kernel_rfl) (fun _ _ _ h => h) (Or.inl ⟨by rfl, ?_⟩) HD ?_
      rotate_left
      · intro w hSw
        (try dsimp only at hSw)
        go_simp <;> with_reducible rfl
      (try simp only [Act.put, List.setIfInBounds_toArray, List.set_cons_zero, List.set_cons_succ])
      refine wpAnyH_take (i := 12) (oi := ⟨some 14, _, _, _, _, _⟩) (v := ?_) rfl (by kernel_rfl) (by kernel_rfl) (by kernel_rfl) (fun _ _ _ h => h) (Or.inl ⟨by rfl, ?_⟩) HD ?_
      rotate_left
      · intro w hSw
        (try dsimp only at hSw)
        go_simp <;> with_reducible rfl
      (try simp only [Act.put, List.setIfInBounds_toArray, List.set_cons_zero, List.set_cons_succ])
      refine wpAnyH_take (i := 13) (oi := ⟨some 15, _, _, _, _, _⟩) (v := ?_) rfl (by kernel_rfl) (by kernel_rfl) (by kernel_rfl) (fun _ _ _ h => h) (Or.inl ⟨by rfl, ?_⟩) HD ?_
      rotate_left
      · intro w hSw
        (try dsimp only at hSw)
        go_simp <;> with_reducible rfl
      (try simp only [Act.put, List.setIfInBounds_toArray, List.set_cons_zero, List.set_cons_succ])
      refine wpAnyH_take (i := 14) (oi := ⟨some 16, _, _, _, _, _⟩) (v := ?_) rfl (by kernel_rfl) (by kernel_rfl) (by kernel_rfl) (fun _ _ _ h => h) (Or.inl ⟨by rfl, ?_⟩) HD ?_
      rotate_left
      · intro w hSw
        (try dsimp only at hSw)
        go_simp <;> with_reducible rfl
      (try simp only [Act.put, List.setIfInBounds_toArray, List.set_cons_zero, List.set_cons_succ])
      refine wpAnyH_take (i := 15) (oi := ⟨some 17, _, _, _, _, _⟩) (v := ?_) rfl (by kernel_rfl) (by kernel_rfl) (by kernel_rfl) (fun _ _ _ h => h) (Or.inl ⟨by rfl, ?_⟩) HD ?_
      rotate_left
      · intro w hSw
        (try dsimp only at hSw)
        go_simp <;> with_reducible rfl
      (try simp only [Act.put, List.setIfInBounds_toArray, List.set_cons_zero, List.set_cons_succ])
      refine wpAnyH_take (i := 16) (oi := ⟨some 18, _, _, _, _, _⟩) (v := ?_) rfl (by kernel_rfl) (by kernel_rfl) (by kernel_rfl) (fun _ _ _ h => h) (Or.inl ⟨by rfl, ?_⟩) HD ?_
      rotate_left
      · intro w hSw
        (try dsimp only at hSw)
        go_simp <;> with_reducible rfl
      (try simp only [Act.put, List.setIfInBounds_toArray, List.set_cons_zero, List.set_cons_succ])
      refine wpAnyH_take (i := 17) (oi := ⟨some 19, _, _, _, _, _⟩) (v := ?_) rfl (by kernel_rfl) (by kernel_rfl) (by kernel_rfl) (fun _ _ _ h => h) (Or.inl ⟨by rfl, ?_⟩) HD ?_
      rotate_left
      · intro w hSw
        (try dsimp only at hSw)
        go_simp <;> with_reducible rfl
      (try simp only [Act.put, List.setIfInBounds_toArray, List.set_cons_zero, List.set_cons_succ])
      refine wpAnyH_take (i := 18) (oi := ⟨some 20, _, _, _, _, _⟩) (v := ?_) rfl (by kernel_rfl) (by kernel_rfl) (by kernel_rfl) (fun _ _ _ h => h) (Or.inl ⟨by rfl, ?_⟩) HD ?_
      rotate_left
      · intro w hSw
        (try dsimp only at hSw)
        go_simp <;> with_reducible rfl
      (try simp only [Act.put, List.setIfInBounds_toArray, List.set_cons_zero, List.set_cons_succ])
      refine wpAnyH_ready (rs := [19]) (by kernel_rfl) (by simp) ?_
      refine AllReadyH.cons (o := ⟨some 21, _, _, _, _, _⟩) rfl (fun K hK => ?_) AllReadyH.nil
      go_simp
      go_at_call 87
      refine (last_any k r A c B d E n A1 c1 B1 d1 A2 c2 B2 d2 g _ (by exact HB.out) HO.out).mono ?_
      rintro e w1 ⟨rfl, m, rfl⟩
      dsimp only
      refine hK.out _ _ HD (fun HD => ?_)
      clear hK K
      (try simp only [Act.put, List.setIfInBounds_toArray, List.set_cons_zero, List.set_cons_succ])
      refine wpAnyH_take (i := 20) (oi := ⟨some 22, _, _, _, _, _⟩) (v := ?_) rfl (by kernel_rfl) (by kernel_rfl) (by kernel_rfl) (fun _ _ _ h => h) (Or.inl ⟨by rfl, ?_⟩) HD ?_
      rotate_left
      · intro w hSw
        (try dsimp only at hSw)
        go_simp <;> with_reducible rfl
      (try simp only [Act.put, List.setIfInBounds_toArray, List.set_cons_zero, List.set_cons_succ])
      refine wpAnyH_take (i := 21) (oi := ⟨some 23, _, _, _, _, _⟩) (v := ?_) rfl (by kernel_rfl) (by kernel_rfl) (by kernel_rfl) (fun _ _ _ h => h) (Or.inl ⟨by rfl, ?_⟩) HD ?_
      rotate_left
      · intro w hSw
        (try dsimp only at hSw)
        go_simp <;> with_reducible rfl
      (try simp only [Act.put, List.setIfInBounds_toArray, List.set_cons_zero, List.set_cons_succ])
      refine wpAnyH_ready (rs := [22]) (by kernel_rfl) (by simp) ?_
      refine AllReadyH.cons (o := ⟨some 24, _, _, _, _, _⟩) rfl (fun K hK => ?_) AllReadyH.nil
      go_simp
      go_at_call 49
      refine (is_no 140 _).mono ?_
      rintro e w1 ⟨rfl, rfl⟩
      exact ⟨rfl, FoldEnd.bad 140 (by decide) HF.out rfl ((below_drewN w (1 + m)).mono (by omega)) ⟨Nat.le_refl _, fun _ _ _ _ => rfl⟩⟩
  · have t1 : decide (k.snp.idx < r.at_) = false := decide_eq_false ht
    have HF := Lib.hid (folded_cut_no (k := k) H1.out (by omega))
    go_enter Tryz.func53, Tryz.ntmps53
    go_wp2_with fail
    refine wp_region_held_drew (S := fun w' => w'.cell? ⟨g, 2, none⟩ = some (.int .i64 k.snp.idx) ∧ w'.cell? ⟨g, 7, none⟩ = some (.slice E k.ents.length n) ∧ w'.cell? ⟨g, 17, none⟩ = some (.int .i64 r.at_)) (by kernel_rfl) ⟨HB.out.cell 2, HB.out.cell 7, HB.out.cell 17⟩ (fun HD => ?_)
    refine wpAnyH_take (i := 0) (oi := ⟨some 2, _, _, _, _, _⟩) (v := ?_) rfl (by kernel_rfl) (by kernel_rfl) (by kernel_rfl) (fun _ _ _ h => h) (Or.inl ⟨by rfl, ?_⟩) HD ?_
    rotate_left
    · intro w hSw
      (try dsimp only at hSw)
      go_simp <;> with_reducible rfl
    (try simp only [Act.put, List.setIfInBounds_toArray, List.set_cons_zero, List.set_cons_succ])
    refine wpAnyH_take (i := 1) (oi := ⟨some 3, _, _, _, _, _⟩) (v := ?_) rfl (by kernel_rfl) (by kernel_rfl) (by kernel_rfl) (fun _ _ _ h => h) (Or.inl ⟨by rfl, ?_⟩) HD ?_
    rotate_left
    · intro w hSw
      (try dsimp only at hSw)
      go_simp <;> with_reducible rfl
    (try simp only [Act.put, List.setIfInBounds_toArray, List.set_cons_zero, List.set_cons_succ])
    refine wpAnyH_take (i := 2) (oi := ⟨some 4, _, _, _, _, _⟩) (v := ?_) rfl (by kernel_rfl) (by kernel_rfl) (by kernel_rfl) (fun _ _ _ h => h) (Or.inl ⟨by rfl, ?_⟩) HD ?_
    rotate_left
    · intro w hSw
      (try dsimp only at hSw)
      go_simp <;> with_reducible rfl
    (try simp only [Act.put, List.setIfInBounds_toArray, List.set_cons_zero, List.set_cons_succ])
    refine wpAnyH_take (i := 3) (oi := ⟨some 5, _, _, _, _, _⟩) (v := ?_) rfl (by kernel_rfl) (by kernel_rfl) (by kernel_rfl) (fun _ _ _ h => h) (Or.inl ⟨by rfl, ?_⟩) HD ?_
    rotate_left
    · intro w hSw
      (try dsimp only at hSw)
      go_simp <;> with_reducible rfl
    (try simp only [Act.put, List.setIfInBounds_toArray, List.set_cons_zero, List.set_cons_succ])
    refine wpAnyH_take (i := 4) (oi := ⟨some 6, _, _, _, _, _⟩) (v := ?_) rfl (by kernel_rfl) (by kernel_rfl) (by kernel_rfl) (fun _ _ _ h => h) (Or.inl ⟨by rfl, ?_⟩) HD ?_
    rotate_left
    · intro w hSw
      (try dsimp only at hSw)
      go_simp <;> with_reducible rfl
    (try simp only [Act.put, List.setIfInBounds_toArray, List.set_cons_zero, List.set_cons_succ])
    refine wpAnyH_take (i := 5) (oi := ⟨some 7, _, _, _, _, _⟩) (v := ?_) rfl (by kernel_rfl) (by kernel_rfl) (by kernel_rfl) (fun _ _ _ h => h) (Or.inl ⟨by rfl, ?_⟩) HD ?_
    rotate_left
    · intro w hSw
      (try dsimp only at hSw)
      go_simp <;> with_reducible rfl
    (try simp only [Act.put, List.setIfInBounds_toArray, List.set_cons_zero, List.set_cons_succ])
    refine wpAnyH_take (i := 6) (oi := ⟨some 8, _, _, _, _, _⟩) (v := ?_) rfl (by kernel_rfl) (by kernel_rfl) (by kernel_rfl) (fun _ _ _ h => h) (Or.inl ⟨by rfl, ?_⟩) HD ?_
    rotate_left
    · intro w hSw
      (try dsimp only at hSw)
      go_simp <;> with_reducible rfl
    (try simp only [Act.put, List.setIfInBounds_toArray, List.set_cons_zero, List.set_cons_succ])
    refine wpAnyH_take (i := 7) (oi := ⟨some 9, _, _, _, _, _⟩) (v := ?_) rfl (by kernel_rfl) (by kernel_rfl) (by kernel_rfl) (fun _ _ _ h => h) (Or.inl ⟨by rfl, ?_⟩) HD ?_
    rotate_left
    · intro w hSw
      (try dsimp only at hSw)
      go_simp <;> with_reducible rfl
    (try simp only [Act.put, List.setIfInBounds_toArray, List.set_cons_zero, List.set_cons_succ])
    refine wpAnyH_take (i := 8) (oi := ⟨some 10, _, _, _, _, _⟩) (v := ?_) rfl (by kernel_rfl) (by kernel_rfl) (by kernel_rfl) (fun _ _ _ h => h) (Or.inl ⟨by rfl, ?_⟩) HD ?_
    rotate_left
    · intro w hSw
      (try dsimp only at hSw)
      go_simp <;> with_reducible rfl
    (try simp only [Act.put, List.setIfInBounds_toArray, List.set_cons_zero, List.set_cons_succ])
    refine wpAnyH_take (i := 9) (oi := ⟨some 11, _, _, _, _, _⟩) (v := ?_) rfl (by kernel_rfl) (by kernel_rfl) (by kernel_rfl) (fun _ _ _ h => h) (Or.inl ⟨by rfl, ?_⟩) HD ?_
    rotate_left
    · intro w hSw
      (try dsimp only at hSw)
      go_simp <;> with_reducible rfl
    (try simp only [Act.put, List.setIfInBounds_toArray, List.set_cons_zero, List.set_cons_succ])
    refine wpAnyH_take (i := 10) (oi := ⟨some 12, _, _, _, _, _⟩) (v := ?_) rfl (by kernel_rfl) (by kernel_rfl) (by kernel_rfl) (fun _ _ _ h => h) (Or.inl ⟨by rfl, ?_⟩) HD ?_
    rotate_left
    · intro w hSw
      (try dsimp only at hSw)
      go_simp <;> with_reducible rfl
    (try simp only [Act.put, List.setIfInBounds_toArray, List.set_cons_zero, List.set_cons_succ])
    refine wpAnyH_take (i := 11) (oi := ⟨some 13, _, _, _, _, _⟩) (v := ?_) rfl (by kernel_rfl) (by kernel_rfl) (by kernel_rfl) (fun _ _ _ h => h) (Or.inl ⟨by rfl, ?_⟩) HD ?_
    rotate_left
    · intro w hSw
      (try dsimp only at hSw)
      go_simp <;> with_reducible rfl
    (try simp only [Act.put, List.setIfInBounds_toArray, List.set_cons_zero, List.set_cons_succ])
    refine wpAnyH_take (i := 12) (oi := ⟨some 14, _, _, _, _, _⟩) (v := ?_) rfl (by kernel_rfl) (by kernel_rfl) (by kernel_rfl) (fun _ _ _ h => h) (Or.inl ⟨by rfl, ?_⟩) HD ?_
    rotate_left
    · intro w hSw
      (try dsimp only at hSw)
      go_simp <;> with_reducible rfl
    (try simp only [Act.put, List.setIfInBounds_toArray, List.set_cons_zero, List.set_cons_succ])
    refine wpAnyH_take (i := 13) (oi := ⟨some 15, _, _, _, _, _⟩) (v := undef) rfl (by kernel_rfl) (by kernel_rfl) (by kernel_rfl) (fun _ _ _ h => h) (Or.inr ⟨by rfl, rfl⟩) HD ?_
    (try simp only [Act.put, List.setIfInBounds_toArray, List.set_cons_zero, List.set_cons_succ])
    refine wpAnyH_take (i := 14) (oi := ⟨some 16, _, _, _, _, _⟩) (v := undef) rfl (by kernel_rfl) (by kernel_rfl) (by kernel_rfl) (fun _ _ _ h => h) (Or.inr ⟨by rfl, rfl⟩) HD ?_
    (try simp only [Act.put, List.setIfInBounds_toArray, List.set_cons_zero, List.set_cons_succ])
    refine wpAnyH_take (i := 15) (oi := ⟨some 17, _, _, _, _, _⟩) (v := undef) rfl (by kernel_rfl) (by kernel_rfl) (by kernel_rfl) (fun _ _ _ h => h) (Or.inr ⟨by rfl, rfl⟩) HD ?_
    (try simp only [Act.put, List.setIfInBounds_toArray, List.set_cons_zero, List.set_cons_succ])
    refine wpAnyH_take (i := 16) (oi := ⟨some 18, _, _, _, _, _⟩) (v := undef) rfl (by kernel_rfl) (by kernel_rfl) (by kernel_rfl) (fun _ _ _ h => h) (Or.inr ⟨by rfl, rfl⟩) HD ?_
    (try simp only [Act.put, List.setIfInBounds_toArray, List.set_cons_zero, List.set_cons_succ])
    refine wpAnyH_take (i := 17) (oi := ⟨some 19, _, _, _, _, _⟩) (v := undef) rfl (by kernel_rfl) (by kernel_rfl) (by kernel_rfl) (fun _ _ _ h => h) (Or.inr ⟨by rfl, rfl⟩) HD ?_
    (try simp only [Act.put, List.setIfInBounds_toArray, List.set_cons_zero, List.set_cons_succ])
    refine wpAnyH_take (i := 18) (oi := ⟨some 20, _, _, _, _, _⟩) (v := undef) rfl (by kernel_rfl) (by kernel_rfl) (by kernel_rfl) (fun _ _ _ h => h) (Or.inr ⟨by rfl, rfl⟩) HD ?_
    (try simp only [Act.put, List.setIfInBounds_toArray, List.set_cons_zero, List.set_cons_succ])
    refine wpAnyH_take (i := 19) (oi := ⟨some 21, _, _, _, _, _⟩) (v := undef) rfl (by kernel_rfl) (by kernel_rfl) (by kernel_rfl) (fun _ _ _ h => h) (Or.inr ⟨by rfl, rfl⟩) HD ?_
    (try simp only [Act.put, List.setIfInBounds_toArray, List.set_cons_zero, List.set_cons_succ])
    refine wpAnyH_take (i := 20) (oi := ⟨some 22, _, _, _, _, _⟩) (v := undef) rfl (by kernel_rfl) (by kernel_rfl) (by kernel_rfl) (fun _ _ _ h => h) (Or.inr ⟨by rfl, rfl⟩) HD ?_
    (try simp only [Act.put, List.setIfInBounds_toArray, List.set_cons_zero, List.set_cons_succ])
    refine wpAnyH_take (i := 21) (oi := ⟨some 23, _, _, _, _, _⟩) (v := ?_) rfl (by kernel_rfl) (by kernel_rfl) (by kernel_rfl) (fun _ _ _ h => h) (Or.inl ⟨by rfl, ?_⟩) HD ?_
    rotate_left
    · intro w hSw
      (try dsimp only at hSw)
      go_simp <;> with_reducible rfl
    (try simp only [Act.put, List.setIfInBounds_toArray, List.set_cons_zero, List.set_cons_succ])
    refine wpAnyH_ready (rs := [22]) (by kernel_rfl) (by simp) ?_
    refine AllReadyH.cons (o := ⟨some 24, _, _, _, _, _⟩) rfl (fun K hK => ?_) AllReadyH.nil
    go_simp
    go_at_call 49
    refine (is_no 140 _).mono ?_
    rintro e w1 ⟨rfl, rfl⟩
    exact ⟨rfl, FoldEnd.bad 140 (by decide) HF.out rfl ((below_drewN w 1).mono (by omega)) ⟨Nat.le_refl _, fun _ _ _ _ => rfl⟩⟩
end Go.Proofs.YtkdmfjpfanmgmaaGreatDoor
namespace Go.Proofs.YtkdmfjpfanmgmaaGreatDoor
open Go.RowKit Le
set_option maxRecDepth 100000
set_option linter.unusedSimpArgs false
set_option linter.unusedVariables false
theorem folded_snap_no {k : Kep} {r : Rcd} (h : r.kind = 4) (ht : r.snp.idx ≤ k.snp.idx) : foldedP k r = (.zero, 140) := by
  unfold foldedP; rw [if_neg (by omega), if_neg (by omega), if_neg (by omega), if_pos ht]
theorem folded_snap_in {k : Kep} {r : Rcd} {q : Nat} (h : r.kind = 4) (ht : k.snp.idx < r.snp.idx) (hq : r.snp.idx - k.snp.idx - 1 = (q : Int)) (hl : q < k.ents.length) (he : (k.ents[q]).term = r.snp.term) : foldedP k r = ({ k with snp := r.snp, ents := k.ents.drop (q + 1) }, 0) := by
  unfold foldedP; rw [if_neg (by omega), if_neg (by omega), if_neg (by omega), if_neg (by omega), hq, Int.toNat_natCast, if_pos (by simp [hl, he])]
theorem folded_snap_out {k : Kep} {r : Rcd} {q : Nat} (h : r.kind = 4) (ht : k.snp.idx < r.snp.idx) (hq : r.snp.idx - k.snp.idx - 1 = (q : Int)) (hl : ¬ q < k.ents.length ∨ ∃ h : q < k.ents.length, (k.ents[q]).term ≠ r.snp.term) : foldedP k r = ({ k with snp := r.snp, ents := [] }, 0) := by
  unfold foldedP; rw [if_neg (by omega), if_neg (by omega), if_neg (by omega), if_neg (by omega), hq, Int.toNat_natCast, if_neg]
  rcases hl with hl | ⟨hl, he⟩
  · simp [List.getElem?_eq_none (Nat.le_of_not_lt hl)]
  · simp [hl, he]
theorem RowsAt.drop_ {w : World} {S : Nat → Prop} {l : List Sh} {ds : List (List Da)} {ge : Nat} (h : RowsAt w S l ds (some ⟨ge, 0, none⟩)) (q : Nat) : RowsAt w S l (ds.drop q) (some ⟨ge, q * l.length, none⟩) := fun hn => by
  obtain ⟨ad, e, hS, h⟩ := h (by rw [List.length_drop] at hn; omega)
  injection e with e
  subst e
  refine ⟨_, rfl, hS, fun j d hj => ?_⟩
  rw [List.getElem?_drop] at hj
  obtain ⟨vs, h1, h2⟩ := h _ d hj
  refine ⟨vs, h1, fun i u hu => ?_⟩
  have := h2 i u hu
  rw [Addr.add_mid] at this ⊢
  rw [← this]
  congr 2
  rw [Nat.zero_add, Nat.add_mul]
  omega
theorem _root_.Go.RowKit.Below.dn {w w' : World} {B : Nat} (h : Below B w w') (m : Nat) : Below B w (w'.drewN m) := by
  induction m with
  | zero => exact h
  | succ m ih => exact ih.drew
set_option maxHeartbeats 3200000 in
theorem snap_any (k : Kep) (r : Rcd) (A : Option Addr) (c : Nat) (B : Option Addr) (d : Nat) (E : Option Addr) (n : Nat) (A1 : Option Addr) (c1 : Nat) (B1 : Option Addr) (d1 : Nat) (A2 : Option Addr) (c2 : Nat) (B2 : Option Addr) (d2 : Nat) (base g : Nat) (w : World) (hB : Blk w g 112 (foldCs k r A c B d E n A1 c1 B1 d1 A2 c2 B2 d2)) (hK : KepOwn w base k A B E n) (hbg : base ≤ g) (h1 : r.kind = 4) (hk : OkK k) (hat : okN r.snp.idx) (hrv : RowsAt w (· < base) [.num] (nums r.snp.v) A2) (hrl : RowsAt w (· < base) [.num] (nums r.snp.l) B2) (hs : r.snp.Small) :
    Calls Tryz.prog 54 #[.pointer (some ⟨g, 0, none⟩)] w (FoldEnd w base g k r A1 c1 B1 d1 A2 c2 B2 d2) := by
  unfold foldCs at hB
  have HB := Lib.hid hB
  have HK := Lib.hid hK
  have H1 := Lib.hid h1
  have HV := Lib.hid hrv
  have HL := Lib.hid hrl
  have HS := Lib.hid hs
  have q1 := okN_i hk.idx
  have q2 := hk.len
  have q3 := hB.lt
  have q4 := okN_i hat
  clear hB hK h1 hk hat hrv hrl hs
  have a2 : w.cell? ⟨g, 2, none⟩ = some (.int .i64 k.snp.idx) := HB.out.cell 2
  have a7 : w.cell? ⟨g, 7, none⟩ = some (.slice E k.ents.length n) := HB.out.cell 7
  have a18 : w.cell? ⟨g, 18, none⟩ = some (.int .i64 r.snp.idx) := HB.out.cell 18
  have a19 : w.cell? ⟨g, 19, none⟩ = some (.int .i64 r.snp.term) := HB.out.cell 19
  by_cases ht : r.snp.idx ≤ k.snp.idx
  · have t : decide (k.snp.idx < r.snp.idx) = false := decide_eq_false (by omega)
    have HF := Lib.hid (folded_snap_no H1.out ht)
    go_enter Tryz.func54, Tryz.ntmps54
    go_wp2_with fail
    go_still_tail 13, (by kernel_rfl)
    go_wp2_with fail
    refine (is_no 140 _).mono ?_
    rintro e w1 ⟨rfl, rfl⟩
    exact ⟨rfl, FoldEnd.bad 140 (by decide) HF.out rfl (Below.refl _ _).drew (Keeps.drew _)⟩
  · have t : decide (k.snp.idx < r.snp.idx) = true := decide_eq_true (by omega)
    have HT : Hid (k.snp.idx < r.snp.idx) := Lib.hid (by omega)
    obtain ⟨q, hq⟩ : ∃ q : Nat, r.snp.idx - k.snp.idx - 1 = (q : Int) := ⟨(r.snp.idx - k.snp.idx - 1).toNat, by omega⟩
    have HQ := Lib.hid hq
    have s1 : IntKind.i64.wrap (r.snp.idx - k.snp.idx) = r.snp.idx - k.snp.idx := IntWalk.i64_in _ (by omega)
    have s2 : IntKind.i64.wrap (r.snp.idx - k.snp.idx - 1) = (q : Int) := by rw [HQ.out]; exact IntWalk.i64_in _ (by omega)
    clear hq
    go_enter Tryz.func54, Tryz.ntmps54
    go_wp2_with fail
    go_still_tail 13, (by kernel_rfl)
    go_wp2_with fail
    refine (is_ok 140 _).mono ?_
    rintro e w1 ⟨rfl, rfl⟩
    go_wp2
    go_quiet (fail)
    generalize nq = n0
    clear s1 s2 t
    by_cases hl : q < k.ents.length
    · obtain ⟨xs, ho, hth⟩ := HK.out.e
      have hcap := own_cap ho
      obtain ⟨ge, cap, hv, _, hlt⟩ := ho.form (by omega)
      have hE : E = some ⟨ge, 0, none⟩ := by injection hv
      clear hth hv ho
      obtain ⟨ad, A5, c5, B5, d5, hE2, _, _, _, hcell⟩ := ents_at HK.out.at_.e hl
      have had : ad = ⟨ge, 0, none⟩ := by rw [hE] at hE2; injection hE2 with h; exact h.symm
      subst had
      subst hE
      clear hE2
      have cx : w.cell? ⟨ge, q * 6 + 1, none⟩ = some (.int .i64 (k.ents[q]).term) := by have := hcell 1 _ rfl; rwa [Addr.add_mid, Nat.zero_add] at this
      have HX : Hid ((k.ents[q]).term = r.snp.term → foldedP k r = ({ k with snp := r.snp, ents := k.ents.drop (q + 1) }, 0)) := Lib.hid (fun h => folded_snap_in H1.out HT.out HQ.out hl h)
      have HY : Hid ((k.ents[q]).term ≠ r.snp.term → foldedP k r = ({ k with snp := r.snp, ents := [] }, 0)) := Lib.hid (fun h => folded_snap_out H1.out HT.out HQ.out (.inr ⟨hl, h⟩))
      generalize (k.ents[q]).term = tx at *
      have t : decide ((q : Int) < (k.ents.length : Int)) = true := decide_eq_true (by omega)
      have t' : decide (q < k.ents.length) = true := decide_eq_true hl
      have u0 : (0 : Int) ≤ (q : Int) := Int.natCast_nonneg _
      have u1 : (q : Int) < (k.ents.length : Int) := by omega
      clear hcell
      by_cases htx : tx = r.snp.term
      · have HF := Lib.hid (HX.out htx)
        have t2 : (tx == r.snp.term) = true := by simpa using htx
        clear htx HX HY
        go_wp2_with fail
        go_quiet (fail)
        clear t t' t2 a2 a7 a18 a19 cx
        have HBw : Hid (Below base w ((w.drewN (1 + n0)).drewN nq)) := Lib.hid (((Below.refl base w).dn (1 + n0)).dn nq)
        have HKw : Hid (Keeps [112, 29] w ((w.drewN (1 + n0)).drewN nq)) := Lib.hid ⟨Nat.le_refl _, fun _ _ _ _ => rfl⟩
        have HK2 : Hid (KepAt ((w.drewN (1 + n0)).drewN nq) (Nw ((w.drewN (1 + n0)).drewN nq) base [29, 3]) k A B (some ⟨ge, 0, none⟩)) := Lib.hid (HK.out.keeps (ts := []) (w' := ((w.drewN (1 + n0)).drewN nq)) ⟨Nat.le_refl _, fun _ _ _ _ => rfl⟩ (by simp) (by simp)).at_
        have HB2 : Hid (Blk ((w.drewN (1 + n0)).drewN nq) g 112 [.int .i64 k.term, .int .i64 k.vote, .int .i64 k.snp.idx, .int .i64 k.snp.term, .slice A k.snp.v.length c, .slice B k.snp.l.length d, .string (text k.snp.b), .slice (some ⟨ge, 0, none⟩) k.ents.length n, .int .i64 r.kind, .int .i64 r.term, .int .i64 r.vote, .int .i64 r.ent.idx, .int .i64 r.ent.term, .int .i64 r.ent.kind, .slice A1 r.ent.v.length c1, .slice B1 r.ent.l.length d1, .string (text r.ent.b), .int .i64 r.at_, .int .i64 r.snp.idx, .int .i64 r.snp.term, .slice A2 r.snp.v.length c2, .slice B2 r.snp.l.length d2, .string (text r.snp.b)]) := Lib.hid HB.out
        clear HB HK
        generalize ((w.drewN (1 + n0)).drewN nq) = W at *
        by_cases hc : n = q + 1
        · have hm : k.ents.length = q + 1 := by omega
          have u2 : ((q : Int) + 1) ≤ (k.ents.length : Int) := by omega
          have u3 : (k.ents.length : Int) ≤ (n : Int) := by omega
          have hz : k.ents.drop (q + 1) = [] := List.drop_eq_nil_of_le (by omega)
          rw [hz] at HF
          have b7 : W.cell? ⟨g, 7, none⟩ = some (.slice (some ⟨ge, 0, none⟩) k.ents.length n) := HB2.out.cell 7
          have b18 : W.cell? ⟨g, 18, none⟩ = some (.int .i64 r.snp.idx) := HB2.out.cell 18
          have b19 : W.cell? ⟨g, 19, none⟩ = some (.int .i64 r.snp.term) := HB2.out.cell 19
          have b20 : W.cell? ⟨g, 20, none⟩ = some (.slice A2 r.snp.v.length c2) := HB2.out.cell 20
          have b21 : W.cell? ⟨g, 21, none⟩ = some (.slice B2 r.snp.l.length d2) := HB2.out.cell 21
          have b22 : W.cell? ⟨g, 22, none⟩ = some (.string (text r.snp.b)) := HB2.out.cell 22
          have p7 : W.frozen? ⟨g, 7, none⟩ = false := HB2.out.frozen 7
          go_wp2_with fail
          clear u2 u3 hz p7 b7 b18 b19 b20 b21 b22
          have HBk : Hid (Blk (W.setCell ⟨g, 7, none⟩ (.slice (some ⟨ge, 0, none⟩) 0 0)) g 112 [.int .i64 k.term, .int .i64 k.vote, .int .i64 k.snp.idx, .int .i64 k.snp.term, .slice A k.snp.v.length c, .slice B k.snp.l.length d, .string (text k.snp.b), .slice (some ⟨ge, 0, none⟩) 0 0, .int .i64 r.kind, .int .i64 r.term, .int .i64 r.vote, .int .i64 r.ent.idx, .int .i64 r.ent.term, .int .i64 r.ent.kind, .slice A1 r.ent.v.length c1, .slice B1 r.ent.l.length d1, .string (text r.ent.b), .int .i64 r.at_, .int .i64 r.snp.idx, .int .i64 r.snp.term, .slice A2 r.snp.v.length c2, .slice B2 r.snp.l.length d2, .string (text r.snp.b)]) := Lib.hid (by have := HB2.out.set_ 7 (.slice (some ⟨ge, 0, none⟩) 0 0); simpa using this)
          have HBb : Hid (Below base w (W.setCell ⟨g, 7, none⟩ (.slice (some ⟨ge, 0, none⟩) 0 0))) := Lib.hid (HBw.out.setCell hbg _)
          have KF : Hid (Keeps [112] W (W.setCell ⟨g, 7, none⟩ (.slice (some ⟨ge, 0, none⟩) 0 0))) := Lib.hid (Keeps.set_ HB2.out.typ (by simp) _)
          have HE : Hid (RowsAt (W.setCell ⟨g, 7, none⟩ (.slice (some ⟨ge, 0, none⟩) 0 0)) (Nw (W.setCell ⟨g, 7, none⟩ (.slice (some ⟨ge, 0, none⟩) 0 0)) base [29, 3]) shEntry ((([] : List Ent)).map Ent.da) (some ⟨ge, 0, none⟩)) := Lib.hid (RowsAt.nil)
          have HKx : Hid (Keeps [112, 29] w (W.setCell ⟨g, 7, none⟩ (.slice (some ⟨ge, 0, none⟩) 0 0))) := Lib.hid (HKw.out.trans (KF.out.more (by simp)))
          clear HB2 HBw KF HK2 HKw
          generalize W.setCell ⟨g, 7, none⟩ (.slice (some ⟨ge, 0, none⟩) 0 0) = V at *
          refine (ownSnap_any r.snp A2 c2 B2 d2 _ ((HV.out.below HBb.out).more (by have := HBb.out.size; have := HBk.out.lt; omega)) ((HL.out.below HBb.out).more (by have := HBb.out.size; have := HBk.out.lt; omega)) (by have := HS.out.v; omega) (by have := HS.out.l; omega)).mono ?_
          rintro e w3 ⟨A4, c4, B4, d4, rfl, hr3, hr4, hbl⟩
          unfold Snp.cs
          have q7 := HBk.out.lt
          have R0 := Lib.hid (HBk.out.below hbl q7)
          have HB3 := Lib.hid (HBb.out.trans (hbl.mono (by omega)))
          have HE3 := Lib.hid (HE.out.nw_below hbl)
          have HR3 := Lib.hid (hr3.nw_mono (base' := base) (by omega) fun _ h => h)
          have HR4 := Lib.hid (hr4.nw_mono (base' := base) (by omega) fun _ h => h)
          have HK3 : Hid (Keeps [112, 29] w w3) := Lib.hid (HKx.out.trans (Keeps.of_below hbl (Nat.le_refl _)))
          clear hr3 hr4 hbl HBk HBb HE HKx
          have b2 : w3.cell? ⟨g, 2, none⟩ = some (.int .i64 k.snp.idx) := R0.out.cell 2
          have b3 : w3.cell? ⟨g, 3, none⟩ = some (.int .i64 k.snp.term) := R0.out.cell 3
          have b4 : w3.cell? ⟨g, 4, none⟩ = some (.slice A k.snp.v.length c) := R0.out.cell 4
          have b5 : w3.cell? ⟨g, 5, none⟩ = some (.slice B k.snp.l.length d) := R0.out.cell 5
          have b6 : w3.cell? ⟨g, 6, none⟩ = some (.string (text k.snp.b)) := R0.out.cell 6
          have f2 : w3.frozen? ⟨g, 2, none⟩ = false := R0.out.frozen 2
          have f3 : w3.frozen? ⟨g, 3, none⟩ = false := R0.out.frozen 3
          have f4 : w3.frozen? ⟨g, 4, none⟩ = false := R0.out.frozen 4
          have f5 : w3.frozen? ⟨g, 5, none⟩ = false := R0.out.frozen 5
          have f6 : w3.frozen? ⟨g, 6, none⟩ = false := R0.out.frozen 6
          go_wp2
          go_end0
          have KZ : Keeps [112] w3 (((((w3.setCell ⟨g, 2, none⟩ (.int .i64 r.snp.idx)).setCell ⟨g, 3, none⟩ (.int .i64 r.snp.term)).setCell ⟨g, 4, none⟩ (.slice A4 r.snp.v.length c4)).setCell ⟨g, 5, none⟩ (.slice B4 r.snp.l.length d4)).setCell ⟨g, 6, none⟩ (.string (text r.snp.b))) := (by repeat (first | with_reducible exact Keeps.refl _ _ | (with_reducible refine Keeps.step1 ?_ (by repeat (first | with_reducible exact Blk.typ R0.out | with_reducible refine TypeAt.setCell ?_ _ _)))))
          refine FoldEnd.good { k with snp := r.snp, ents := ([] : List Ent) } A4 c4 B4 d4 (some ⟨ge, 0, none⟩) (0) HF.out rfl ?_ ⟨?_, ?_, ?_⟩ ?_ (HK3.out.trans (KZ.more (by simp)))
          · have := R0.out.set_ 2 (.int .i64 r.snp.idx) |>.set_ 3 (.int .i64 r.snp.term) |>.set_ 4 (.slice A4 r.snp.v.length c4) |>.set_ 5 (.slice B4 r.snp.l.length d4) |>.set_ 6 (.string (text r.snp.b))
            unfold foldCs
            simpa using this
          · exact (HR3.out.nw_keeps KZ (by decide)).nw_mono (Nat.le_refl _) (by simp)
          · exact (HR4.out.nw_keeps KZ (by decide)).nw_mono (Nat.le_refl _) (by simp)
          · exact HE3.out.nw_keeps KZ (by decide)
          · exact (by repeat (first | with_reducible exact HB3.out | (with_reducible refine Below.setCell ?_ (by dsimp only; (first | omega | (simp; done) | (simp; omega))) _) | (with_reducible refine Below.alloc ?_ (by (first | omega | (simp; done) | (simp; omega))) _) | with_reducible refine Below.drew ?_))
        · have u2 : ((q : Int) + 1) ≤ (k.ents.length : Int) := by omega
          have u3 : (k.ents.length : Int) ≤ (n : Int) := by omega
          have b7 : W.cell? ⟨g, 7, none⟩ = some (.slice (some ⟨ge, 0, none⟩) k.ents.length n) := HB2.out.cell 7
          have b18 : W.cell? ⟨g, 18, none⟩ = some (.int .i64 r.snp.idx) := HB2.out.cell 18
          have b19 : W.cell? ⟨g, 19, none⟩ = some (.int .i64 r.snp.term) := HB2.out.cell 19
          have b20 : W.cell? ⟨g, 20, none⟩ = some (.slice A2 r.snp.v.length c2) := HB2.out.cell 20
          have b21 : W.cell? ⟨g, 21, none⟩ = some (.slice B2 r.snp.l.length d2) := HB2.out.cell 21
          have b22 : W.cell? ⟨g, 22, none⟩ = some (.string (text r.snp.b)) := HB2.out.cell 22
          have p7 : W.frozen? ⟨g, 7, none⟩ = false := HB2.out.frozen 7
          go_wp2_with fail
          clear u2 u3 hc p7 b7 b18 b19 b20 b21 b22
          have HBk : Hid (Blk (W.setCell ⟨g, 7, none⟩ (.slice (some ⟨ge, (q + 1) * 6, none⟩) (k.ents.length - (q + 1)) (n - (q + 1)))) g 112 [.int .i64 k.term, .int .i64 k.vote, .int .i64 k.snp.idx, .int .i64 k.snp.term, .slice A k.snp.v.length c, .slice B k.snp.l.length d, .string (text k.snp.b), .slice (some ⟨ge, (q + 1) * 6, none⟩) (k.ents.length - (q + 1)) (n - (q + 1)), .int .i64 r.kind, .int .i64 r.term, .int .i64 r.vote, .int .i64 r.ent.idx, .int .i64 r.ent.term, .int .i64 r.ent.kind, .slice A1 r.ent.v.length c1, .slice B1 r.ent.l.length d1, .string (text r.ent.b), .int .i64 r.at_, .int .i64 r.snp.idx, .int .i64 r.snp.term, .slice A2 r.snp.v.length c2, .slice B2 r.snp.l.length d2, .string (text r.snp.b)]) := Lib.hid (by have := HB2.out.set_ 7 (.slice (some ⟨ge, (q + 1) * 6, none⟩) (k.ents.length - (q + 1)) (n - (q + 1))); simpa using this)
          have HBb : Hid (Below base w (W.setCell ⟨g, 7, none⟩ (.slice (some ⟨ge, (q + 1) * 6, none⟩) (k.ents.length - (q + 1)) (n - (q + 1))))) := Lib.hid (HBw.out.setCell hbg _)
          have KF : Hid (Keeps [112] W (W.setCell ⟨g, 7, none⟩ (.slice (some ⟨ge, (q + 1) * 6, none⟩) (k.ents.length - (q + 1)) (n - (q + 1))))) := Lib.hid (Keeps.set_ HB2.out.typ (by simp) _)
          have HE : Hid (RowsAt (W.setCell ⟨g, 7, none⟩ (.slice (some ⟨ge, (q + 1) * 6, none⟩) (k.ents.length - (q + 1)) (n - (q + 1)))) (Nw (W.setCell ⟨g, 7, none⟩ (.slice (some ⟨ge, (q + 1) * 6, none⟩) (k.ents.length - (q + 1)) (n - (q + 1)))) base [29, 3]) shEntry ((k.ents.drop (q + 1)).map Ent.da) (some ⟨ge, (q + 1) * 6, none⟩)) := Lib.hid (by have := (HK2.out.e.drop_ (q + 1)).nw_keeps KF.out (by decide); rw [List.map_drop]; exact this)
          have HKx : Hid (Keeps [112, 29] w (W.setCell ⟨g, 7, none⟩ (.slice (some ⟨ge, (q + 1) * 6, none⟩) (k.ents.length - (q + 1)) (n - (q + 1))))) := Lib.hid (HKw.out.trans (KF.out.more (by simp)))
          clear HB2 HBw KF HK2 HKw
          generalize W.setCell ⟨g, 7, none⟩ (.slice (some ⟨ge, (q + 1) * 6, none⟩) (k.ents.length - (q + 1)) (n - (q + 1))) = V at *
          refine (ownSnap_any r.snp A2 c2 B2 d2 _ ((HV.out.below HBb.out).more (by have := HBb.out.size; have := HBk.out.lt; omega)) ((HL.out.below HBb.out).more (by have := HBb.out.size; have := HBk.out.lt; omega)) (by have := HS.out.v; omega) (by have := HS.out.l; omega)).mono ?_
          rintro e w3 ⟨A4, c4, B4, d4, rfl, hr3, hr4, hbl⟩
          unfold Snp.cs
          have q7 := HBk.out.lt
          have R0 := Lib.hid (HBk.out.below hbl q7)
          have HB3 := Lib.hid (HBb.out.trans (hbl.mono (by omega)))
          have HE3 := Lib.hid (HE.out.nw_below hbl)
          have HR3 := Lib.hid (hr3.nw_mono (base' := base) (by omega) fun _ h => h)
          have HR4 := Lib.hid (hr4.nw_mono (base' := base) (by omega) fun _ h => h)
          have HK3 : Hid (Keeps [112, 29] w w3) := Lib.hid (HKx.out.trans (Keeps.of_below hbl (Nat.le_refl _)))
          clear hr3 hr4 hbl HBk HBb HE HKx
          have b2 : w3.cell? ⟨g, 2, none⟩ = some (.int .i64 k.snp.idx) := R0.out.cell 2
          have b3 : w3.cell? ⟨g, 3, none⟩ = some (.int .i64 k.snp.term) := R0.out.cell 3
          have b4 : w3.cell? ⟨g, 4, none⟩ = some (.slice A k.snp.v.length c) := R0.out.cell 4
          have b5 : w3.cell? ⟨g, 5, none⟩ = some (.slice B k.snp.l.length d) := R0.out.cell 5
          have b6 : w3.cell? ⟨g, 6, none⟩ = some (.string (text k.snp.b)) := R0.out.cell 6
          have f2 : w3.frozen? ⟨g, 2, none⟩ = false := R0.out.frozen 2
          have f3 : w3.frozen? ⟨g, 3, none⟩ = false := R0.out.frozen 3
          have f4 : w3.frozen? ⟨g, 4, none⟩ = false := R0.out.frozen 4
          have f5 : w3.frozen? ⟨g, 5, none⟩ = false := R0.out.frozen 5
          have f6 : w3.frozen? ⟨g, 6, none⟩ = false := R0.out.frozen 6
          go_wp2
          go_end0
          have KZ : Keeps [112] w3 (((((w3.setCell ⟨g, 2, none⟩ (.int .i64 r.snp.idx)).setCell ⟨g, 3, none⟩ (.int .i64 r.snp.term)).setCell ⟨g, 4, none⟩ (.slice A4 r.snp.v.length c4)).setCell ⟨g, 5, none⟩ (.slice B4 r.snp.l.length d4)).setCell ⟨g, 6, none⟩ (.string (text r.snp.b))) := (by repeat (first | with_reducible exact Keeps.refl _ _ | (with_reducible refine Keeps.step1 ?_ (by repeat (first | with_reducible exact Blk.typ R0.out | with_reducible refine TypeAt.setCell ?_ _ _)))))
          refine FoldEnd.good { k with snp := r.snp, ents := k.ents.drop (q + 1) } A4 c4 B4 d4 (some ⟨ge, (q + 1) * 6, none⟩) (n - (q + 1)) HF.out rfl ?_ ⟨?_, ?_, ?_⟩ ?_ (HK3.out.trans (KZ.more (by simp)))
          · have := R0.out.set_ 2 (.int .i64 r.snp.idx) |>.set_ 3 (.int .i64 r.snp.term) |>.set_ 4 (.slice A4 r.snp.v.length c4) |>.set_ 5 (.slice B4 r.snp.l.length d4) |>.set_ 6 (.string (text r.snp.b))
            unfold foldCs
            simpa using this
          · exact (HR3.out.nw_keeps KZ (by decide)).nw_mono (Nat.le_refl _) (by simp)
          · exact (HR4.out.nw_keeps KZ (by decide)).nw_mono (Nat.le_refl _) (by simp)
          · exact HE3.out.nw_keeps KZ (by decide)
          · exact (by repeat (first | with_reducible exact HB3.out | (with_reducible refine Below.setCell ?_ (by dsimp only; (first | omega | (simp; done) | (simp; omega))) _) | (with_reducible refine Below.alloc ?_ (by (first | omega | (simp; done) | (simp; omega))) _) | with_reducible refine Below.drew ?_))
      · have HF := Lib.hid (HY.out htx)
        have t2 : (tx == r.snp.term) = false := by simpa using htx
        clear htx HX HY
        go_wp2_with fail
        go_quiet (fail)
        clear t t' t2 a2 a7 a18 a19 cx
        have HBw : Hid (Below base w ((w.drewN (1 + n0)).drewN nq)) := Lib.hid (((Below.refl base w).dn (1 + n0)).dn nq)
        have HKw : Hid (Keeps [112, 29] w ((w.drewN (1 + n0)).drewN nq)) := Lib.hid ⟨Nat.le_refl _, fun _ _ _ _ => rfl⟩
        have HK2 : Hid (KepAt ((w.drewN (1 + n0)).drewN nq) (Nw ((w.drewN (1 + n0)).drewN nq) base [29, 3]) k A B (some ⟨ge, 0, none⟩)) := Lib.hid (HK.out.keeps (ts := []) (w' := ((w.drewN (1 + n0)).drewN nq)) ⟨Nat.le_refl _, fun _ _ _ _ => rfl⟩ (by simp) (by simp)).at_
        have HB2 : Hid (Blk ((w.drewN (1 + n0)).drewN nq) g 112 [.int .i64 k.term, .int .i64 k.vote, .int .i64 k.snp.idx, .int .i64 k.snp.term, .slice A k.snp.v.length c, .slice B k.snp.l.length d, .string (text k.snp.b), .slice (some ⟨ge, 0, none⟩) k.ents.length n, .int .i64 r.kind, .int .i64 r.term, .int .i64 r.vote, .int .i64 r.ent.idx, .int .i64 r.ent.term, .int .i64 r.ent.kind, .slice A1 r.ent.v.length c1, .slice B1 r.ent.l.length d1, .string (text r.ent.b), .int .i64 r.at_, .int .i64 r.snp.idx, .int .i64 r.snp.term, .slice A2 r.snp.v.length c2, .slice B2 r.snp.l.length d2, .string (text r.snp.b)]) := Lib.hid HB.out
        clear HB HK
        generalize ((w.drewN (1 + n0)).drewN nq) = W at *
        have b7 : W.cell? ⟨g, 7, none⟩ = some (.slice (some ⟨ge, 0, none⟩) k.ents.length n) := HB2.out.cell 7
        have b18 : W.cell? ⟨g, 18, none⟩ = some (.int .i64 r.snp.idx) := HB2.out.cell 18
        have b19 : W.cell? ⟨g, 19, none⟩ = some (.int .i64 r.snp.term) := HB2.out.cell 19
        have b20 : W.cell? ⟨g, 20, none⟩ = some (.slice A2 r.snp.v.length c2) := HB2.out.cell 20
        have b21 : W.cell? ⟨g, 21, none⟩ = some (.slice B2 r.snp.l.length d2) := HB2.out.cell 21
        have b22 : W.cell? ⟨g, 22, none⟩ = some (.string (text r.snp.b)) := HB2.out.cell 22
        have p7 : W.frozen? ⟨g, 7, none⟩ = false := HB2.out.frozen 7
        go_wp2_with fail
        clear p7 b7 b18 b19 b20 b21 b22
        have HBk : Hid (Blk (W.setCell ⟨g, 7, none⟩ (.slice none 0 0)) g 112 [.int .i64 k.term, .int .i64 k.vote, .int .i64 k.snp.idx, .int .i64 k.snp.term, .slice A k.snp.v.length c, .slice B k.snp.l.length d, .string (text k.snp.b), .slice none 0 0, .int .i64 r.kind, .int .i64 r.term, .int .i64 r.vote, .int .i64 r.ent.idx, .int .i64 r.ent.term, .int .i64 r.ent.kind, .slice A1 r.ent.v.length c1, .slice B1 r.ent.l.length d1, .string (text r.ent.b), .int .i64 r.at_, .int .i64 r.snp.idx, .int .i64 r.snp.term, .slice A2 r.snp.v.length c2, .slice B2 r.snp.l.length d2, .string (text r.snp.b)]) := Lib.hid (by have := HB2.out.set_ 7 (.slice none 0 0); simpa using this)
        have HBb : Hid (Below base w (W.setCell ⟨g, 7, none⟩ (.slice none 0 0))) := Lib.hid (HBw.out.setCell hbg _)
        have KF : Hid (Keeps [112] W (W.setCell ⟨g, 7, none⟩ (.slice none 0 0))) := Lib.hid (Keeps.set_ HB2.out.typ (by simp) _)
        have HE : Hid (RowsAt (W.setCell ⟨g, 7, none⟩ (.slice none 0 0)) (Nw (W.setCell ⟨g, 7, none⟩ (.slice none 0 0)) base [29, 3]) shEntry ((([] : List Ent)).map Ent.da) (none)) := Lib.hid (RowsAt.nil)
        have HKx : Hid (Keeps [112, 29] w (W.setCell ⟨g, 7, none⟩ (.slice none 0 0))) := Lib.hid (HKw.out.trans (KF.out.more (by simp)))
        clear HB2 HBw KF HK2 HKw
        generalize W.setCell ⟨g, 7, none⟩ (.slice none 0 0) = V at *
        refine (ownSnap_any r.snp A2 c2 B2 d2 _ ((HV.out.below HBb.out).more (by have := HBb.out.size; have := HBk.out.lt; omega)) ((HL.out.below HBb.out).more (by have := HBb.out.size; have := HBk.out.lt; omega)) (by have := HS.out.v; omega) (by have := HS.out.l; omega)).mono ?_
        rintro e w3 ⟨A4, c4, B4, d4, rfl, hr3, hr4, hbl⟩
        unfold Snp.cs
        have q7 := HBk.out.lt
        have R0 := Lib.hid (HBk.out.below hbl q7)
        have HB3 := Lib.hid (HBb.out.trans (hbl.mono (by omega)))
        have HE3 := Lib.hid (HE.out.nw_below hbl)
        have HR3 := Lib.hid (hr3.nw_mono (base' := base) (by omega) fun _ h => h)
        have HR4 := Lib.hid (hr4.nw_mono (base' := base) (by omega) fun _ h => h)
        have HK3 : Hid (Keeps [112, 29] w w3) := Lib.hid (HKx.out.trans (Keeps.of_below hbl (Nat.le_refl _)))
        clear hr3 hr4 hbl HBk HBb HE HKx
        have b2 : w3.cell? ⟨g, 2, none⟩ = some (.int .i64 k.snp.idx) := R0.out.cell 2
        have b3 : w3.cell? ⟨g, 3, none⟩ = some (.int .i64 k.snp.term) := R0.out.cell 3
        have b4 : w3.cell? ⟨g, 4, none⟩ = some (.slice A k.snp.v.length c) := R0.out.cell 4
        have b5 : w3.cell? ⟨g, 5, none⟩ = some (.slice B k.snp.l.length d) := R0.out.cell 5
        have b6 : w3.cell? ⟨g, 6, none⟩ = some (.string (text k.snp.b)) := R0.out.cell 6
        have f2 : w3.frozen? ⟨g, 2, none⟩ = false := R0.out.frozen 2
        have f3 : w3.frozen? ⟨g, 3, none⟩ = false := R0.out.frozen 3
        have f4 : w3.frozen? ⟨g, 4, none⟩ = false := R0.out.frozen 4
        have f5 : w3.frozen? ⟨g, 5, none⟩ = false := R0.out.frozen 5
        have f6 : w3.frozen? ⟨g, 6, none⟩ = false := R0.out.frozen 6
        go_wp2
        go_end0
        have KZ : Keeps [112] w3 (((((w3.setCell ⟨g, 2, none⟩ (.int .i64 r.snp.idx)).setCell ⟨g, 3, none⟩ (.int .i64 r.snp.term)).setCell ⟨g, 4, none⟩ (.slice A4 r.snp.v.length c4)).setCell ⟨g, 5, none⟩ (.slice B4 r.snp.l.length d4)).setCell ⟨g, 6, none⟩ (.string (text r.snp.b))) := (by repeat (first | with_reducible exact Keeps.refl _ _ | (with_reducible refine Keeps.step1 ?_ (by repeat (first | with_reducible exact Blk.typ R0.out | with_reducible refine TypeAt.setCell ?_ _ _)))))
        refine FoldEnd.good { k with snp := r.snp, ents := ([] : List Ent) } A4 c4 B4 d4 (none) (0) HF.out rfl ?_ ⟨?_, ?_, ?_⟩ ?_ (HK3.out.trans (KZ.more (by simp)))
        · have := R0.out.set_ 2 (.int .i64 r.snp.idx) |>.set_ 3 (.int .i64 r.snp.term) |>.set_ 4 (.slice A4 r.snp.v.length c4) |>.set_ 5 (.slice B4 r.snp.l.length d4) |>.set_ 6 (.string (text r.snp.b))
          unfold foldCs
          simpa using this
        · exact (HR3.out.nw_keeps KZ (by decide)).nw_mono (Nat.le_refl _) (by simp)
        · exact (HR4.out.nw_keeps KZ (by decide)).nw_mono (Nat.le_refl _) (by simp)
        · exact HE3.out.nw_keeps KZ (by decide)
        · exact (by repeat (first | with_reducible exact HB3.out | (with_reducible refine Below.setCell ?_ (by dsimp only; (first | omega | (simp; done) | (simp; omega))) _) | (with_reducible refine Below.alloc ?_ (by (first | omega | (simp; done) | (simp; omega))) _) | with_reducible refine Below.drew ?_))
    · have HF := Lib.hid (folded_snap_out (k := k) H1.out HT.out HQ.out (.inl hl))
      have t : decide ((q : Int) < (k.ents.length : Int)) = false := decide_eq_false (by omega)
      have t' : decide (q < k.ents.length) = false := decide_eq_false hl
      clear hl
      go_wp2_with fail
      go_quiet (fail)
      clear t t' a2 a7 a18 a19
      have HBw : Hid (Below base w ((w.drew.drewN n0).drewN nq)) := Lib.hid (((Below.refl base w).drew.dn n0).dn nq)
      have HKw : Hid (Keeps [112, 29] w ((w.drew.drewN n0).drewN nq)) := Lib.hid ⟨Nat.le_refl _, fun _ _ _ _ => rfl⟩
      have HK2 : Hid (KepAt ((w.drew.drewN n0).drewN nq) (Nw ((w.drew.drewN n0).drewN nq) base [29, 3]) k A B E) := Lib.hid (HK.out.keeps (ts := []) (w' := ((w.drew.drewN n0).drewN nq)) ⟨Nat.le_refl _, fun _ _ _ _ => rfl⟩ (by simp) (by simp)).at_
      have HB2 : Hid (Blk ((w.drew.drewN n0).drewN nq) g 112 [.int .i64 k.term, .int .i64 k.vote, .int .i64 k.snp.idx, .int .i64 k.snp.term, .slice A k.snp.v.length c, .slice B k.snp.l.length d, .string (text k.snp.b), .slice E k.ents.length n, .int .i64 r.kind, .int .i64 r.term, .int .i64 r.vote, .int .i64 r.ent.idx, .int .i64 r.ent.term, .int .i64 r.ent.kind, .slice A1 r.ent.v.length c1, .slice B1 r.ent.l.length d1, .string (text r.ent.b), .int .i64 r.at_, .int .i64 r.snp.idx, .int .i64 r.snp.term, .slice A2 r.snp.v.length c2, .slice B2 r.snp.l.length d2, .string (text r.snp.b)]) := Lib.hid HB.out
      clear HB HK
      generalize ((w.drew.drewN n0).drewN nq) = W at *
      have b7 : W.cell? ⟨g, 7, none⟩ = some (.slice E k.ents.length n) := HB2.out.cell 7
      have b18 : W.cell? ⟨g, 18, none⟩ = some (.int .i64 r.snp.idx) := HB2.out.cell 18
      have b19 : W.cell? ⟨g, 19, none⟩ = some (.int .i64 r.snp.term) := HB2.out.cell 19
      have b20 : W.cell? ⟨g, 20, none⟩ = some (.slice A2 r.snp.v.length c2) := HB2.out.cell 20
      have b21 : W.cell? ⟨g, 21, none⟩ = some (.slice B2 r.snp.l.length d2) := HB2.out.cell 21
      have b22 : W.cell? ⟨g, 22, none⟩ = some (.string (text r.snp.b)) := HB2.out.cell 22
      have p7 : W.frozen? ⟨g, 7, none⟩ = false := HB2.out.frozen 7
      go_wp2_with fail
      clear p7 b7 b18 b19 b20 b21 b22
      have HBk : Hid (Blk (W.setCell ⟨g, 7, none⟩ (.slice none 0 0)) g 112 [.int .i64 k.term, .int .i64 k.vote, .int .i64 k.snp.idx, .int .i64 k.snp.term, .slice A k.snp.v.length c, .slice B k.snp.l.length d, .string (text k.snp.b), .slice none 0 0, .int .i64 r.kind, .int .i64 r.term, .int .i64 r.vote, .int .i64 r.ent.idx, .int .i64 r.ent.term, .int .i64 r.ent.kind, .slice A1 r.ent.v.length c1, .slice B1 r.ent.l.length d1, .string (text r.ent.b), .int .i64 r.at_, .int .i64 r.snp.idx, .int .i64 r.snp.term, .slice A2 r.snp.v.length c2, .slice B2 r.snp.l.length d2, .string (text r.snp.b)]) := Lib.hid (by have := HB2.out.set_ 7 (.slice none 0 0); simpa using this)
      have HBb : Hid (Below base w (W.setCell ⟨g, 7, none⟩ (.slice none 0 0))) := Lib.hid (HBw.out.setCell hbg _)
      have KF : Hid (Keeps [112] W (W.setCell ⟨g, 7, none⟩ (.slice none 0 0))) := Lib.hid (Keeps.set_ HB2.out.typ (by simp) _)
      have HE : Hid (RowsAt (W.setCell ⟨g, 7, none⟩ (.slice none 0 0)) (Nw (W.setCell ⟨g, 7, none⟩ (.slice none 0 0)) base [29, 3]) shEntry ((([] : List Ent)).map Ent.da) (none)) := Lib.hid (RowsAt.nil)
      have HKx : Hid (Keeps [112, 29] w (W.setCell ⟨g, 7, none⟩ (.slice none 0 0))) := Lib.hid (HKw.out.trans (KF.out.more (by simp)))
      clear HB2 HBw KF HK2 HKw
      generalize W.setCell ⟨g, 7, none⟩ (.slice none 0 0) = V at *
      refine (ownSnap_any r.snp A2 c2 B2 d2 _ ((HV.out.below HBb.out).more (by have := HBb.out.size; have := HBk.out.lt; omega)) ((HL.out.below HBb.out).more (by have := HBb.out.size; have := HBk.out.lt; omega)) (by have := HS.out.v; omega) (by have := HS.out.l; omega)).mono ?_
      rintro e w3 ⟨A4, c4, B4, d4, rfl, hr3, hr4, hbl⟩
      unfold Snp.cs
      have q7 := HBk.out.lt
      have R0 := Lib.hid (HBk.out.below hbl q7)
      have HB3 := Lib.hid (HBb.out.trans (hbl.mono (by omega)))
      have HE3 := Lib.hid (HE.out.nw_below hbl)
      have HR3 := Lib.hid (hr3.nw_mono (base' := base) (by omega) fun _ h => h)
      have HR4 := Lib.hid (hr4.nw_mono (base' := base) (by omega) fun _ h => h)
      have HK3 : Hid (Keeps [112, 29] w w3) := Lib.hid (HKx.out.trans (Keeps.of_below hbl (Nat.le_refl _)))
      clear hr3 hr4 hbl HBk HBb HE HKx
      have b2 : w3.cell? ⟨g, 2, none⟩ = some (.int .i64 k.snp.idx) := R0.out.cell 2
      have b3 : w3.cell? ⟨g, 3, none⟩ = some (.int .i64 k.snp.term) := R0.out.cell 3
      have b4 : w3.cell? ⟨g, 4, none⟩ = some (.slice A k.snp.v.length c) := R0.out.cell 4
      have b5 : w3.cell? ⟨g, 5, none⟩ = some (.slice B k.snp.l.length d) := R0.out.cell 5
      have b6 : w3.cell? ⟨g, 6, none⟩ = some (.string (text k.snp.b)) := R0.out.cell 6
      have f2 : w3.frozen? ⟨g, 2, none⟩ = false := R0.out.frozen 2
      have f3 : w3.frozen? ⟨g, 3, none⟩ = false := R0.out.frozen 3
      have f4 : w3.frozen? ⟨g, 4, none⟩ = false := R0.out.frozen 4
      have f5 : w3.frozen? ⟨g, 5, none⟩ = false := R0.out.frozen 5
      have f6 : w3.frozen? ⟨g, 6, none⟩ = false := R0.out.frozen 6
      go_wp2
      go_end0
      have KZ : Keeps [112] w3 (((((w3.setCell ⟨g, 2, none⟩ (.int .i64 r.snp.idx)).setCell ⟨g, 3, none⟩ (.int .i64 r.snp.term)).setCell ⟨g, 4, none⟩ (.slice A4 r.snp.v.length c4)).setCell ⟨g, 5, none⟩ (.slice B4 r.snp.l.length d4)).setCell ⟨g, 6, none⟩ (.string (text r.snp.b))) := (by repeat (first | with_reducible exact Keeps.refl _ _ | (with_reducible refine Keeps.step1 ?_ (by repeat (first | with_reducible exact Blk.typ R0.out | with_reducible refine TypeAt.setCell ?_ _ _)))))
      refine FoldEnd.good { k with snp := r.snp, ents := ([] : List Ent) } A4 c4 B4 d4 (none) (0) HF.out rfl ?_ ⟨?_, ?_, ?_⟩ ?_ (HK3.out.trans (KZ.more (by simp)))
      · have := R0.out.set_ 2 (.int .i64 r.snp.idx) |>.set_ 3 (.int .i64 r.snp.term) |>.set_ 4 (.slice A4 r.snp.v.length c4) |>.set_ 5 (.slice B4 r.snp.l.length d4) |>.set_ 6 (.string (text r.snp.b))
        unfold foldCs
        simpa using this
      · exact (HR3.out.nw_keeps KZ (by decide)).nw_mono (Nat.le_refl _) (by simp)
      · exact (HR4.out.nw_keeps KZ (by decide)).nw_mono (Nat.le_refl _) (by simp)
      · exact HE3.out.nw_keeps KZ (by decide)
      · exact (by repeat (first | with_reducible exact HB3.out | (with_reducible refine Below.setCell ?_ (by dsimp only; (first | omega | (simp; done) | (simp; omega))) _) | (with_reducible refine Below.alloc ?_ (by (first | omega | (simp; done) | (simp; omega))) _) | with_reducible refine Below.drew ?_))
end Go.Proofs.YtkdmfjpfanmgmaaGreatDoor
namespace Go.Proofs.YtkdmfjpfanmgmaaGreatDoor
open Go.RowKit Le
set_option maxRecDepth 100000
set_option linter.unusedSimpArgs false
set_option linter.unusedVariables false
theorem sfault_is (E : Nat) (w : World) : (Instr.typeAssert (.iface 82 (.agg #[.int .i64 E])) 20 82 false).run Tryz.prog w = .ok (.agg #[.int .i64 E]) w := by kernel_rfl
theorem sfault_field (E : Nat) (w : World) : (Instr.field 82 (.agg #[.int .i64 E]) 0).run Tryz.prog w = .ok (.int .i64 E) w := by kernel_rfl
set_option maxHeartbeats 800000 in
theorem scaught_idle (p : Addr) (w : World) :
    CallsD Tryz.prog 14 #[.pointer (some p)] .returning w fun e u' w' => e = .returned (.tuple #[]) ∧ u' = .returning ∧ w' = w := by
  refine callsD_of_wpS Tryz.func14 rfl fun c₀ cs hu => ?_
  apply wpS_seq
  apply wpS_region
  simp [wpOpsS, go_sem, recoverD, hu, Tryz.ntmps14, Exit.thenS]
  apply wpS_seq
  apply wpS_region
  simp [wpOpsS, go_sem, recoverD, hu, Tryz.ntmps14, Exit.thenS]
  refine wpS_cond (t := false) (by simp [Act.eval, Array.replicate]) ?_
  simp only [Bool.false_eq_true, if_false]
  refine wpS_of_wp (wp_skip ?_)
  cases c₀
  simp_all [bodyPostS, results]
set_option maxHeartbeats 800000 in
theorem scaught_hit (p : Addr) (E : Nat) (x : Int) (older : List PanicEntry) (w : World) (hc : w.cell? p = some (.int .i64 x)) (hz : w.frozen? p = false) :
    CallsD Tryz.prog 14 #[.pointer (some p)] (.panicking ({ v := .iface 82 (.agg #[.int .i64 E]), recovered := false } :: older)) w fun e u' w' =>
      e = .returned (.tuple #[]) ∧ u' = .panicking ({ v := .iface 82 (.agg #[.int .i64 E]), recovered := true } :: older) ∧ w' = w.setCell p (.int .i64 E) := by
  refine callsD_of_wpS Tryz.func14 rfl fun c₀ cs hu => ?_
  apply wpS_seq
  apply wpS_region
  simp [wpOpsS, go_sem, recoverD, hu, Tryz.ntmps14, Exit.thenS]
  apply wpS_seq
  apply wpS_region
  simp [wpOpsS, go_sem, recoverD, hu, Tryz.ntmps14, Exit.thenS]
  refine wpS_cond (t := true) (by simp [Act.eval, Array.replicate]) ?_
  simp only [if_true]
  refine wpS_of_wp ?_
  have hta := sfault_is E
  have htf := sfault_field E
  clear hu
  go_wp2
  simp [bodyPostS, results]
set_option maxHeartbeats 800000 in
theorem foldedD_ok (p q : Addr) (u : FrameMode) (w : World) (hc : w.cell? p = some (.int .i64 0)) :
    CallsD Tryz.prog 48 #[.pointer (some p), .pointer (some q)] u w fun e u' w' => u' = u ∧ (e = .returned (.tuple #[]) ∧ w' = w) := by
  go_enter_d Tryz.func48, Tryz.ntmps48
  go_wp2
  go_end0
  exact ⟨rfl, rfl⟩
set_option maxHeartbeats 1600000 in
theorem foldedD_bad (p : Addr) (g : Nat) (u : FrameMode) (w : World) (E : Nat) (v0 v1 v2 v3 v4 v5 v6 v7 : Value) (h0 : E ≠ 0) (hp : p.block ≠ g) (hc : w.cell? p = some (.int .i64 E)) (hB : Blk w g 38 [v0, v1, v2, v3, v4, v5, v6, v7]) :
    CallsD Tryz.prog 48 #[.pointer (some p), .pointer (some ⟨g, 0, none⟩)] u w fun e u' w' => u' = u ∧ (e = .returned (.tuple #[]) ∧ Blk w' g 38 (Kep.zero.cs none 0 none 0 none 0) ∧ Below g w w' ∧ w'.cell? p = some (.int .i64 E)) := by
  have t1 : ((E : Int) == 0) = false := by simpa using h0
  have t2 : ((E : Int) != 0) = true := by simpa using h0
  have HB := Lib.hid hB
  clear hB
  have a0 : w.cell? ⟨g, 0, none⟩ = some v0 := HB.out.cell 0
  have a1 : w.cell? ⟨g, 1, none⟩ = some v1 := HB.out.cell 1
  have a2 : w.cell? ⟨g, 2, none⟩ = some v2 := HB.out.cell 2
  have a3 : w.cell? ⟨g, 3, none⟩ = some v3 := HB.out.cell 3
  have a4 : w.cell? ⟨g, 4, none⟩ = some v4 := HB.out.cell 4
  have a5 : w.cell? ⟨g, 5, none⟩ = some v5 := HB.out.cell 5
  have a6 : w.cell? ⟨g, 6, none⟩ = some v6 := HB.out.cell 6
  have a7 : w.cell? ⟨g, 7, none⟩ = some v7 := HB.out.cell 7
  have p0 : w.frozen? ⟨g, 0, none⟩ = false := HB.out.frozen 0
  have p1 : w.frozen? ⟨g, 1, none⟩ = false := HB.out.frozen 1
  have p2 : w.frozen? ⟨g, 2, none⟩ = false := HB.out.frozen 2
  have p3 : w.frozen? ⟨g, 3, none⟩ = false := HB.out.frozen 3
  have p4 : w.frozen? ⟨g, 4, none⟩ = false := HB.out.frozen 4
  have p5 : w.frozen? ⟨g, 5, none⟩ = false := HB.out.frozen 5
  have p6 : w.frozen? ⟨g, 6, none⟩ = false := HB.out.frozen 6
  have p7 : w.frozen? ⟨g, 7, none⟩ = false := HB.out.frozen 7
  go_enter_d Tryz.func48, Tryz.ntmps48
  go_wp2
  go_end0
  refine ⟨rfl, ?_, (by repeat (first | with_reducible exact (Below.refl g w) | (with_reducible refine Below.setCell ?_ (by dsimp only; (first | omega | (simp; done) | (simp; omega))) _) | (with_reducible refine Below.alloc ?_ (by (first | omega | (simp; done) | (simp; omega))) _) | with_reducible refine Below.drew ?_)), ?_⟩
  rotate_left
  · have hne : ∀ i, p ≠ ⟨g, i, none⟩ := fun i h => hp (by rw [h])
    have hne' : ∀ i, (⟨g, i, none⟩ : Addr) ≠ p := fun i h => hp (by rw [← h])
    repeat (first | rw [World.cell?_setCell_other _ _ _ _ (hne _)] | rw [World.cell?_setCell_other _ _ _ _ (hne' _)])
    exact hc
  have := HB.out.set_ 0 (.int .i64 0) |>.set_ 1 (.int .i64 0) |>.set_ 2 (.int .i64 0) |>.set_ 3 (.int .i64 0) |>.set_ 4 (.slice none 0 0) |>.set_ 5 (.slice none 0 0) |>.set_ 6 (.string (text [])) |>.set_ 7 (.slice none 0 0)
  have h0 : text [] = ⟨#[]⟩ := rfl
  simp only [Kep.cs, Kep.zero, Snp.zero]
  simpa [h0] using this
end Go.Proofs.YtkdmfjpfanmgmaaGreatDoor
