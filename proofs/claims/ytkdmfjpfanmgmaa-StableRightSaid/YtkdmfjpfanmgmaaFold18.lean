/- The walk of stable's cut. Printed by mkfold18.py. -/
import Derived.Test.YtkdmfjpfanmgmaaFold16
import Derived.Deep.RegionLaw
namespace Go.Proofs.Ytkdmfjpfanmgmaa
open Go.RowKit Le
set_option maxRecDepth 100000
set_option linter.unusedSimpArgs false
set_option linter.unusedVariables false

theorem folded_cut_no {k : Kep} {r : Rcd} (h : r.kind = 3) (ht : r.at_ ≤ k.snp.idx ∨ k.last < r.at_) : foldedP k r = (.zero, 140) := by
  unfold foldedP; rw [if_neg (by omega), if_neg (by omega), if_pos h, if_pos ht]
theorem folded_cut_ok {k : Kep} {r : Rcd} (h : r.kind = 3) (ht : ¬ (r.at_ ≤ k.snp.idx ∨ k.last < r.at_)) : foldedP k r = ({ k with ents := k.ents.take (r.at_ - k.snp.idx - 1).toNat }, 0) := by
  unfold foldedP; rw [if_neg (by omega), if_neg (by omega), if_pos h, if_neg ht]
theorem RowsAt.take {w : World} {S : Nat → Prop} {l : List Sh} {ds : List (List Da)} {A : Option Addr} (h : RowsAt w S l ds A) (q : Nat) : RowsAt w S l (ds.take q) A := fun hn => by
  obtain ⟨ad, e, hS, h⟩ := h (by rw [List.length_take] at hn; omega)
  refine ⟨ad, e, hS, fun j d hj => ?_⟩
  rw [List.getElem?_take] at hj
  split at hj
  · exact h j d hj
  · cases hj

set_option maxHeartbeats 3200000 in
theorem cut_any (k : Kep) (r : Rcd) (A : Option Addr) (c : Nat) (B : Option Addr) (d : Nat) (E : Option Addr) (n : Nat) (A1 : Option Addr) (c1 : Nat) (B1 : Option Addr) (d1 : Nat) (A2 : Option Addr) (c2 : Nat) (B2 : Option Addr) (d2 : Nat) (base g : Nat) (w : World) (hB : Blk w g 66 (foldCs k r A c B d E n A1 c1 B1 d1 A2 c2 B2 d2)) (hK : KepOwn w base k A B E n) (hbg : base ≤ g) (h1 : r.kind = 3) (hk : OkK k) (hat : okN r.at_) :
    Calls Try.prog 37 #[.pointer (some ⟨g, 0, none⟩)] w (FoldEnd w base g k r A1 c1 B1 d1 A2 c2 B2 d2) := by
  have HB := Lib.hid hB
  have HO := Lib.hid hk
  have HK := Lib.hid hK
  have H1 := Lib.hid h1
  have q1 := okN_i hk.idx
  have q2 := hk.len
  have q3 := hB.lt
  have q4 := okN_i hat
  clear hB hK h1 hk hat
  by_cases ht : k.snp.idx < r.at_
  · have t1 : decide (k.snp.idx < r.at_) = true := decide_eq_true ht
    by_cases ht2 : r.at_ ≤ k.snp.idx + (k.ents.length : Int)
    · have t2 : decide (r.at_ ≤ k.snp.idx + (k.ents.length : Int)) = true := decide_eq_true ht2
      have HF := Lib.hid (folded_cut_ok (k := k) H1.out (by unfold Kep.last; omega))
      obtain ⟨q, hq⟩ : ∃ q : Nat, r.at_ - k.snp.idx - 1 = (q : Int) := ⟨(r.at_ - k.snp.idx - 1).toNat, by omega⟩
      have hq2 : q < k.ents.length := by omega
      rw [hq, Int.toNat_natCast] at HF
      obtain ⟨xs, ho, hth⟩ := HK.out.e
      have hcap := own_cap ho
      obtain ⟨ge, cap, hv, _, hlt⟩ := ho.form (by omega)
      have hE : E = some ⟨ge, 0, none⟩ := by injection hv
      subst hE
      clear ho hth hv
      have HQ := Lib.hid hq
      have HTL : Hid ((k.ents.take q).length = q) := Lib.hid (by rw [List.length_take]; omega)
      go_enter Try.func37, Try.ntmps37
      go_wp2_with fail
      refine wp_region_held_drew (S := fun w' => w'.cell? ⟨g, 2, none⟩ = some (.int .i64 k.snp.idx) ∧ w'.cell? ⟨g, 7, none⟩ = some (.slice (some ⟨ge, 0, none⟩) k.ents.length n) ∧ w'.cell? ⟨g, 17, none⟩ = some (.int .i64 r.at_)) (by kernel_rfl) ⟨HB.out.cell 2, HB.out.cell 7, HB.out.cell 17⟩ (fun HD => ?_)
      refine wpAnyH_take (i := 0) (oi := ⟨some 2, _, _, _, _, _⟩) (v := ?_) rfl (by kernel_rfl) (by kernel_rfl) (by kernel_rfl) (fun _ _ _ h => h) (Or.inl ⟨by rfl, ?_⟩) HD ?_
      rotate_left
      · intro w hSw
        (try dsimp only at hSw)
        go_simp <;> with_reducible rfl
      (try simp only [Act.put, List.setIfInBounds_toArray, List.set_cons_zero, List.set_cons_succ])
      refine wpAnyH_take (i := 1) (oi := ⟨some 3, _, _, _, _, _⟩) (v := ?_) rfl (by kernel_rfl) (by kernel_rfl) (by kernel_rfl) (fun _ _ _ h => h) (Or.inl ⟨by rfl, ?_⟩) HD ?_
      rotate_left
      · intro w hSw
        (try dsimp only at hSw)
        go_simp <;> with_reducible rfl
      (try simp only [Act.put, List.setIfInBounds_toArray, List.set_cons_zero, List.set_cons_succ])
      refine wpAnyH_take (i := 2) (oi := ⟨some 4, _, _, _, _, _⟩) (v := ?_) rfl (by kernel_rfl) (by kernel_rfl) (by kernel_rfl) (fun _ _ _ h => h) (Or.inl ⟨by rfl, ?_⟩) HD ?_
      rotate_left
      · intro w hSw
        (try dsimp only at hSw)
        go_simp <;> with_reducible rfl
      (try simp only [Act.put, List.setIfInBounds_toArray, List.set_cons_zero, List.set_cons_succ])
      refine wpAnyH_take (i := 3) (oi := ⟨some 5, _, _, _, _, _⟩) (v := ?_) rfl (by kernel_rfl) (by kernel_rfl) (by kernel_rfl) (fun _ _ _ h => h) (Or.inl ⟨by rfl, ?_⟩) HD ?_
      rotate_left
      · intro w hSw
        (try dsimp only at hSw)
        go_simp <;> with_reducible rfl
      (try simp only [Act.put, List.setIfInBounds_toArray, List.set_cons_zero, List.set_cons_succ])
      refine wpAnyH_take (i := 4) (oi := ⟨some 6, _, _, _, _, _⟩) (v := ?_) rfl (by kernel_rfl) (by kernel_rfl) (by kernel_rfl) (fun _ _ _ h => h) (Or.inl ⟨by rfl, ?_⟩) HD ?_
      rotate_left
      · intro w hSw
        (try dsimp only at hSw)
        go_simp <;> with_reducible rfl
      (try simp only [Act.put, List.setIfInBounds_toArray, List.set_cons_zero, List.set_cons_succ])
      refine wpAnyH_take (i := 5) (oi := ⟨some 7, _, _, _, _, _⟩) (v := ?_) rfl (by kernel_rfl) (by kernel_rfl) (by kernel_rfl) (fun _ _ _ h => h) (Or.inl ⟨by rfl, ?_⟩) HD ?_
      rotate_left
      · intro w hSw
        (try dsimp only at hSw)
        go_simp <;> with_reducible rfl
      (try simp only [Act.put, List.setIfInBounds_toArray, List.set_cons_zero, List.set_cons_succ])
      refine wpAnyH_take (i := 6) (oi := ⟨some 8, _, _, _, _, _⟩) (v := ?_) rfl (by kernel_rfl) (by kernel_rfl) (by kernel_rfl) (fun _ _ _ h => h) (Or.inl ⟨by rfl, ?_⟩) HD ?_
      rotate_left
      · intro w hSw
        (try dsimp only at hSw)
        go_simp <;> with_reducible rfl
      (try simp only [Act.put, List.setIfInBounds_toArray, List.set_cons_zero, List.set_cons_succ])
      refine wpAnyH_take (i := 7) (oi := ⟨some 9, _, _, _, _, _⟩) (v := ?_) rfl (by kernel_rfl) (by kernel_rfl) (by kernel_rfl) (fun _ _ _ h => h) (Or.inl ⟨by rfl, ?_⟩) HD ?_
      rotate_left
      · intro w hSw
        (try dsimp only at hSw)
        go_simp <;> with_reducible rfl
      (try simp only [Act.put, List.setIfInBounds_toArray, List.set_cons_zero, List.set_cons_succ])
      refine wpAnyH_take (i := 8) (oi := ⟨some 10, _, _, _, _, _⟩) (v := ?_) rfl (by kernel_rfl) (by kernel_rfl) (by kernel_rfl) (fun _ _ _ h => h) (Or.inl ⟨by rfl, ?_⟩) HD ?_
      rotate_left
      · intro w hSw
        (try dsimp only at hSw)
        go_simp <;> with_reducible rfl
      (try simp only [Act.put, List.setIfInBounds_toArray, List.set_cons_zero, List.set_cons_succ])
      refine wpAnyH_take (i := 9) (oi := ⟨some 11, _, _, _, _, _⟩) (v := ?_) rfl (by kernel_rfl) (by kernel_rfl) (by kernel_rfl) (fun _ _ _ h => h) (Or.inl ⟨by rfl, ?_⟩) HD ?_
      rotate_left
      · intro w hSw
        (try dsimp only at hSw)
        go_simp <;> with_reducible rfl
      (try simp only [Act.put, List.setIfInBounds_toArray, List.set_cons_zero, List.set_cons_succ])
      refine wpAnyH_take (i := 10) (oi := ⟨some 12, _, _, _, _, _⟩) (v := ?_) rfl (by kernel_rfl) (by kernel_rfl) (by kernel_rfl) (fun _ _ _ h => h) (Or.inl ⟨by rfl, ?_⟩) HD ?_
      rotate_left
      · intro w hSw
        (try dsimp only at hSw)
        go_simp <;> with_reducible rfl
      (try simp only [Act.put, List.setIfInBounds_toArray, List.set_cons_zero, List.set_cons_succ])
      refine wpAnyH_take (i := 11) (oi := ⟨some 13, _, _, _, _, _⟩) (v := ?_) rfl (by kernel_rfl) (by kernel_rfl) (by kernel_rfl) (fun _ _ _ h => h) (Or.inl ⟨by rfl, ?_⟩) HD ?_
      rotate_left
      · intro w hSw
        (try dsimp only at hSw)
        go_simp <;> with_reducible rfl
      (try simp only [Act.put, List.setIfInBounds_toArray, List.set_cons_zero, List.set_cons_succ])
      refine wpAnyH_take (i := 12) (oi := ⟨some 14, _, _, _, _, _⟩) (v := ?_) rfl (by kernel_rfl) (by kernel_rfl) (by kernel_rfl) (fun _ _ _ h => h) (Or.inl ⟨by rfl, ?_⟩) HD ?_
      rotate_left
      · intro w hSw
        (try dsimp only at hSw)
        go_simp <;> with_reducible rfl
      (try simp only [Act.put, List.setIfInBounds_toArray, List.set_cons_zero, List.set_cons_succ])
      refine wpAnyH_take (i := 13) (oi := ⟨some 15, _, _, _, _, _⟩) (v := ?_) rfl (by kernel_rfl) (by kernel_rfl) (by kernel_rfl) (fun _ _ _ h => h) (Or.inl ⟨by rfl, ?_⟩) HD ?_
      rotate_left
      · intro w hSw
        (try dsimp only at hSw)
        go_simp <;> with_reducible rfl
      (try simp only [Act.put, List.setIfInBounds_toArray, List.set_cons_zero, List.set_cons_succ])
      refine wpAnyH_take (i := 14) (oi := ⟨some 16, _, _, _, _, _⟩) (v := ?_) rfl (by kernel_rfl) (by kernel_rfl) (by kernel_rfl) (fun _ _ _ h => h) (Or.inl ⟨by rfl, ?_⟩) HD ?_
      rotate_left
      · intro w hSw
        (try dsimp only at hSw)
        go_simp <;> with_reducible rfl
      (try simp only [Act.put, List.setIfInBounds_toArray, List.set_cons_zero, List.set_cons_succ])
      refine wpAnyH_take (i := 15) (oi := ⟨some 17, _, _, _, _, _⟩) (v := ?_) rfl (by kernel_rfl) (by kernel_rfl) (by kernel_rfl) (fun _ _ _ h => h) (Or.inl ⟨by rfl, ?_⟩) HD ?_
      rotate_left
      · intro w hSw
        (try dsimp only at hSw)
        go_simp <;> with_reducible rfl
      (try simp only [Act.put, List.setIfInBounds_toArray, List.set_cons_zero, List.set_cons_succ])
      refine wpAnyH_take (i := 16) (oi := ⟨some 18, _, _, _, _, _⟩) (v := ?_) rfl (by kernel_rfl) (by kernel_rfl) (by kernel_rfl) (fun _ _ _ h => h) (Or.inl ⟨by rfl, ?_⟩) HD ?_
      rotate_left
      · intro w hSw
        (try dsimp only at hSw)
        go_simp <;> with_reducible rfl
      (try simp only [Act.put, List.setIfInBounds_toArray, List.set_cons_zero, List.set_cons_succ])
      refine wpAnyH_take (i := 17) (oi := ⟨some 19, _, _, _, _, _⟩) (v := ?_) rfl (by kernel_rfl) (by kernel_rfl) (by kernel_rfl) (fun _ _ _ h => h) (Or.inl ⟨by rfl, ?_⟩) HD ?_
      rotate_left
      · intro w hSw
        (try dsimp only at hSw)
        go_simp <;> with_reducible rfl
      (try simp only [Act.put, List.setIfInBounds_toArray, List.set_cons_zero, List.set_cons_succ])
      refine wpAnyH_take (i := 18) (oi := ⟨some 20, _, _, _, _, _⟩) (v := ?_) rfl (by kernel_rfl) (by kernel_rfl) (by kernel_rfl) (fun _ _ _ h => h) (Or.inl ⟨by rfl, ?_⟩) HD ?_
      rotate_left
      · intro w hSw
        (try dsimp only at hSw)
        go_simp <;> with_reducible rfl
      (try simp only [Act.put, List.setIfInBounds_toArray, List.set_cons_zero, List.set_cons_succ])
      refine wpAnyH_ready (rs := [19]) (by kernel_rfl) (by simp) ?_
      refine AllReadyH.cons (o := ⟨some 21, _, _, _, _, _⟩) rfl (fun K hK => ?_) AllReadyH.nil
      go_simp
      go_at_call 50
      refine (last_any k r A c B d (some ⟨ge, 0, none⟩) n A1 c1 B1 d1 A2 c2 B2 d2 g _ (by exact HB.out) HO.out).mono ?_
      rintro e w1 ⟨rfl, m, rfl⟩
      dsimp only
      refine hK.out _ _ HD (fun HD => ?_)
      clear hK K
      (try simp only [Act.put, List.setIfInBounds_toArray, List.set_cons_zero, List.set_cons_succ])
      refine wpAnyH_take (i := 20) (oi := ⟨some 22, _, _, _, _, _⟩) (v := ?_) rfl (by kernel_rfl) (by kernel_rfl) (by kernel_rfl) (fun _ _ _ h => h) (Or.inl ⟨by rfl, ?_⟩) HD ?_
      rotate_left
      · intro w hSw
        (try dsimp only at hSw)
        go_simp <;> with_reducible rfl
      (try simp only [Act.put, List.setIfInBounds_toArray, List.set_cons_zero, List.set_cons_succ])
      refine wpAnyH_take (i := 21) (oi := ⟨some 23, _, _, _, _, _⟩) (v := ?_) rfl (by kernel_rfl) (by kernel_rfl) (by kernel_rfl) (fun _ _ _ h => h) (Or.inl ⟨by rfl, ?_⟩) HD ?_
      rotate_left
      · intro w hSw
        (try dsimp only at hSw)
        go_simp <;> with_reducible rfl
      (try simp only [Act.put, List.setIfInBounds_toArray, List.set_cons_zero, List.set_cons_succ])
      refine wpAnyH_ready (rs := [22]) (by kernel_rfl) (by simp) ?_
      refine AllReadyH.cons (o := ⟨some 24, _, _, _, _, _⟩) rfl (fun K hK => ?_) AllReadyH.nil
      go_simp
      go_at_call 33
      refine (is_ok 140 _).mono ?_
      rintro e w1 ⟨rfl, rfl⟩
      dsimp only
      refine hK.out _ _ HD (fun HD => ?_)
      clear hK K
      (try simp only [Act.put, List.setIfInBounds_toArray, List.set_cons_zero, List.set_cons_succ])
      refine wpAnyH_done (by kernel_rfl) ?_ _
      clear t1 t2 HD
      have HBw : Hid (Below base w (w.drewN (1 + m))) := Lib.hid ((below_drewN w (1 + m)).mono (by omega))
      have HKw : Hid (Keeps [66, 34] w (w.drewN (1 + m))) := Lib.hid ⟨Nat.le_refl _, fun _ _ _ _ => rfl⟩
      have HK2 : Hid (KepAt (w.drewN (1 + m)) (Nw (w.drewN (1 + m)) base [34, 3]) k A B (some ⟨ge, 0, none⟩)) := Lib.hid (HK.out.keeps (ts := []) (w' := w.drewN (1 + m)) ⟨Nat.le_refl _, fun _ _ _ _ => rfl⟩ (by simp) (by simp)).at_
      have HB2 : Hid (Blk (w.drewN (1 + m)) g 66 [.int .i64 k.term, .int .i64 k.vote, .int .i64 k.snp.idx, .int .i64 k.snp.term, .slice A k.snp.v.length c, .slice B k.snp.l.length d, .string (text k.snp.b), .slice (some ⟨ge, 0, none⟩) k.ents.length n, .int .i64 r.kind, .int .i64 r.term, .int .i64 r.vote, .int .i64 r.ent.idx, .int .i64 r.ent.term, .int .i64 r.ent.kind, .slice A1 r.ent.v.length c1, .slice B1 r.ent.l.length d1, .string (text r.ent.b), .int .i64 r.at_, .int .i64 r.snp.idx, .int .i64 r.snp.term, .slice A2 r.snp.v.length c2, .slice B2 r.snp.l.length d2, .string (text r.snp.b)]) := Lib.hid HB.out
      clear HB HK
      generalize w.drewN (1 + m) = W at *
      have s1 : IntKind.i64.wrap (r.at_ - k.snp.idx) = r.at_ - k.snp.idx := IntWalk.i64_in _ (by omega)
      have s2 : IntKind.i64.wrap (r.at_ - k.snp.idx - 1) = (q : Int) := by rw [HQ.out]; exact IntWalk.i64_in _ (by omega)
      have b2 : W.cell? ⟨g, 2, none⟩ = some (.int .i64 k.snp.idx) := HB2.out.cell 2
      have b7 : W.cell? ⟨g, 7, none⟩ = some (.slice (some ⟨ge, 0, none⟩) k.ents.length n) := HB2.out.cell 7
      have b17 : W.cell? ⟨g, 17, none⟩ = some (.int .i64 r.at_) := HB2.out.cell 17
      have p7 : W.frozen? ⟨g, 7, none⟩ = false := HB2.out.frozen 7
      have u1 : (0 : Int) ≤ (q : Int) := Int.natCast_nonneg _
      have u2 : (q : Int) ≤ (n : Int) := by omega
      clear hq ht ht2
      go_wp2_with fail
      go_still_tail 23, (by kernel_rfl)
      clear s1 s2
      go_wp2
      go_end0
      have KF : Keeps [66] W (W.setCell ⟨g, 7, none⟩ (.slice (some ⟨ge, 0, none⟩) q n)).drew := (Keeps.set_ HB2.out.typ (by simp) _).trans (Keeps.drew _)
      refine FoldEnd.good { k with ents := k.ents.take q } A c B d (some ⟨ge, 0, none⟩) n HF.out rfl ?_ ⟨?_, ?_, ?_⟩ ?_ (HKw.out.trans (KF.more (by simp)))
      · have := (HB2.out.set_ 7 (.slice (some ⟨ge, 0, none⟩) q n)).drew
        unfold foldCs
        simp only [HTL.out]
        simpa using this
      · exact HK2.out.v.nw_keeps KF (by decide)
      · exact HK2.out.l.nw_keeps KF (by decide)
      · have h := (HK2.out.e.take q).nw_keeps KF (by decide)
        rwa [← List.map_take] at h
      · exact (HBw.out.setCell hbg _).drew
    · have t2 : decide (r.at_ ≤ k.snp.idx + (k.ents.length : Int)) = false := decide_eq_false ht2
      have HF := Lib.hid (folded_cut_no (k := k) H1.out (by unfold Kep.last; omega))
      go_enter Try.func37, Try.ntmps37
      go_wp2_with fail
      refine wp_region_held_drew (S := fun w' => w'.cell? ⟨g, 2, none⟩ = some (.int .i64 k.snp.idx) ∧ w'.cell? ⟨g, 7, none⟩ = some (.slice E k.ents.length n) ∧ w'.cell? ⟨g, 17, none⟩ = some (.int .i64 r.at_)) (by kernel_rfl) ⟨HB.out.cell 2, HB.out.cell 7, HB.out.cell 17⟩ (fun HD => ?_)
      refine wpAnyH_take (i := 0) (oi := ⟨some 2, _, _, _, _, _⟩) (v := ?_) rfl (by kernel_rfl) (by kernel_rfl) (by kernel_rfl) (fun _ _ _ h => h) (Or.inl ⟨by rfl, ?_⟩) HD ?_
      rotate_left
      · intro w hSw
        (try dsimp only at hSw)
        go_simp <;> with_reducible rfl
      (try simp only [Act.put, List.setIfInBounds_toArray, List.set_cons_zero, List.set_cons_succ])
      refine wpAnyH_take (i := 1) (oi := ⟨some 3, _, _, _, _, _⟩) (v := ?_) rfl (by kernel_rfl) (by kernel_rfl) (by kernel_rfl) (fun _ _ _ h => h) (Or.inl ⟨by rfl, ?_⟩) HD ?_
      rotate_left
      · intro w hSw
        (try dsimp only at hSw)
        go_simp <;> with_reducible rfl
      (try simp only [Act.put, List.setIfInBounds_toArray, List.set_cons_zero, List.set_cons_succ])
      refine wpAnyH_take (i := 2) (oi := ⟨some 4, _, _, _, _, _⟩) (v := ?_) rfl (by kernel_rfl) (by kernel_rfl) (by kernel_rfl) (fun _ _ _ h => h) (Or.inl ⟨by rfl, ?_⟩) HD ?_
      rotate_left
      · intro w hSw
        (try dsimp only at hSw)
        go_simp <;> with_reducible rfl
      (try simp only [Act.put, List.setIfInBounds_toArray, List.set_cons_zero, List.set_cons_succ])
      refine wpAnyH_take (i := 3) (oi := ⟨some 5, _, _, _, _, _⟩) (v := ?_) rfl (by kernel_rfl) (by kernel_rfl) (by kernel_rfl) (fun _ _ _ h => h) (Or.inl ⟨by rfl, ?_⟩) HD ?_
      rotate_left
      · intro w hSw
        (try dsimp only at hSw)
        go_simp <;> with_reducible rfl
      (try simp only [Act.put, List.setIfInBounds_toArray, List.set_cons_zero, List.set_cons_succ])
      refine wpAnyH_take (i := 4) (oi := ⟨some 6, _, _, _, _, _⟩) (v := ?_) rfl (by kernel_rfl) (by kernel_rfl) (by kernel_rfl) (fun _ _ _ h => h) (Or.inl ⟨by rfl, ?_⟩) HD ?_
      rotate_left
      · intro w hSw
        (try dsimp only at hSw)
        go_simp <;> with_reducible rfl
      (try simp only [Act.put, List.setIfInBounds_toArray, List.set_cons_zero, List.set_cons_succ])
      refine wpAnyH_take (i := 5) (oi := ⟨some 7, _, _, _, _, _⟩) (v := ?_) rfl (by kernel_rfl) (by kernel_rfl) (by kernel_rfl) (fun _ _ _ h => h) (Or.inl ⟨by rfl, ?_⟩) HD ?_
      rotate_left
      · intro w hSw
        (try dsimp only at hSw)
        go_simp <;> with_reducible rfl
      (try simp only [Act.put, List.setIfInBounds_toArray, List.set_cons_zero, List.set_cons_succ])
      refine wpAnyH_take (i := 6) (oi := ⟨some 8, _, _, _, _, _⟩) (v := ?_) rfl (by kernel_rfl) (by kernel_rfl) (by kernel_rfl) (fun _ _ _ h => h) (Or.inl ⟨by rfl, ?_⟩) HD ?_
      rotate_left
      · intro w hSw
        (try dsimp only at hSw)
        go_simp <;> with_reducible rfl
      (try simp only [Act.put, List.setIfInBounds_toArray, List.set_cons_zero, List.set_cons_succ])
      refine wpAnyH_take (i := 7) (oi := ⟨some 9, _, _, _, _, _⟩) (v := ?_) rfl (by kernel_rfl) (by kernel_rfl) (by kernel_rfl) (fun _ _ _ h => h) (Or.inl ⟨by rfl, ?_⟩) HD ?_
      rotate_left
      · intro w hSw
        (try dsimp only at hSw)
        go_simp <;> with_reducible rfl
      (try simp only [Act.put, List.setIfInBounds_toArray, List.set_cons_zero, List.set_cons_succ])
      refine wpAnyH_take (i := 8) (oi := ⟨some 10, _, _, _, _, _⟩) (v := ?_) rfl (by kernel_rfl) (by kernel_rfl) (by kernel_rfl) (fun _ _ _ h => h) (Or.inl ⟨by rfl, ?_⟩) HD ?_
      rotate_left
      · intro w hSw
        (try dsimp only at hSw)
        go_simp <;> with_reducible rfl
      (try simp only [Act.put, List.setIfInBounds_toArray, List.set_cons_zero, List.set_cons_succ])
      refine wpAnyH_take (i := 9) (oi := ⟨some 11, _, _, _, _, _⟩) (v := ?_) rfl (by kernel_rfl) (by kernel_rfl) (by kernel_rfl) (fun _ _ _ h => h) (Or.inl ⟨by rfl, ?_⟩) HD ?_
      rotate_left
      · intro w hSw
        (try dsimp only at hSw)
        go_simp <;> with_reducible rfl
      (try simp only [Act.put, List.setIfInBounds_toArray, List.set_cons_zero, List.set_cons_succ])
      refine wpAnyH_take (i := 10) (oi := ⟨some 12, _, _, _, _, _⟩) (v := ?_) rfl (by kernel_rfl) (by kernel_rfl) (by kernel_rfl) (fun _ _ _ h => h) (Or.inl ⟨by rfl, ?_⟩) HD ?_
      rotate_left
      · intro w hSw
        (try dsimp only at hSw)
        go_simp <;> with_reducible rfl
      (try simp only [Act.put, List.setIfInBounds_toArray, List.set_cons_zero, List.set_cons_succ])
      refine wpAnyH_take (i := 11) (oi := ⟨some 13, _, _, _, _, _⟩) (v := ?_) rfl (by kernel_rfl) (by kernel_rfl) (by kernel_rfl) (fun _ _ _ h => h) (Or.inl ⟨by rfl, ?_⟩) HD ?_
      rotate_left
      · intro w hSw
        (try dsimp only at hSw)
        go_simp <;> with_reducible rfl
      (try simp only [Act.put, List.setIfInBounds_toArray, List.set_cons_zero, List.set_cons_succ])
      refine wpAnyH_take (i := 12) (oi := ⟨some 14, _, _, _, _, _⟩) (v := ?_) rfl (by kernel_rfl) (by kernel_rfl) (by kernel_rfl) (fun _ _ _ h => h) (Or.inl ⟨by rfl, ?_⟩) HD ?_
      rotate_left
      · intro w hSw
        (try dsimp only at hSw)
        go_simp <;> with_reducible rfl
      (try simp only [Act.put, List.setIfInBounds_toArray, List.set_cons_zero, List.set_cons_succ])
      refine wpAnyH_take (i := 13) (oi := ⟨some 15, _, _, _, _, _⟩) (v := ?_) rfl (by kernel_rfl) (by kernel_rfl) (by kernel_rfl) (fun _ _ _ h => h) (Or.inl ⟨by rfl, ?_⟩) HD ?_
      rotate_left
      · intro w hSw
        (try dsimp only at hSw)
        go_simp <;> with_reducible rfl
      (try simp only [Act.put, List.setIfInBounds_toArray, List.set_cons_zero, List.set_cons_succ])
      refine wpAnyH_take (i := 14) (oi := ⟨some 16, _, _, _, _, _⟩) (v := ?_) rfl (by kernel_rfl) (by kernel_rfl) (by kernel_rfl) (fun _ _ _ h => h) (Or.inl ⟨by rfl, ?_⟩) HD ?_
      rotate_left
      · intro w hSw
        (try dsimp only at hSw)
        go_simp <;> with_reducible rfl
      (try simp only [Act.put, List.setIfInBounds_toArray, List.set_cons_zero, List.set_cons_succ])
      refine wpAnyH_take (i := 15) (oi := ⟨some 17, _, _, _, _, _⟩) (v := ?_) rfl (by kernel_rfl) (by kernel_rfl) (by kernel_rfl) (fun _ _ _ h => h) (Or.inl ⟨by rfl, ?_⟩) HD ?_
      rotate_left
      · intro w hSw
        (try dsimp only at hSw)
        go_simp <;> with_reducible rfl
      (try simp only [Act.put, List.setIfInBounds_toArray, List.set_cons_zero, List.set_cons_succ])
      refine wpAnyH_take (i := 16) (oi := ⟨some 18, _, _, _, _, _⟩) (v := ?_) rfl (by kernel_rfl) (by kernel_rfl) (by kernel_rfl) (fun _ _ _ h => h) (Or.inl ⟨by rfl, ?_⟩) HD ?_
      rotate_left
      · intro w hSw
        (try dsimp only at hSw)
        go_simp <;> with_reducible rfl
      (try simp only [Act.put, List.setIfInBounds_toArray, List.set_cons_zero, List.set_cons_succ])
      refine wpAnyH_take (i := 17) (oi := ⟨some 19, _, _, _, _, _⟩) (v := ?_) rfl (by kernel_rfl) (by kernel_rfl) (by kernel_rfl) (fun _ _ _ h => h) (Or.inl ⟨by rfl, ?_⟩) HD ?_
      rotate_left
      · intro w hSw
        (try dsimp only at hSw)
        go_simp <;> with_reducible rfl
      (try simp only [Act.put, List.setIfInBounds_toArray, List.set_cons_zero, List.set_cons_succ])
      refine wpAnyH_take (i := 18) (oi := ⟨some 20, _, _, _, _, _⟩) (v := ?_) rfl (by kernel_rfl) (by kernel_rfl) (by kernel_rfl) (fun _ _ _ h => h) (Or.inl ⟨by rfl, ?_⟩) HD ?_
      rotate_left
      · intro w hSw
        (try dsimp only at hSw)
        go_simp <;> with_reducible rfl
      (try simp only [Act.put, List.setIfInBounds_toArray, List.set_cons_zero, List.set_cons_succ])
      refine wpAnyH_ready (rs := [19]) (by kernel_rfl) (by simp) ?_
      refine AllReadyH.cons (o := ⟨some 21, _, _, _, _, _⟩) rfl (fun K hK => ?_) AllReadyH.nil
      go_simp
      go_at_call 50
      refine (last_any k r A c B d E n A1 c1 B1 d1 A2 c2 B2 d2 g _ (by exact HB.out) HO.out).mono ?_
      rintro e w1 ⟨rfl, m, rfl⟩
      dsimp only
      refine hK.out _ _ HD (fun HD => ?_)
      clear hK K
      (try simp only [Act.put, List.setIfInBounds_toArray, List.set_cons_zero, List.set_cons_succ])
      refine wpAnyH_take (i := 20) (oi := ⟨some 22, _, _, _, _, _⟩) (v := ?_) rfl (by kernel_rfl) (by kernel_rfl) (by kernel_rfl) (fun _ _ _ h => h) (Or.inl ⟨by rfl, ?_⟩) HD ?_
      rotate_left
      · intro w hSw
        (try dsimp only at hSw)
        go_simp <;> with_reducible rfl
      (try simp only [Act.put, List.setIfInBounds_toArray, List.set_cons_zero, List.set_cons_succ])
      refine wpAnyH_take (i := 21) (oi := ⟨some 23, _, _, _, _, _⟩) (v := ?_) rfl (by kernel_rfl) (by kernel_rfl) (by kernel_rfl) (fun _ _ _ h => h) (Or.inl ⟨by rfl, ?_⟩) HD ?_
      rotate_left
      · intro w hSw
        (try dsimp only at hSw)
        go_simp <;> with_reducible rfl
      (try simp only [Act.put, List.setIfInBounds_toArray, List.set_cons_zero, List.set_cons_succ])
      refine wpAnyH_ready (rs := [22]) (by kernel_rfl) (by simp) ?_
      refine AllReadyH.cons (o := ⟨some 24, _, _, _, _, _⟩) rfl (fun K hK => ?_) AllReadyH.nil
      go_simp
      go_at_call 33
      refine (is_no 140 _).mono ?_
      rintro e w1 ⟨rfl, rfl⟩
      exact ⟨rfl, FoldEnd.bad 140 (by decide) HF.out rfl ((below_drewN w (1 + m)).mono (by omega)) ⟨Nat.le_refl _, fun _ _ _ _ => rfl⟩⟩
  · have t1 : decide (k.snp.idx < r.at_) = false := decide_eq_false ht
    have HF := Lib.hid (folded_cut_no (k := k) H1.out (by omega))
    go_enter Try.func37, Try.ntmps37
    go_wp2_with fail
    refine wp_region_held_drew (S := fun w' => w'.cell? ⟨g, 2, none⟩ = some (.int .i64 k.snp.idx) ∧ w'.cell? ⟨g, 7, none⟩ = some (.slice E k.ents.length n) ∧ w'.cell? ⟨g, 17, none⟩ = some (.int .i64 r.at_)) (by kernel_rfl) ⟨HB.out.cell 2, HB.out.cell 7, HB.out.cell 17⟩ (fun HD => ?_)
    refine wpAnyH_take (i := 0) (oi := ⟨some 2, _, _, _, _, _⟩) (v := ?_) rfl (by kernel_rfl) (by kernel_rfl) (by kernel_rfl) (fun _ _ _ h => h) (Or.inl ⟨by rfl, ?_⟩) HD ?_
    rotate_left
    · intro w hSw
      (try dsimp only at hSw)
      go_simp <;> with_reducible rfl
    (try simp only [Act.put, List.setIfInBounds_toArray, List.set_cons_zero, List.set_cons_succ])
    refine wpAnyH_take (i := 1) (oi := ⟨some 3, _, _, _, _, _⟩) (v := ?_) rfl (by kernel_rfl) (by kernel_rfl) (by kernel_rfl) (fun _ _ _ h => h) (Or.inl ⟨by rfl, ?_⟩) HD ?_
    rotate_left
    · intro w hSw
      (try dsimp only at hSw)
      go_simp <;> with_reducible rfl
    (try simp only [Act.put, List.setIfInBounds_toArray, List.set_cons_zero, List.set_cons_succ])
    refine wpAnyH_take (i := 2) (oi := ⟨some 4, _, _, _, _, _⟩) (v := ?_) rfl (by kernel_rfl) (by kernel_rfl) (by kernel_rfl) (fun _ _ _ h => h) (Or.inl ⟨by rfl, ?_⟩) HD ?_
    rotate_left
    · intro w hSw
      (try dsimp only at hSw)
      go_simp <;> with_reducible rfl
    (try simp only [Act.put, List.setIfInBounds_toArray, List.set_cons_zero, List.set_cons_succ])
    refine wpAnyH_take (i := 3) (oi := ⟨some 5, _, _, _, _, _⟩) (v := ?_) rfl (by kernel_rfl) (by kernel_rfl) (by kernel_rfl) (fun _ _ _ h => h) (Or.inl ⟨by rfl, ?_⟩) HD ?_
    rotate_left
    · intro w hSw
      (try dsimp only at hSw)
      go_simp <;> with_reducible rfl
    (try simp only [Act.put, List.setIfInBounds_toArray, List.set_cons_zero, List.set_cons_succ])
    refine wpAnyH_take (i := 4) (oi := ⟨some 6, _, _, _, _, _⟩) (v := ?_) rfl (by kernel_rfl) (by kernel_rfl) (by kernel_rfl) (fun _ _ _ h => h) (Or.inl ⟨by rfl, ?_⟩) HD ?_
    rotate_left
    · intro w hSw
      (try dsimp only at hSw)
      go_simp <;> with_reducible rfl
    (try simp only [Act.put, List.setIfInBounds_toArray, List.set_cons_zero, List.set_cons_succ])
    refine wpAnyH_take (i := 5) (oi := ⟨some 7, _, _, _, _, _⟩) (v := ?_) rfl (by kernel_rfl) (by kernel_rfl) (by kernel_rfl) (fun _ _ _ h => h) (Or.inl ⟨by rfl, ?_⟩) HD ?_
    rotate_left
    · intro w hSw
      (try dsimp only at hSw)
      go_simp <;> with_reducible rfl
    (try simp only [Act.put, List.setIfInBounds_toArray, List.set_cons_zero, List.set_cons_succ])
    refine wpAnyH_take (i := 6) (oi := ⟨some 8, _, _, _, _, _⟩) (v := ?_) rfl (by kernel_rfl) (by kernel_rfl) (by kernel_rfl) (fun _ _ _ h => h) (Or.inl ⟨by rfl, ?_⟩) HD ?_
    rotate_left
    · intro w hSw
      (try dsimp only at hSw)
      go_simp <;> with_reducible rfl
    (try simp only [Act.put, List.setIfInBounds_toArray, List.set_cons_zero, List.set_cons_succ])
    refine wpAnyH_take (i := 7) (oi := ⟨some 9, _, _, _, _, _⟩) (v := ?_) rfl (by kernel_rfl) (by kernel_rfl) (by kernel_rfl) (fun _ _ _ h => h) (Or.inl ⟨by rfl, ?_⟩) HD ?_
    rotate_left
    · intro w hSw
      (try dsimp only at hSw)
      go_simp <;> with_reducible rfl
    (try simp only [Act.put, List.setIfInBounds_toArray, List.set_cons_zero, List.set_cons_succ])
    refine wpAnyH_take (i := 8) (oi := ⟨some 10, _, _, _, _, _⟩) (v := ?_) rfl (by kernel_rfl) (by kernel_rfl) (by kernel_rfl) (fun _ _ _ h => h) (Or.inl ⟨by rfl, ?_⟩) HD ?_
    rotate_left
    · intro w hSw
      (try dsimp only at hSw)
      go_simp <;> with_reducible rfl
    (try simp only [Act.put, List.setIfInBounds_toArray, List.set_cons_zero, List.set_cons_succ])
    refine wpAnyH_take (i := 9) (oi := ⟨some 11, _, _, _, _, _⟩) (v := ?_) rfl (by kernel_rfl) (by kernel_rfl) (by kernel_rfl) (fun _ _ _ h => h) (Or.inl ⟨by rfl, ?_⟩) HD ?_
    rotate_left
    · intro w hSw
      (try dsimp only at hSw)
      go_simp <;> with_reducible rfl
    (try simp only [Act.put, List.setIfInBounds_toArray, List.set_cons_zero, List.set_cons_succ])
    refine wpAnyH_take (i := 10) (oi := ⟨some 12, _, _, _, _, _⟩) (v := ?_) rfl (by kernel_rfl) (by kernel_rfl) (by kernel_rfl) (fun _ _ _ h => h) (Or.inl ⟨by rfl, ?_⟩) HD ?_
    rotate_left
    · intro w hSw
      (try dsimp only at hSw)
      go_simp <;> with_reducible rfl
    (try simp only [Act.put, List.setIfInBounds_toArray, List.set_cons_zero, List.set_cons_succ])
    refine wpAnyH_take (i := 11) (oi := ⟨some 13, _, _, _, _, _⟩) (v := ?_) rfl (by kernel_rfl) (by kernel_rfl) (by kernel_rfl) (fun _ _ _ h => h) (Or.inl ⟨by rfl, ?_⟩) HD ?_
    rotate_left
    · intro w hSw
      (try dsimp only at hSw)
      go_simp <;> with_reducible rfl
    (try simp only [Act.put, List.setIfInBounds_toArray, List.set_cons_zero, List.set_cons_succ])
    refine wpAnyH_take (i := 12) (oi := ⟨some 14, _, _, _, _, _⟩) (v := ?_) rfl (by kernel_rfl) (by kernel_rfl) (by kernel_rfl) (fun _ _ _ h => h) (Or.inl ⟨by rfl, ?_⟩) HD ?_
    rotate_left
    · intro w hSw
      (try dsimp only at hSw)
      go_simp <;> with_reducible rfl
    (try simp only [Act.put, List.setIfInBounds_toArray, List.set_cons_zero, List.set_cons_succ])
    refine wpAnyH_take (i := 13) (oi := ⟨some 15, _, _, _, _, _⟩) (v := undef) rfl (by kernel_rfl) (by kernel_rfl) (by kernel_rfl) (fun _ _ _ h => h) (Or.inr ⟨by rfl, rfl⟩) HD ?_
    (try simp only [Act.put, List.setIfInBounds_toArray, List.set_cons_zero, List.set_cons_succ])
    refine wpAnyH_take (i := 14) (oi := ⟨some 16, _, _, _, _, _⟩) (v := undef) rfl (by kernel_rfl) (by kernel_rfl) (by kernel_rfl) (fun _ _ _ h => h) (Or.inr ⟨by rfl, rfl⟩) HD ?_
    (try simp only [Act.put, List.setIfInBounds_toArray, List.set_cons_zero, List.set_cons_succ])
    refine wpAnyH_take (i := 15) (oi := ⟨some 17, _, _, _, _, _⟩) (v := undef) rfl (by kernel_rfl) (by kernel_rfl) (by kernel_rfl) (fun _ _ _ h => h) (Or.inr ⟨by rfl, rfl⟩) HD ?_
    (try simp only [Act.put, List.setIfInBounds_toArray, List.set_cons_zero, List.set_cons_succ])
    refine wpAnyH_take (i := 16) (oi := ⟨some 18, _, _, _, _, _⟩) (v := undef) rfl (by kernel_rfl) (by kernel_rfl) (by kernel_rfl) (fun _ _ _ h => h) (Or.inr ⟨by rfl, rfl⟩) HD ?_
    (try simp only [Act.put, List.setIfInBounds_toArray, List.set_cons_zero, List.set_cons_succ])
    refine wpAnyH_take (i := 17) (oi := ⟨some 19, _, _, _, _, _⟩) (v := undef) rfl (by kernel_rfl) (by kernel_rfl) (by kernel_rfl) (fun _ _ _ h => h) (Or.inr ⟨by rfl, rfl⟩) HD ?_
    (try simp only [Act.put, List.setIfInBounds_toArray, List.set_cons_zero, List.set_cons_succ])
    refine wpAnyH_take (i := 18) (oi := ⟨some 20, _, _, _, _, _⟩) (v := undef) rfl (by kernel_rfl) (by kernel_rfl) (by kernel_rfl) (fun _ _ _ h => h) (Or.inr ⟨by rfl, rfl⟩) HD ?_
    (try simp only [Act.put, List.setIfInBounds_toArray, List.set_cons_zero, List.set_cons_succ])
    refine wpAnyH_take (i := 19) (oi := ⟨some 21, _, _, _, _, _⟩) (v := undef) rfl (by kernel_rfl) (by kernel_rfl) (by kernel_rfl) (fun _ _ _ h => h) (Or.inr ⟨by rfl, rfl⟩) HD ?_
    (try simp only [Act.put, List.setIfInBounds_toArray, List.set_cons_zero, List.set_cons_succ])
    refine wpAnyH_take (i := 20) (oi := ⟨some 22, _, _, _, _, _⟩) (v := undef) rfl (by kernel_rfl) (by kernel_rfl) (by kernel_rfl) (fun _ _ _ h => h) (Or.inr ⟨by rfl, rfl⟩) HD ?_
    (try simp only [Act.put, List.setIfInBounds_toArray, List.set_cons_zero, List.set_cons_succ])
    refine wpAnyH_take (i := 21) (oi := ⟨some 23, _, _, _, _, _⟩) (v := ?_) rfl (by kernel_rfl) (by kernel_rfl) (by kernel_rfl) (fun _ _ _ h => h) (Or.inl ⟨by rfl, ?_⟩) HD ?_
    rotate_left
    · intro w hSw
      (try dsimp only at hSw)
      go_simp <;> with_reducible rfl
    (try simp only [Act.put, List.setIfInBounds_toArray, List.set_cons_zero, List.set_cons_succ])
    refine wpAnyH_ready (rs := [22]) (by kernel_rfl) (by simp) ?_
    refine AllReadyH.cons (o := ⟨some 24, _, _, _, _, _⟩) rfl (fun K hK => ?_) AllReadyH.nil
    go_simp
    go_at_call 33
    refine (is_no 140 _).mono ?_
    rintro e w1 ⟨rfl, rfl⟩
    exact ⟨rfl, FoldEnd.bad 140 (by decide) HF.out rfl ((below_drewN w 1).mono (by omega)) ⟨Nat.le_refl _, fun _ _ _ _ => rfl⟩⟩
end Go.Proofs.Ytkdmfjpfanmgmaa
