/- Joined by mkmerge.py from the proof's texts Fold17. Conditions: each theorem's own hypotheses. -/
import Derived.Test.YtkdmfjpfanmgmaaGreatDoorM24
import Derived.Deep.RegionLaw
namespace Go.Proofs.YtkdmfjpfanmgmaaGreatDoor
open Go.RowKit Le
set_option maxRecDepth 100000
set_option linter.unusedSimpArgs false
set_option linter.unusedVariables false
theorem folded_ent_no {k : Kep} {r : Rcd} (h : r.kind = 2) (ht : r.ent.idx ≠ k.last + 1) : foldedP k r = (.zero, 140) := by
  unfold foldedP; rw [if_neg (by omega), if_pos h, if_pos ht]
theorem folded_ent_big {k : Kep} {r : Rcd} (h : r.kind = 2) (ht : r.ent.idx = k.last + 1) (hb : 10000 ≤ k.ents.length) : foldedP k r = (.zero, 2) := by
  unfold foldedP; rw [if_neg (by omega), if_pos h, if_neg (by simpa using ht), if_pos hb]
theorem folded_ent_ok {k : Kep} {r : Rcd} (h : r.kind = 2) (ht : r.ent.idx = k.last + 1) (hb : ¬ 10000 ≤ k.ents.length) : foldedP k r = ({ k with ents := k.ents ++ [r.ent] }, 0) := by
  unfold foldedP; rw [if_neg (by omega), if_pos h, if_neg (by simpa using ht), if_neg hb]
set_option maxHeartbeats 3200000 in
theorem entry_any (k : Kep) (r : Rcd) (A : Option Addr) (c : Nat) (B : Option Addr) (d : Nat) (E : Option Addr) (n : Nat) (A1 : Option Addr) (c1 : Nat) (B1 : Option Addr) (d1 : Nat) (A2 : Option Addr) (c2 : Nat) (B2 : Option Addr) (d2 : Nat) (base g B0 : Nat) (w : World) (hB : Blk w g 112 (foldCs k r A c B d E n A1 c1 B1 d1 A2 c2 B2 d2)) (hK : KepOwn w base k A B E n) (hbg : base ≤ g) (h1 : r.kind = 2) (hk : OkK k) (hrv : RowsAt w (· < w.heap.size) [.num] (nums r.ent.v) A1) (hrl : RowsAt w (· < w.heap.size) [.num] (nums r.ent.l) B1) (hs : r.ent.Small) :
    Calls Tryz.prog 52 #[.pointer (some ⟨g, 0, none⟩)] w (FoldEnd w base g k r A1 c1 B1 d1 A2 c2 B2 d2) := by
  obtain ⟨i0, hi0, hz0, hz1, hz2⟩ := info_parts info_entry
  have HB := Lib.hid hB
  have HO := Lib.hid hk
  have HV := Lib.hid hrv
  have HL := Lib.hid hrl
  have HS := Lib.hid hs
  have HK := Lib.hid hK
  have H1 := Lib.hid h1
  have q1 := okN_i hk.idx
  have q2 := hk.len
  have q3 := hB.lt
  clear hB hK h1 hk hrv hrl hs
  have s1 : IntKind.i64.wrap (k.snp.idx + (k.ents.length : Int) + 1) = k.snp.idx + (k.ents.length : Int) + 1 := IntWalk.i64_in _ (by omega)
  by_cases ht : r.ent.idx = k.snp.idx + (k.ents.length : Int) + 1
  · have t : (r.ent.idx == k.snp.idx + (k.ents.length : Int) + 1) = true := by simpa using ht
    have HT : Hid (r.ent.idx = k.last + 1) := Lib.hid ht
    clear ht
    go_enter Tryz.func52, Tryz.ntmps52
    go_wp2_with fail
    refine wp_region_held_drew (S := fun w' => w'.cell? ⟨g, 2, none⟩ = some (.int .i64 k.snp.idx) ∧ w'.cell? ⟨g, 7, none⟩ = some (.slice E k.ents.length n) ∧ w'.cell? ⟨g, 11, none⟩ = some (.int .i64 r.ent.idx)) (by kernel_rfl) ⟨HB.out.cell 2, HB.out.cell 7, HB.out.cell 11⟩ (fun HD => ?_)
    refine wpAnyH_take (i := 0) (oi := ⟨some 2, _, _, _, _, _⟩) (v := ?_) rfl (by kernel_rfl) (by kernel_rfl) (by kernel_rfl) (fun _ _ _ h => h) (Or.inl ⟨by rfl, ?_⟩) HD ?_
    rotate_left
    · intro w hSw
      (try dsimp only at hSw)
      go_simp <;> with_reducible rfl
    (try simp only [Act.put, List.setIfInBounds_toArray, List.set_cons_zero, List.set_cons_succ])
    refine wpAnyH_take (i := 1) (oi := ⟨some 3, _, _, _, _, _⟩) (v := ?_) rfl (by kernel_rfl) (by kernel_rfl) (by kernel_rfl) (fun _ _ _ h => h) (Or.inl ⟨by rfl, ?_⟩) HD ?_
    rotate_left
    · intro w hSw
      (try dsimp only at hSw)
      go_simp <;> with_reducible rfl
    (try simp only [Act.put, List.setIfInBounds_toArray, List.set_cons_zero, List.set_cons_succ])
    refine wpAnyH_take (i := 2) (oi := ⟨some 4, _, _, _, _, _⟩) (v := ?_) rfl (by kernel_rfl) (by kernel_rfl) (by kernel_rfl) (fun _ _ _ h => h) (Or.inl ⟨by rfl, ?_⟩) HD ?_
    rotate_left
    · intro w hSw
      (try dsimp only at hSw)
      go_simp <;> with_reducible rfl
    (try simp only [Act.put, List.setIfInBounds_toArray, List.set_cons_zero, List.set_cons_succ])
    refine wpAnyH_take (i := 3) (oi := ⟨some 5, _, _, _, _, _⟩) (v := ?_) rfl (by kernel_rfl) (by kernel_rfl) (by kernel_rfl) (fun _ _ _ h => h) (Or.inl ⟨by rfl, ?_⟩) HD ?_
    rotate_left
    · intro w hSw
      (try dsimp only at hSw)
      go_simp <;> with_reducible rfl
    (try simp only [Act.put, List.setIfInBounds_toArray, List.set_cons_zero, List.set_cons_succ])
    refine wpAnyH_take (i := 4) (oi := ⟨some 6, _, _, _, _, _⟩) (v := ?_) rfl (by kernel_rfl) (by kernel_rfl) (by kernel_rfl) (fun _ _ _ h => h) (Or.inl ⟨by rfl, ?_⟩) HD ?_
    rotate_left
    · intro w hSw
      (try dsimp only at hSw)
      go_simp <;> with_reducible rfl
    (try simp only [Act.put, List.setIfInBounds_toArray, List.set_cons_zero, List.set_cons_succ])
    refine wpAnyH_take (i := 5) (oi := ⟨some 7, _, _, _, _, _⟩) (v := ?_) rfl (by kernel_rfl) (by kernel_rfl) (by kernel_rfl) (fun _ _ _ h => h) (Or.inl ⟨by rfl, ?_⟩) HD ?_
    rotate_left
    · intro w hSw
      (try dsimp only at hSw)
      go_simp <;> with_reducible rfl
    (try simp only [Act.put, List.setIfInBounds_toArray, List.set_cons_zero, List.set_cons_succ])
    refine wpAnyH_take (i := 6) (oi := ⟨some 8, _, _, _, _, _⟩) (v := ?_) rfl (by kernel_rfl) (by kernel_rfl) (by kernel_rfl) (fun _ _ _ h => h) (Or.inl ⟨by rfl, ?_⟩) HD ?_
    rotate_left
    · intro w hSw
      (try dsimp only at hSw)
      go_simp <;> with_reducible rfl
    (try simp only [Act.put, List.setIfInBounds_toArray, List.set_cons_zero, List.set_cons_succ])
    refine wpAnyH_ready (rs := [7]) (by kernel_rfl) (by simp) ?_
    refine AllReadyH.cons (o := ⟨some 9, _, _, _, _, _⟩) rfl (fun K hK => ?_) AllReadyH.nil
    go_simp
    go_at_call 87
    refine (last_any k r A c B d E n A1 c1 B1 d1 A2 c2 B2 d2 g _ (by exact HB.out) HO.out).mono ?_
    rintro e w1 ⟨rfl, m, rfl⟩
    dsimp only
    refine hK.out _ _ HD (fun HD => ?_)
    clear hK K
    (try simp only [Act.put, List.setIfInBounds_toArray, List.set_cons_zero, List.set_cons_succ])
    refine wpAnyH_take (i := 8) (oi := ⟨some 10, _, _, _, _, _⟩) (v := ?_) rfl (by kernel_rfl) (by kernel_rfl) (by kernel_rfl) (fun _ _ _ h => h) (Or.inl ⟨by rfl, ?_⟩) HD ?_
    rotate_left
    · intro w hSw
      (try dsimp only at hSw)
      go_simp <;> with_reducible rfl
    (try simp only [Act.put, List.setIfInBounds_toArray, List.set_cons_zero, List.set_cons_succ])
    refine wpAnyH_take (i := 9) (oi := ⟨some 11, _, _, _, _, _⟩) (v := ?_) rfl (by kernel_rfl) (by kernel_rfl) (by kernel_rfl) (fun _ _ _ h => h) (Or.inl ⟨by rfl, ?_⟩) HD ?_
    rotate_left
    · intro w hSw
      (try dsimp only at hSw)
      go_simp <;> with_reducible rfl
    (try simp only [Act.put, List.setIfInBounds_toArray, List.set_cons_zero, List.set_cons_succ])
    refine wpAnyH_ready (rs := [10]) (by kernel_rfl) (by simp) ?_
    refine AllReadyH.cons (o := ⟨some 12, _, _, _, _, _⟩) rfl (fun K hK => ?_) AllReadyH.nil
    go_simp
    go_at_call 49
    refine (is_ok 140 _).mono ?_
    rintro e w1 ⟨rfl, rfl⟩
    dsimp only
    refine hK.out _ _ HD (fun HD => ?_)
    clear hK K
    (try simp only [Act.put, List.setIfInBounds_toArray, List.set_cons_zero, List.set_cons_succ])
    refine wpAnyH_done (by kernel_rfl) ?_ _
    clear s1 t HD
    have HBw : Hid (Below base w (w.drewN (1 + m))) := Lib.hid ((below_drewN w (1 + m)).mono (by omega))
    have HKw : Hid (Keeps [112, 29] w (w.drewN (1 + m))) := Lib.hid ⟨Nat.le_refl _, fun _ _ _ _ => rfl⟩
    have HK2 : Hid (KepOwn (w.drewN (1 + m)) base k A B E n) := Lib.hid (HK.out.keeps (ts := []) ⟨Nat.le_refl _, fun _ _ _ _ => rfl⟩ (by simp) (by simp))
    have HB2 : Hid (Blk (w.drewN (1 + m)) g 112 [.int .i64 k.term, .int .i64 k.vote, .int .i64 k.snp.idx, .int .i64 k.snp.term, .slice A k.snp.v.length c, .slice B k.snp.l.length d, .string (text k.snp.b), .slice E k.ents.length n, .int .i64 r.kind, .int .i64 r.term, .int .i64 r.vote, .int .i64 r.ent.idx, .int .i64 r.ent.term, .int .i64 r.ent.kind, .slice A1 r.ent.v.length c1, .slice B1 r.ent.l.length d1, .string (text r.ent.b), .int .i64 r.at_, .int .i64 r.snp.idx, .int .i64 r.snp.term, .slice A2 r.snp.v.length c2, .slice B2 r.snp.l.length d2, .string (text r.snp.b)]) := Lib.hid HB.out
    have HV2 : Hid (RowsAt (w.drewN (1 + m)) (· < (w.drewN (1 + m)).heap.size) [.num] (nums r.ent.v) A1) := Lib.hid (HV.out.turn (fun _ h => h) (fun _ _ => rfl))
    have HL2 : Hid (RowsAt (w.drewN (1 + m)) (· < (w.drewN (1 + m)).heap.size) [.num] (nums r.ent.l) B1) := Lib.hid (HL.out.turn (fun _ h => h) (fun _ _ => rfl))
    clear HB HK HV HL
    generalize w.drewN (1 + m) = W at *
    have q4 := HB2.out.lt
    have a7 : W.cell? ⟨g, 7, none⟩ = some (.slice E k.ents.length n) := HB2.out.cell 7
    by_cases hb : 10000 ≤ k.ents.length
    · have HF := Lib.hid (folded_ent_big H1.out HT.out hb)
      have t : decide ((k.ents.length : Int) < 10000) = false := decide_eq_false (by omega)
      go_wp2_with fail
      refine (is_no 2 _).mono ?_
      rintro e w1 ⟨rfl, rfl⟩
      exact ⟨rfl, FoldEnd.bad 2 (by decide) HF.out rfl HBw.out HKw.out⟩
    · have HF := Lib.hid (folded_ent_ok H1.out HT.out hb)
      have t : decide ((k.ents.length : Int) < 10000) = true := decide_eq_true (by omega)
      go_wp2_with fail
      refine (is_ok 2 _).mono ?_
      rintro e w1 ⟨rfl, rfl⟩
      clear t
      obtain ⟨xs, ho, hth⟩ := HK2.out.e
      have HOw := Lib.hid ho
      have HTh := Lib.hid hth
      clear ho hth
      have a11 : W.cell? ⟨g, 11, none⟩ = some (.int .i64 r.ent.idx) := HB2.out.cell 11
      have a12 : W.cell? ⟨g, 12, none⟩ = some (.int .i64 r.ent.term) := HB2.out.cell 12
      have a13 : W.cell? ⟨g, 13, none⟩ = some (.int .i64 r.ent.kind) := HB2.out.cell 13
      have a14 : W.cell? ⟨g, 14, none⟩ = some (.slice A1 r.ent.v.length c1) := HB2.out.cell 14
      have a15 : W.cell? ⟨g, 15, none⟩ = some (.slice B1 r.ent.l.length d1) := HB2.out.cell 15
      have a16 : W.cell? ⟨g, 16, none⟩ = some (.string (text r.ent.b)) := HB2.out.cell 16
      have p7 : W.frozen? ⟨g, 7, none⟩ = false := HB2.out.frozen 7
      have C := Lib.hid (ownEntry_any r.ent A1 c1 B1 d1 W.drew (HV2.out.turn (fun _ h => h) (fun _ _ => rfl)) (HL2.out.turn (fun _ h => h) (fun _ _ => rfl)) (by have := HS.out.v; omega) (by have := HS.out.l; omega))
      unfold Ent.cs at C
      go_wp2_with fail
      go_region_law (first
        | (go_simp
           go_at_call 43
           refine (unhide C).mono ?_
           rintro e w3 ⟨A4, c4, B4, d4, rfl, hr3, hr4, hbl⟩
           unfold Ent.cs
           have z3 : W.heap.size ≤ w3.heap.size := hbl.size
           have R0 := Lib.hid (HB2.out.drew.below hbl q4)
           have HO3 := Lib.hid (HOw.out.drew.below_ hbl)
           have HBB := Lib.hid hbl
           have HR3 := Lib.hid hr3
           have HR4 := Lib.hid hr4
           have z5 : g < w3.heap.size := by omega
           have b7 : w3.cell? ⟨g, 7, none⟩ = some (.slice E k.ents.length n) := R0.out.cell 7
           have b11 : w3.cell? ⟨g, 11, none⟩ = some (.int .i64 r.ent.idx) := R0.out.cell 11
           have b12 : w3.cell? ⟨g, 12, none⟩ = some (.int .i64 r.ent.term) := R0.out.cell 12
           have b13 : w3.cell? ⟨g, 13, none⟩ = some (.int .i64 r.ent.kind) := R0.out.cell 13
           have b14 : w3.cell? ⟨g, 14, none⟩ = some (.slice A1 r.ent.v.length c1) := R0.out.cell 14
           have b15 : w3.cell? ⟨g, 15, none⟩ = some (.slice B1 r.ent.l.length d1) := R0.out.cell 15
           have b16 : w3.cell? ⟨g, 16, none⟩ = some (.string (text r.ent.b)) := R0.out.cell 16
           clear hr3 hr4 hbl)
        | (refine step_appN rfl _ _ _ rfl base 29 i0 _ 6 88 Tryz.underlying36 hi0 hz0 hz1 hz2 rfl (by decide) (.slice E k.ents.length n) k.ents.length xs rfl (HO3.out.alloc _) ⟨w3.heap.size, 0, none⟩ 1 [.int .i64 r.ent.idx, .int .i64 r.ent.term, .int .i64 r.ent.kind, .slice A4 r.ent.v.length c4, .slice B4 r.ent.l.length d4, .string (text r.ent.b)] rfl rfl (Blk.news (Blk.new w3 29 [.int .i64 r.ent.idx, .int .i64 r.ent.term, .int .i64 r.ent.kind, .slice A4 r.ent.v.length c4, .slice B4 r.ent.l.length d4, .string (text r.ent.b)])) (by simp [Value.oneCell']) (by unfold maxLen; omega) (by omega) (by simp; omega) ?_
           intro A5 c5 w5 HO5 HG5
           have S0 := Lib.hid ((R0.out.alloc (.cells #[.int .i64 r.ent.idx, .int .i64 r.ent.term, .int .i64 r.ent.kind, .slice A4 r.ent.v.length c4, .slice B4 r.ent.l.length d4, .string (text r.ent.b)] 29)).grown HG5.out (blk_own_ne R0.out HO3.out (by decide)))
           have b8 : w5.cell? ⟨g, 7, none⟩ = some (.slice E k.ents.length n) := S0.out.cell 7
           have f8 : w5.frozen? ⟨g, 7, none⟩ = false := S0.out.frozen 7))
      all_goals
        go_wp2
        go_end0
        have K1 : Keeps [112, 29] w3 (w5.setCell ⟨g, 7, none⟩ (.slice A5 (k.ents.length + 1) c5)) :=
          ((Keeps.alloc w3 (.cells #[.int .i64 r.ent.idx, .int .i64 r.ent.term, .int .i64 r.ent.kind, .slice A4 r.ent.v.length c4, .slice B4 r.ent.l.length d4, .string (text r.ent.b)] 29)).trans (Keeps.grown (HO3.out.alloc (.cells #[.int .i64 r.ent.idx, .int .i64 r.ent.term, .int .i64 r.ent.kind, .slice A4 r.ent.v.length c4, .slice B4 r.ent.l.length d4, .string (text r.ent.b)] 29)) HG5.out (by simp) HG5.out.size)).trans (Keeps.set_ S0.out.typ (by simp) _)
        have KF : Keeps [112] w5 (w5.setCell ⟨g, 7, none⟩ (.slice A5 (k.ents.length + 1) c5)) := Keeps.set_ S0.out.typ (by simp) _
        have K0 : Keeps [112, 29] W (w5.setCell ⟨g, 7, none⟩ (.slice A5 (k.ents.length + 1) c5)) := (Keeps.trans (Keeps.drew _) (Keeps.of_below HBB.out (Nat.le_refl _))).trans K1
        have g1 := (HR3.out.nw_mono (base' := base) (by show base ≤ W.heap.size; omega) fun _ h => h).nw_keeps K1 (by decide)
        have g2 := (HR4.out.nw_mono (base' := base) (by show base ≤ W.heap.size; omega) fun _ h => h).nw_keeps K1 (by decide)
        have g3 := (HTh.out.keeps K0 (by decide)).snoc (d := r.ent.da) (by have := HOw.out.1; rw [this, List.length_map]; rfl) (Ent.mk_ r.ent c4 d4 g1 g2)
        have g4 := rowsAt_ownN (HO5.out.keeps KF (by decide)) (by simp) g3
        refine FoldEnd.good { k with ents := k.ents ++ [r.ent] } A c B d A5 c5 HF.out rfl ?_ ⟨?_, ?_, ?_⟩ ?_ (HKw.out.trans K0)
        · have := S0.out.set_ 7 (.slice A5 (k.ents.length + 1) c5)
          unfold foldCs
          simpa using this
        · exact (HK2.out.v.nw_keeps K0 (by decide)).nw_mono (Nat.le_refl _) (by simp)
        · exact (HK2.out.l.nw_keeps K0 (by decide)).nw_mono (Nat.le_refl _) (by simp)
        · simpa using g4
        · exact ((((HBw.out.drew).trans (HBB.out.mono (by show base ≤ W.heap.size; omega))).alloc (by omega) _).grown HG5.out (by simp; omega) (own_block_ge HO3.out)).setCell (by dsimp only; omega) _
  · have t : (r.ent.idx == k.snp.idx + (k.ents.length : Int) + 1) = false := by simpa using ht
    have HF := Lib.hid (folded_ent_no H1.out (k := k) ht)
    clear ht
    go_enter Tryz.func52, Tryz.ntmps52
    go_wp2_with fail
    refine wp_region_held_drew (S := fun w' => w'.cell? ⟨g, 2, none⟩ = some (.int .i64 k.snp.idx) ∧ w'.cell? ⟨g, 7, none⟩ = some (.slice E k.ents.length n) ∧ w'.cell? ⟨g, 11, none⟩ = some (.int .i64 r.ent.idx)) (by kernel_rfl) ⟨HB.out.cell 2, HB.out.cell 7, HB.out.cell 11⟩ (fun HD => ?_)
    refine wpAnyH_take (i := 0) (oi := ⟨some 2, _, _, _, _, _⟩) (v := ?_) rfl (by kernel_rfl) (by kernel_rfl) (by kernel_rfl) (fun _ _ _ h => h) (Or.inl ⟨by rfl, ?_⟩) HD ?_
    rotate_left
    · intro w hSw
      (try dsimp only at hSw)
      go_simp <;> with_reducible rfl
    (try simp only [Act.put, List.setIfInBounds_toArray, List.set_cons_zero, List.set_cons_succ])
    refine wpAnyH_take (i := 1) (oi := ⟨some 3, _, _, _, _, _⟩) (v := ?_) rfl (by kernel_rfl) (by kernel_rfl) (by kernel_rfl) (fun _ _ _ h => h) (Or.inl ⟨by rfl, ?_⟩) HD ?_
    rotate_left
    · intro w hSw
      (try dsimp only at hSw)
      go_simp <;> with_reducible rfl
    (try simp only [Act.put, List.setIfInBounds_toArray, List.set_cons_zero, List.set_cons_succ])
    refine wpAnyH_take (i := 2) (oi := ⟨some 4, _, _, _, _, _⟩) (v := ?_) rfl (by kernel_rfl) (by kernel_rfl) (by kernel_rfl) (fun _ _ _ h => h) (Or.inl ⟨by rfl, ?_⟩) HD ?_
    rotate_left
    · intro w hSw
      (try dsimp only at hSw)
      go_simp <;> with_reducible rfl
    (try simp only [Act.put, List.setIfInBounds_toArray, List.set_cons_zero, List.set_cons_succ])
    refine wpAnyH_take (i := 3) (oi := ⟨some 5, _, _, _, _, _⟩) (v := ?_) rfl (by kernel_rfl) (by kernel_rfl) (by kernel_rfl) (fun _ _ _ h => h) (Or.inl ⟨by rfl, ?_⟩) HD ?_
    rotate_left
    · intro w hSw
      (try dsimp only at hSw)
      go_simp <;> with_reducible rfl
    (try simp only [Act.put, List.setIfInBounds_toArray, List.set_cons_zero, List.set_cons_succ])
    refine wpAnyH_take (i := 4) (oi := ⟨some 6, _, _, _, _, _⟩) (v := ?_) rfl (by kernel_rfl) (by kernel_rfl) (by kernel_rfl) (fun _ _ _ h => h) (Or.inl ⟨by rfl, ?_⟩) HD ?_
    rotate_left
    · intro w hSw
      (try dsimp only at hSw)
      go_simp <;> with_reducible rfl
    (try simp only [Act.put, List.setIfInBounds_toArray, List.set_cons_zero, List.set_cons_succ])
    refine wpAnyH_take (i := 5) (oi := ⟨some 7, _, _, _, _, _⟩) (v := ?_) rfl (by kernel_rfl) (by kernel_rfl) (by kernel_rfl) (fun _ _ _ h => h) (Or.inl ⟨by rfl, ?_⟩) HD ?_
    rotate_left
    · intro w hSw
      (try dsimp only at hSw)
      go_simp <;> with_reducible rfl
    (try simp only [Act.put, List.setIfInBounds_toArray, List.set_cons_zero, List.set_cons_succ])
    refine wpAnyH_take (i := 6) (oi := ⟨some 8, _, _, _, _, _⟩) (v := ?_) rfl (by kernel_rfl) (by kernel_rfl) (by kernel_rfl) (fun _ _ _ h => h) (Or.inl ⟨by rfl, ?_⟩) HD ?_
    rotate_left
    · intro w hSw
      (try dsimp only at hSw)
      go_simp <;> with_reducible rfl
    (try simp only [Act.put, List.setIfInBounds_toArray, List.set_cons_zero, List.set_cons_succ])
    refine wpAnyH_ready (rs := [7]) (by kernel_rfl) (by simp) ?_
    refine AllReadyH.cons (o := ⟨some 9, _, _, _, _, _⟩) rfl (fun K hK => ?_) AllReadyH.nil
    go_simp
    go_at_call 87
    refine (last_any k r A c B d E n A1 c1 B1 d1 A2 c2 B2 d2 g _ (by exact HB.out) HO.out).mono ?_
    rintro e w1 ⟨rfl, m, rfl⟩
    dsimp only
    refine hK.out _ _ HD (fun HD => ?_)
    clear hK K
    (try simp only [Act.put, List.setIfInBounds_toArray, List.set_cons_zero, List.set_cons_succ])
    refine wpAnyH_take (i := 8) (oi := ⟨some 10, _, _, _, _, _⟩) (v := ?_) rfl (by kernel_rfl) (by kernel_rfl) (by kernel_rfl) (fun _ _ _ h => h) (Or.inl ⟨by rfl, ?_⟩) HD ?_
    rotate_left
    · intro w hSw
      (try dsimp only at hSw)
      go_simp <;> with_reducible rfl
    (try simp only [Act.put, List.setIfInBounds_toArray, List.set_cons_zero, List.set_cons_succ])
    refine wpAnyH_take (i := 9) (oi := ⟨some 11, _, _, _, _, _⟩) (v := ?_) rfl (by kernel_rfl) (by kernel_rfl) (by kernel_rfl) (fun _ _ _ h => h) (Or.inl ⟨by rfl, ?_⟩) HD ?_
    rotate_left
    · intro w hSw
      (try dsimp only at hSw)
      go_simp <;> with_reducible rfl
    (try simp only [Act.put, List.setIfInBounds_toArray, List.set_cons_zero, List.set_cons_succ])
    refine wpAnyH_ready (rs := [10]) (by kernel_rfl) (by simp) ?_
    refine AllReadyH.cons (o := ⟨some 12, _, _, _, _, _⟩) rfl (fun K hK => ?_) AllReadyH.nil
    go_simp
    go_at_call 49
    refine (is_no 140 _).mono ?_
    rintro e w1 ⟨rfl, rfl⟩
    exact ⟨rfl, FoldEnd.bad 140 (by decide) HF.out rfl ((below_drewN w (1 + m)).mono (by omega)) ⟨Nat.le_refl _, fun _ _ _ _ => rfl⟩⟩
end Go.Proofs.YtkdmfjpfanmgmaaGreatDoor
