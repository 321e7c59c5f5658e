/- Joined by mkmerge.py from the proof's texts Fold29. Conditions: each theorem's own hypotheses. -/
import Derived.Test.YtkdmfjpfanmgmaaGreatDoorM26
namespace Go.Proofs.YtkdmfjpfanmgmaaGreatDoor
open Go.RowKit Le
set_option maxRecDepth 100000
set_option linter.unusedSimpArgs false
set_option linter.unusedVariables false
set_option maxHeartbeats 3200000 in
theorem vote_val (k : Kep) (r : Rcd) (A : Option Addr) (c : Nat) (B : Option Addr) (d : Nat) (E : Option Addr) (n : Nat) (A1 : Option Addr) (c1 : Nat) (B1 : Option Addr) (d1 : Nat) (A2 : Option Addr) (c2 : Nat) (B2 : Option Addr) (d2 : Nat) (base g : Nat) (w : World) (hB : Blk w g 112 (foldCs k r A c B d E n A1 c1 B1 d1 A2 c2 B2 d2)) (hbg : base ≤ g) (h1 : r.kind = 1) (ht : k.term ≤ r.term) :
    Calls Tryz.prog 51 #[.pointer (some ⟨g, 0, none⟩)] w fun e w' => e = .returned (.tuple #[]) ∧ Blk w' g 112 (foldCs { k with term := r.term, vote := r.vote } r A c B d E n A1 c1 B1 d1 A2 c2 B2 d2) ∧ Below base w w' ∧ Keeps [112] w w' := by
  unfold foldCs at hB
  have HB := Lib.hid hB
  have H1 := Lib.hid h1
  clear hB h1
  have a0 : w.cell? ⟨g, 0, none⟩ = some (.int .i64 k.term) := HB.out.cell 0
  have a1 : w.cell? ⟨g, 1, none⟩ = some (.int .i64 k.vote) := HB.out.cell 1
  have a9 : w.cell? ⟨g, 9, none⟩ = some (.int .i64 r.term) := HB.out.cell 9
  have a10 : w.cell? ⟨g, 10, none⟩ = some (.int .i64 r.vote) := HB.out.cell 10
  have p0 : w.frozen? ⟨g, 0, none⟩ = false := HB.out.frozen 0
  have p1 : w.frozen? ⟨g, 1, none⟩ = false := HB.out.frozen 1
  go_enter Tryz.func51, Tryz.ntmps51
  go_wp2_with fail
  go_still_tail 11, (by kernel_rfl)
  go_wp2_with fail
  refine (is_ok 140 _).mono ?_
  rintro e w1 ⟨rfl, rfl⟩
  go_wp2
  go_region_held3 (fun w' => w'.cell? ⟨g, 9, none⟩ = some (.int .i64 r.term) ∧ w'.cell? ⟨g, 10, none⟩ = some (.int .i64 r.vote)) (first
    | exact ⟨a9, a10⟩
    | exact kv1 lt09 ⟨a9, a10⟩
    | exact kv1 lt19 ⟨a9, a10⟩
    | exact kv1 lt19 (kv1 lt09 ⟨a9, a10⟩)
    | exact kv1 lt09 (kv1 lt19 ⟨a9, a10⟩)) (fail)
  all_goals
    go_wp2
    go_end0
    refine ⟨rfl, ?_, ?_, ?_⟩
    · have := HB.out.set_ 0 (.int .i64 r.term) |>.set_ 1 (.int .i64 r.vote)
      have h2 := HB.out.set_ 1 (.int .i64 r.vote) |>.set_ 0 (.int .i64 r.term)
      unfold foldCs
      first
        | exact Blk.drew (Blk.drew (by simpa using this))
        | exact Blk.drew (Blk.drew (by simpa using h2))
    · exact Below.drew (Below.drew (by repeat (first | exact Below.refl _ _ | refine Below.setCell ?_ (by dsimp only; omega) _)))
    · exact Keeps.trans (Keeps.trans (by repeat (first | with_reducible exact Keeps.refl _ _ | (with_reducible refine Keeps.step1 ?_ (by repeat (first | with_reducible exact Blk.typ HB.out | with_reducible refine TypeAt.setCell ?_ _ _))))) (Keeps.drew _)) (Keeps.drew _)
set_option maxHeartbeats 3200000 in
theorem folded_vote (k : Kep) (r : Rcd) (A : Option Addr) (c : Nat) (B : Option Addr) (d : Nat) (E : Option Addr) (n : Nat) (A1 : Option Addr) (c1 : Nat) (B1 : Option Addr) (d1 : Nat) (A2 : Option Addr) (c2 : Nat) (B2 : Option Addr) (d2 : Nat) (base : Nat) (w : World) (hK : KepOwn w base k A B E n) (hbw : base ≤ w.heap.size) (hk : OkK k) (hA : RcdAt' w (· < base) r A1 B1 A2 B2) (hs : r.Small) (hM : mayP r = true) (hv : r.kind = 1) (ht : k.term ≤ r.term) :
    Calls Tryz.prog 27 #[.agg (k.cs A c B d E n).toArray, .agg (r.cs A1 c1 B1 d1 A2 c2 B2 d2).toArray] w fun e w' => e = .returned (.tuple #[.agg (({ k with term := r.term, vote := r.vote } : Kep).cs A c B d E n).toArray, .int .i64 0]) ∧ Below base w w' := by
  unfold Kep.cs Rcd.cs
  have HK := Lib.hid hK
  have HA := Lib.hid hA
  have HS := Lib.hid hs
  have HMM := Lib.hid hM
  have HQ := Lib.hid hv
  have HTT := Lib.hid ht
  clear hK hA hs hM hv ht
  go_enter_defers Tryz.func27, Tryz.ntmps27
  go_wp2_with fail
  refine at_world _ fun W hW => ?_
  obtain ⟨P0, P1, P2, P3, P4, hbW, hsW⟩ := blk5 w 38 33 38 39 112 [.int .i64 k.term, .int .i64 k.vote, .int .i64 k.snp.idx, .int .i64 k.snp.term, .slice A k.snp.v.length c, .slice B k.snp.l.length d, .string (text k.snp.b), .slice E k.ents.length n] [.int .i64 r.kind, .int .i64 r.term, .int .i64 r.vote, .int .i64 r.ent.idx, .int .i64 r.ent.term, .int .i64 r.ent.kind, .slice A1 r.ent.v.length c1, .slice B1 r.ent.l.length d1, .string (text r.ent.b), .int .i64 r.at_, .int .i64 r.snp.idx, .int .i64 r.snp.term, .slice A2 r.snp.v.length c2, .slice B2 r.snp.l.length d2, .string (text r.snp.b)] [.int .i64 0, .int .i64 0, .int .i64 0, .int .i64 0, .slice none 0 0, .slice none 0 0, .string ⟨#[]⟩, .slice none 0 0] [.int .i64 0] [.int .i64 k.term, .int .i64 k.vote, .int .i64 k.snp.idx, .int .i64 k.snp.term, .slice A k.snp.v.length c, .slice B k.snp.l.length d, .string (text k.snp.b), .slice E k.ents.length n, .int .i64 r.kind, .int .i64 r.term, .int .i64 r.vote, .int .i64 r.ent.idx, .int .i64 r.ent.term, .int .i64 r.ent.kind, .slice A1 r.ent.v.length c1, .slice B1 r.ent.l.length d1, .string (text r.ent.b), .int .i64 r.at_, .int .i64 r.snp.idx, .int .i64 r.snp.term, .slice A2 r.snp.v.length c2, .slice B2 r.snp.l.length d2, .string (text r.snp.b)] W hW
  clear hW
  have hbB : Below base w W := hbW.mono hbw
  refine (wput_Record r.da (r.cs A1 c1 B1 d1 A2 c2 B2 d2) W (((HA.out.cels c1 d1 c2 d2).below hbB).more (by omega)) (record_le _)).mono ?_
  rintro e w1 ⟨⟨A5, n5, c5, rfl, _⟩, hb⟩
  have HM := Lib.hid (show mayP r = _ from mayP_eq r)
  have R0 := Lib.hid (P0.below hb P0.lt)
  have R1 := Lib.hid (P1.below hb P1.lt)
  have R2 := Lib.hid (P2.below hb P2.lt)
  have R3 := Lib.hid (P3.below hb P3.lt)
  have R4 := Lib.hid (P4.below hb P4.lt)
  have HB1 : Hid (Below w.heap.size w w1) := Lib.hid (hbW.trans (hb.mono (by omega)))
  have HZ : Hid (w.heap.size + 1 + 1 + 1 + 1 + 1 ≤ w1.heap.size) := Lib.hid (by have := hb.size; omega)
  clear hb hbW hbB hsW P0 P1 P2 P3 P4
  have HK1 : Hid (KepOwn w1 base k A B E n) := Lib.hid (HK.out.keeps (ts := []) (Keeps.of_below HB1.out (Nat.le_refl _)) (by simp) (by simp))
  have HA1 : Hid (RcdAt' w1 (· < base) r A1 B1 A2 B2) := Lib.hid (HA.out.below (HB1.out.mono hbw))
  clear HK HA
  rw [show (lays shRecord r.da ([], 0)).2 = putE r from rfl]
  obtain ⟨nE, HNE⟩ : ∃ x : Nat, Hid (putE r = x) := ⟨_, Lib.hid rfl⟩
  rw [HNE.out]
  have e0 : w1.cell? ⟨w.heap.size + 1, 0, none⟩ = some (.int .i64 r.kind) := R1.out.cell 0
  have e1 : w1.cell? ⟨w.heap.size + 1, 1, none⟩ = some (.int .i64 r.term) := R1.out.cell 1
  have e2 : w1.cell? ⟨w.heap.size + 1, 2, none⟩ = some (.int .i64 r.vote) := R1.out.cell 2
  have e3 : w1.cell? ⟨w.heap.size + 1, 3, none⟩ = some (.int .i64 r.ent.idx) := R1.out.cell 3
  have e4 : w1.cell? ⟨w.heap.size + 1, 4, none⟩ = some (.int .i64 r.ent.term) := R1.out.cell 4
  have e5 : w1.cell? ⟨w.heap.size + 1, 5, none⟩ = some (.int .i64 r.ent.kind) := R1.out.cell 5
  have e6 : w1.cell? ⟨w.heap.size + 1, 6, none⟩ = some (.slice A1 r.ent.v.length c1) := R1.out.cell 6
  have e7 : w1.cell? ⟨w.heap.size + 1, 7, none⟩ = some (.slice B1 r.ent.l.length d1) := R1.out.cell 7
  have e8 : w1.cell? ⟨w.heap.size + 1, 8, none⟩ = some (.string (text r.ent.b)) := R1.out.cell 8
  have e9 : w1.cell? ⟨w.heap.size + 1, 9, none⟩ = some (.int .i64 r.at_) := R1.out.cell 9
  have e10 : w1.cell? ⟨w.heap.size + 1, 10, none⟩ = some (.int .i64 r.snp.idx) := R1.out.cell 10
  have e11 : w1.cell? ⟨w.heap.size + 1, 11, none⟩ = some (.int .i64 r.snp.term) := R1.out.cell 11
  have e12 : w1.cell? ⟨w.heap.size + 1, 12, none⟩ = some (.slice A2 r.snp.v.length c2) := R1.out.cell 12
  have e13 : w1.cell? ⟨w.heap.size + 1, 13, none⟩ = some (.slice B2 r.snp.l.length d2) := R1.out.cell 13
  have e14 : w1.cell? ⟨w.heap.size + 1, 14, none⟩ = some (.string (text r.snp.b)) := R1.out.cell 14
  go_wp2_with fail
  obtain ⟨bB, HbB⟩ : ∃ b, Hid (bareB r.kind (decide (r.term = 0 ∧ r.vote = 0)) (decide (r.ent = .zero)) (r.at_ == 0) (decide (r.snp = .zero)) = b) := ⟨_, Lib.hid rfl⟩
  refine (bare_any r A1 c1 B1 d1 A2 c2 B2 d2 w1 HS.out).mono ?_
  rw [HbB.out]
  rintro e w2 ⟨rfl, hb⟩
  have Q1 := Lib.hid (R1.out.below hb R1.out.lt)
  have Q2 := Lib.hid (R2.out.below hb R2.out.lt)
  have Q3 := Lib.hid (R3.out.below hb R3.out.lt)
  have Q4 := Lib.hid (R4.out.below hb R4.out.lt)
  have HB2 : Hid (Below w.heap.size w w2) := Lib.hid (HB1.out.trans (hb.mono (by have := HZ.out; omega)))
  have HZ2 : Hid (w.heap.size + 1 + 1 + 1 + 1 + 1 ≤ w2.heap.size) := Lib.hid (by have := hb.size; have := HZ.out; omega)
  have HK2 : Hid (KepOwn w2 base k A B E n) := Lib.hid (HK1.out.keeps (ts := []) (Keeps.of_below hb (Nat.le_refl _)) (by simp) (by simp))
  have HA2 : Hid (RcdAt' w2 (· < base) r A1 B1 A2 B2) := Lib.hid (HA1.out.below (hb.mono (by have := HZ.out; omega)))
  clear hb R0 R1 R2 R3 R4 HB1 HZ HK1 HA1 e0 e1 e2 e3 e4 e5 e6 e7 e8 e9 e10 e11 e12 e13 e14
  have HX : Hid (mayP r = (nE == 0 && bB)) := Lib.hid (by rw [HM.out, HNE.out, HbB.out])
  clear HM
  have i3 : w2.cell? ⟨w.heap.size + 1 + 1 + 1, 0, none⟩ = some (.int .i64 0) := Q3.out.cell 0
  have f3 : w2.frozen? ⟨w.heap.size + 1 + 1 + 1, 0, none⟩ = false := Q3.out.frozen 0
  have e0 : w2.cell? ⟨w.heap.size + 1, 0, none⟩ = some (.int .i64 r.kind) := Q1.out.cell 0
  have hmm := HX.out
  rw [HMM.out] at hmm
  obtain ⟨hn, rfl⟩ : nE = 0 ∧ bB = true := by simpa using hmm.symm
  have t1 : ((nE : Int) == 0) = true := by simpa using hn
  have u1 : (r.kind == 1) = true := by simpa using HQ.out
  clear HX hn hmm
  go_wp2_with fail
  refine (is_ok 140 _).mono ?_
  rintro e w3 ⟨rfl, rfl⟩
  go_wp2_with fail
  refine (vote_val k r A c B d E n A1 c1 B1 d1 A2 c2 B2 d2 base (w.heap.size + 1 + 1 + 1 + 1) w2 Q4.out (by omega) HQ.out HTT.out).mono ?_
  rintro e w3 ⟨rfl, hBB, hb3, hk3⟩
  have S2 := Lib.hid (Q2.out.keeps hk3 (by decide))
  have S3 := Lib.hid (Q3.out.keeps hk3 (by decide))
  have HB3 := Lib.hid ((HB2.out.mono hbw).trans (hb3.mono (by omega)))
  have HBB := Lib.hid hBB
  unfold foldCs at HBB
  have a0 : w3.cell? ⟨w.heap.size + 1 + 1 + 1 + 1, 0, none⟩ = some (.int .i64 r.term) := HBB.out.cell 0
  have a1 : w3.cell? ⟨w.heap.size + 1 + 1 + 1 + 1, 1, none⟩ = some (.int .i64 r.vote) := HBB.out.cell 1
  have a2 : w3.cell? ⟨w.heap.size + 1 + 1 + 1 + 1, 2, none⟩ = some (.int .i64 k.snp.idx) := HBB.out.cell 2
  have a3 : w3.cell? ⟨w.heap.size + 1 + 1 + 1 + 1, 3, none⟩ = some (.int .i64 k.snp.term) := HBB.out.cell 3
  have a4 : w3.cell? ⟨w.heap.size + 1 + 1 + 1 + 1, 4, none⟩ = some (.slice A k.snp.v.length c) := HBB.out.cell 4
  have a5 : w3.cell? ⟨w.heap.size + 1 + 1 + 1 + 1, 5, none⟩ = some (.slice B k.snp.l.length d) := HBB.out.cell 5
  have a6 : w3.cell? ⟨w.heap.size + 1 + 1 + 1 + 1, 6, none⟩ = some (.string (text k.snp.b)) := HBB.out.cell 6
  have a7 : w3.cell? ⟨w.heap.size + 1 + 1 + 1 + 1, 7, none⟩ = some (.slice E k.ents.length n) := HBB.out.cell 7
  have j3 : w3.cell? ⟨w.heap.size + 1 + 1 + 1, 0, none⟩ = some (.int .i64 0) := S3.out.cell 0
  have z3 : w3.frozen? ⟨w.heap.size + 1 + 1 + 1, 0, none⟩ = false := S3.out.frozen 0
  clear hb3 hk3 hBB Q1 Q2 Q3 Q4 HK2 HA2 i3 f3 e0
  have HI : Hid ((Tryz.prog.info? 38).map (·.size) = some 8) := Lib.hid (by kernel_rfl)
  go_wp2_with (first
    | ((with_reducible refine wpList_store_blk rfl 38 _ _ rfl (w.heap.size + 1 + 1) [.int .i64 r.term, .int .i64 r.vote, .int .i64 k.snp.idx, .int .i64 k.snp.term, .slice A k.snp.v.length c, .slice B k.snp.l.length d, .string (text k.snp.b), .slice E k.ents.length n] rfl rfl S2 (by simp) (by simp) HI (by simp [Value.oneCell']) ?_)
       intro w9 U
       have S9 := Lib.hid (U.out.other S3.out (by simp))
       have j9 : w9.cell? ⟨w.heap.size + 1 + 1 + 1, 0, none⟩ = some (.int .i64 0) := S9.out.cell 0
       have z9 : w9.frozen? ⟨w.heap.size + 1 + 1 + 1, 0, none⟩ = false := S9.out.frozen 0))
  have T3 : Hid (Blk (w9.setCell ⟨w.heap.size + 1 + 1 + 1, 0, none⟩ (.int .i64 0)) (w.heap.size + 1 + 1 + 1) 39 [.int .i64 0]) := Lib.hid (S9.out.set_ 0 (.int .i64 0))
  have T2 := Lib.hid (U.out.blk.far (p := ⟨w.heap.size + 1 + 1 + 1, 0, none⟩) (by simp) (.int .i64 0))
  have HE : Hid (Below base w (w9.setCell ⟨w.heap.size + 1 + 1 + 1, 0, none⟩ (.int .i64 0))) := Lib.hid ((U.out.below HB3.out (by omega)).setCell (by dsimp only; omega) _)
  have KE := Keeps.set_ (ts := [39]) (i := 0) S9.out.typ (by simp) (.int .i64 0)
  refine leaves_cons (f := 14) (args := #[.pointer (some ⟨w.heap.size + 1 + 1 + 1, 0, none⟩)]) (by simp) (by simp [go_sem]) ?_
  refine (scaught_idle _ _).mono ?_
  rintro e u' w'' ⟨rfl, rfl, rfl⟩
  refine leaves_cons (f := 48) (args := #[.pointer (some ⟨w.heap.size + 1 + 1 + 1, 0, none⟩), .pointer (some ⟨w.heap.size + 1 + 1, 0, none⟩)]) (by simp [settle]) (by simp [go_sem]) ?_
  refine (foldedD_ok _ _ _ _ (T3.out.cell 0)).mono ?_
  rintro e u' w'' ⟨rfl, rfl, rfl⟩
  have h3 := T3.out.cell 0
  have g0 := T2.out.cell 0
  have g1 := T2.out.cell 1
  have g2 := T2.out.cell 2
  have g3 := T2.out.cell 3
  have g4 := T2.out.cell 4
  have g5 := T2.out.cell 5
  have g6 := T2.out.cell 6
  have g7 := T2.out.cell 7
  simp only [List.getElem?_cons_zero, List.getElem?_cons_succ] at h3 g0 g1 g2 g3 g4 g5 g6 g7
  generalize w9.setCell ⟨w.heap.size + 1 + 1 + 1, 0, none⟩ (.int .i64 0) = wE at *
  simp [Leaves, settle, results, Tryz.results27, go_sem, h3, g0, g1, g2, g3, g4, g5, g6, g7]
  exact HE.out
end Go.Proofs.YtkdmfjpfanmgmaaGreatDoor
