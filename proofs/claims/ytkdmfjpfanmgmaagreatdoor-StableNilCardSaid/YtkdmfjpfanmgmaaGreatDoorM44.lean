/- Joined by mkmerge.py from the proof's texts Fold31. Conditions: each theorem's own hypotheses. -/
import Derived.Test.YtkdmfjpfanmgmaaGreatDoorM26
namespace Go.Proofs.YtkdmfjpfanmgmaaGreatDoor
open Go.RowKit Le
set_option maxRecDepth 100000
set_option linter.unusedSimpArgs false
set_option linter.unusedVariables false
set_option maxHeartbeats 3200000 in
theorem folded_keep (k : Kep) (r : Rcd) (A : Option Addr) (c : Nat) (B : Option Addr) (d : Nat) (E : Option Addr) (n : Nat) (A1 : Option Addr) (c1 : Nat) (B1 : Option Addr) (d1 : Nat) (A2 : Option Addr) (c2 : Nat) (B2 : Option Addr) (d2 : Nat) (base : Nat) (w : World) (hK : KepOwn w base k A B E n) (hbw : base ≤ w.heap.size) (hk : OkK k) (hA : RcdAt' w (· < base) r A1 B1 A2 B2) (hs : r.Small) :
    Calls Tryz.prog 27 #[.agg (k.cs A c B d E n).toArray, .agg (r.cs A1 c1 B1 d1 A2 c2 B2 d2).toArray] w fun e w' => ∃ k' A c B d E n, ∃ x : Nat, (k', x) = (if mayP r then foldedP k r else (.zero, 140)) ∧ e = .returned (.tuple #[.agg (k'.cs A c B d E n).toArray, .int .i64 x]) ∧ KepAt w' (Nw w' base [29, 3]) k' A B E ∧ Below base w w' ∧ Keeps [112, 29] w w' := by
  unfold Kep.cs Rcd.cs
  have HK := Lib.hid hK
  have HA := Lib.hid hA
  have HS := Lib.hid hs
  clear hK hA hs
  go_enter_defers Tryz.func27, Tryz.ntmps27
  go_wp2_with fail
  refine at_world _ fun W hW => ?_
  obtain ⟨P0, P1, P2, P3, P4, hbW, hsW⟩ := blk5 w 38 33 38 39 112 [.int .i64 k.term, .int .i64 k.vote, .int .i64 k.snp.idx, .int .i64 k.snp.term, .slice A k.snp.v.length c, .slice B k.snp.l.length d, .string (text k.snp.b), .slice E k.ents.length n] [.int .i64 r.kind, .int .i64 r.term, .int .i64 r.vote, .int .i64 r.ent.idx, .int .i64 r.ent.term, .int .i64 r.ent.kind, .slice A1 r.ent.v.length c1, .slice B1 r.ent.l.length d1, .string (text r.ent.b), .int .i64 r.at_, .int .i64 r.snp.idx, .int .i64 r.snp.term, .slice A2 r.snp.v.length c2, .slice B2 r.snp.l.length d2, .string (text r.snp.b)] [.int .i64 0, .int .i64 0, .int .i64 0, .int .i64 0, .slice none 0 0, .slice none 0 0, .string ⟨#[]⟩, .slice none 0 0] [.int .i64 0] [.int .i64 k.term, .int .i64 k.vote, .int .i64 k.snp.idx, .int .i64 k.snp.term, .slice A k.snp.v.length c, .slice B k.snp.l.length d, .string (text k.snp.b), .slice E k.ents.length n, .int .i64 r.kind, .int .i64 r.term, .int .i64 r.vote, .int .i64 r.ent.idx, .int .i64 r.ent.term, .int .i64 r.ent.kind, .slice A1 r.ent.v.length c1, .slice B1 r.ent.l.length d1, .string (text r.ent.b), .int .i64 r.at_, .int .i64 r.snp.idx, .int .i64 r.snp.term, .slice A2 r.snp.v.length c2, .slice B2 r.snp.l.length d2, .string (text r.snp.b)] W hW
  clear hW
  have hbB : Below base w W := hbW.mono hbw
  refine (wput_Record r.da (r.cs A1 c1 B1 d1 A2 c2 B2 d2) W (((HA.out.cels c1 d1 c2 d2).below hbB).more (by omega)) (record_le _)).mono ?_
  rintro e w1 ⟨⟨A5, n5, c5, rfl, _⟩, hb⟩
  have HM := Lib.hid (show mayP r = _ from mayP_eq r)
  have R0 := Lib.hid (P0.below hb P0.lt)
  have R1 := Lib.hid (P1.below hb P1.lt)
  have R2 := Lib.hid (P2.below hb P2.lt)
  have R3 := Lib.hid (P3.below hb P3.lt)
  have R4 := Lib.hid (P4.below hb P4.lt)
  have HB1 : Hid (Below w.heap.size w w1) := Lib.hid (hbW.trans (hb.mono (by omega)))
  have HZ : Hid (w.heap.size + 1 + 1 + 1 + 1 + 1 ≤ w1.heap.size) := Lib.hid (by have := hb.size; omega)
  clear hb hbW hbB hsW P0 P1 P2 P3 P4
  have HK1 : Hid (KepOwn w1 base k A B E n) := Lib.hid (HK.out.keeps (ts := []) (Keeps.of_below HB1.out (Nat.le_refl _)) (by simp) (by simp))
  have HA1 : Hid (RcdAt' w1 (· < base) r A1 B1 A2 B2) := Lib.hid (HA.out.below (HB1.out.mono hbw))
  clear HK HA
  rw [show (lays shRecord r.da ([], 0)).2 = putE r from rfl]
  obtain ⟨nE, HNE⟩ : ∃ x : Nat, Hid (putE r = x) := ⟨_, Lib.hid rfl⟩
  rw [HNE.out]
  have e0 : w1.cell? ⟨w.heap.size + 1, 0, none⟩ = some (.int .i64 r.kind) := R1.out.cell 0
  have e1 : w1.cell? ⟨w.heap.size + 1, 1, none⟩ = some (.int .i64 r.term) := R1.out.cell 1
  have e2 : w1.cell? ⟨w.heap.size + 1, 2, none⟩ = some (.int .i64 r.vote) := R1.out.cell 2
  have e3 : w1.cell? ⟨w.heap.size + 1, 3, none⟩ = some (.int .i64 r.ent.idx) := R1.out.cell 3
  have e4 : w1.cell? ⟨w.heap.size + 1, 4, none⟩ = some (.int .i64 r.ent.term) := R1.out.cell 4
  have e5 : w1.cell? ⟨w.heap.size + 1, 5, none⟩ = some (.int .i64 r.ent.kind) := R1.out.cell 5
  have e6 : w1.cell? ⟨w.heap.size + 1, 6, none⟩ = some (.slice A1 r.ent.v.length c1) := R1.out.cell 6
  have e7 : w1.cell? ⟨w.heap.size + 1, 7, none⟩ = some (.slice B1 r.ent.l.length d1) := R1.out.cell 7
  have e8 : w1.cell? ⟨w.heap.size + 1, 8, none⟩ = some (.string (text r.ent.b)) := R1.out.cell 8
  have e9 : w1.cell? ⟨w.heap.size + 1, 9, none⟩ = some (.int .i64 r.at_) := R1.out.cell 9
  have e10 : w1.cell? ⟨w.heap.size + 1, 10, none⟩ = some (.int .i64 r.snp.idx) := R1.out.cell 10
  have e11 : w1.cell? ⟨w.heap.size + 1, 11, none⟩ = some (.int .i64 r.snp.term) := R1.out.cell 11
  have e12 : w1.cell? ⟨w.heap.size + 1, 12, none⟩ = some (.slice A2 r.snp.v.length c2) := R1.out.cell 12
  have e13 : w1.cell? ⟨w.heap.size + 1, 13, none⟩ = some (.slice B2 r.snp.l.length d2) := R1.out.cell 13
  have e14 : w1.cell? ⟨w.heap.size + 1, 14, none⟩ = some (.string (text r.snp.b)) := R1.out.cell 14
  go_wp2_with fail
  obtain ⟨bB, HbB⟩ : ∃ b, Hid (bareB r.kind (decide (r.term = 0 ∧ r.vote = 0)) (decide (r.ent = .zero)) (r.at_ == 0) (decide (r.snp = .zero)) = b) := ⟨_, Lib.hid rfl⟩
  refine (bare_any r A1 c1 B1 d1 A2 c2 B2 d2 w1 HS.out).mono ?_
  rw [HbB.out]
  rintro e w2 ⟨rfl, hb⟩
  have Q1 := Lib.hid (R1.out.below hb R1.out.lt)
  have Q2 := Lib.hid (R2.out.below hb R2.out.lt)
  have Q3 := Lib.hid (R3.out.below hb R3.out.lt)
  have Q4 := Lib.hid (R4.out.below hb R4.out.lt)
  have HB2 : Hid (Below w.heap.size w w2) := Lib.hid (HB1.out.trans (hb.mono (by have := HZ.out; omega)))
  have HZ2 : Hid (w.heap.size + 1 + 1 + 1 + 1 + 1 ≤ w2.heap.size) := Lib.hid (by have := hb.size; have := HZ.out; omega)
  have HK2 : Hid (KepOwn w2 base k A B E n) := Lib.hid (HK1.out.keeps (ts := []) (Keeps.of_below hb (Nat.le_refl _)) (by simp) (by simp))
  have HA2 : Hid (RcdAt' w2 (· < base) r A1 B1 A2 B2) := Lib.hid (HA1.out.below (hb.mono (by have := HZ.out; omega)))
  clear hb R0 R1 R2 R3 R4 HB1 HZ HK1 HA1 e0 e1 e2 e3 e4 e5 e6 e7 e8 e9 e10 e11 e12 e13 e14
  have HX : Hid (mayP r = (nE == 0 && bB)) := Lib.hid (by rw [HM.out, HNE.out, HbB.out])
  clear HM
  have i3 : w2.cell? ⟨w.heap.size + 1 + 1 + 1, 0, none⟩ = some (.int .i64 0) := Q3.out.cell 0
  have f3 : w2.frozen? ⟨w.heap.size + 1 + 1 + 1, 0, none⟩ = false := Q3.out.frozen 0
  have e0 : w2.cell? ⟨w.heap.size + 1, 0, none⟩ = some (.int .i64 r.kind) := Q1.out.cell 0
  cases bB
  · have HY : Hid (mayP r = false) := Lib.hid (by rw [HX.out]; simp)
    clear HX
    go_wp2_with fail
    refine (is_no 140 _).mono ?_
    rintro e w3 ⟨rfl, rfl⟩
    refine leaves_cons (f := 14) (args := #[.pointer (some ⟨w.heap.size + 1 + 1 + 1, 0, none⟩)]) (by simp) (by simp [go_sem]) ?_
    refine (scaught_hit _ 140 0 _ _ i3 f3).mono ?_
    rintro e u' w'' ⟨rfl, rfl, rfl⟩
    have QA := Q3.out.set_ 0 (.int .i64 140)
    have QB := Q2.out.far (p := ⟨w.heap.size + 1 + 1 + 1, 0, none⟩) (by simp) (.int .i64 140)
    refine leaves_cons (f := 48) (args := #[.pointer (some ⟨w.heap.size + 1 + 1 + 1, 0, none⟩), .pointer (some ⟨w.heap.size + 1 + 1, 0, none⟩)]) (by simp [settle]) (by simp [go_sem]) ?_
    refine (foldedD_bad _ _ _ _ 140 _ _ _ _ _ _ _ _ (by decide) (by simp) (QA.cell 0) QB).mono ?_
    rintro e u' w4 ⟨rfl, rfl, hq, hb4, hc4⟩
    have g0 : w4.cell? ⟨w.heap.size + 1 + 1, 0, none⟩ = some (.int .i64 0) := hq.cell 0
    have g1 : w4.cell? ⟨w.heap.size + 1 + 1, 1, none⟩ = some (.int .i64 0) := hq.cell 1
    have g2 : w4.cell? ⟨w.heap.size + 1 + 1, 2, none⟩ = some (.int .i64 0) := hq.cell 2
    have g3 : w4.cell? ⟨w.heap.size + 1 + 1, 3, none⟩ = some (.int .i64 0) := hq.cell 3
    have g4 : w4.cell? ⟨w.heap.size + 1 + 1, 4, none⟩ = some (.slice none 0 0) := hq.cell 4
    have g5 : w4.cell? ⟨w.heap.size + 1 + 1, 5, none⟩ = some (.slice none 0 0) := hq.cell 5
    have g6 : w4.cell? ⟨w.heap.size + 1 + 1, 6, none⟩ = some (.string (text [])) := hq.cell 6
    have g7 : w4.cell? ⟨w.heap.size + 1 + 1, 7, none⟩ = some (.slice none 0 0) := hq.cell 7
    simp [Leaves, settle, results, Tryz.results48, go_sem, hc4, g0, g1, g2, g3, g4, g5, g6, g7]
    refine ⟨.zero, none, 0, none, 0, none, 0, 140, by rw [HY.out]; rfl, by simp [Kep.zero, Snp.zero], ⟨RowsAt.nil, RowsAt.nil, RowsAt.nil⟩, ?_⟩
    exact ⟨((HB2.out.mono hbw).setCell (by dsimp only; omega) _).trans (hb4.mono (by omega)), Keeps.of_below ((HB2.out.setCell (by dsimp only; omega) _).trans (hb4.mono (by omega))) (Nat.le_refl _)⟩
  · by_cases hn : nE = 0
    · have HY : Hid (mayP r = true) := Lib.hid (by rw [HX.out]; simp [hn])
      have t1 : ((nE : Int) == 0) = true := by simpa using hn
      have HPE := Lib.hid ((putE_ok r).1 (HNE.out.trans hn))
      clear HX hn
      go_wp2_with fail
      refine (is_ok 140 _).mono ?_
      rintro e w3 ⟨rfl, rfl⟩
      by_cases k1 : r.kind = 1
      · have HQ := Lib.hid k1
        have u1 : (r.kind == 1) = true := by simpa using k1
        clear k1
        go_wp2_with fail
        refine (vote_any k r A c B d E n A1 c1 B1 d1 A2 c2 B2 d2 base (w.heap.size + 1 + 1 + 1 + 1) w2 Q4.out HK2.out (by omega) HQ.out).mono ?_
        rintro e w3 ⟨hE, hb3, hk3⟩
        have HP3 : Hid (Keeps [112, 29] w w3) := Lib.hid ((Keeps.of_below HB2.out (Nat.le_refl _)).trans hk3)
        have S2 := Lib.hid (Q2.out.keeps hk3 (by decide))
        have S3 := Lib.hid (Q3.out.keeps hk3 (by decide))
        have HB3 := Lib.hid ((HB2.out.mono hbw).trans (hb3.mono (by omega)))
        rcases hE with ⟨X, hX0, hX, rfl⟩ | ⟨k', A', c', B', d', E', n', hX, rfl, hBB, hAA⟩
        · have HXX := Lib.hid hX
          have j3 : w3.cell? ⟨w.heap.size + 1 + 1 + 1, 0, none⟩ = some (.int .i64 0) := S3.out.cell 0
          have z3 : w3.frozen? ⟨w.heap.size + 1 + 1 + 1, 0, none⟩ = false := S3.out.frozen 0
          clear hX hb3 hk3
          refine leaves_cons (f := 14) (args := #[.pointer (some ⟨w.heap.size + 1 + 1 + 1, 0, none⟩)]) (by simp) (by simp [go_sem]) ?_
          refine (scaught_hit _ X 0 _ _ j3 z3).mono ?_
          rintro e u' w'' ⟨rfl, rfl, rfl⟩
          have QA := S3.out.set_ 0 (.int .i64 X)
          have QB := S2.out.far (p := ⟨w.heap.size + 1 + 1 + 1, 0, none⟩) (by simp) (.int .i64 X)
          refine leaves_cons (f := 48) (args := #[.pointer (some ⟨w.heap.size + 1 + 1 + 1, 0, none⟩), .pointer (some ⟨w.heap.size + 1 + 1, 0, none⟩)]) (by simp [settle]) (by simp [go_sem]) ?_
          refine (foldedD_bad _ _ _ _ X _ _ _ _ _ _ _ _ hX0 (by simp) (QA.cell 0) QB).mono ?_
          rintro e u' w4 ⟨rfl, rfl, hq, hb4, hc4⟩
          have g0 : w4.cell? ⟨w.heap.size + 1 + 1, 0, none⟩ = some (.int .i64 0) := hq.cell 0
          have g1 : w4.cell? ⟨w.heap.size + 1 + 1, 1, none⟩ = some (.int .i64 0) := hq.cell 1
          have g2 : w4.cell? ⟨w.heap.size + 1 + 1, 2, none⟩ = some (.int .i64 0) := hq.cell 2
          have g3 : w4.cell? ⟨w.heap.size + 1 + 1, 3, none⟩ = some (.int .i64 0) := hq.cell 3
          have g4 : w4.cell? ⟨w.heap.size + 1 + 1, 4, none⟩ = some (.slice none 0 0) := hq.cell 4
          have g5 : w4.cell? ⟨w.heap.size + 1 + 1, 5, none⟩ = some (.slice none 0 0) := hq.cell 5
          have g6 : w4.cell? ⟨w.heap.size + 1 + 1, 6, none⟩ = some (.string (text [])) := hq.cell 6
          have g7 : w4.cell? ⟨w.heap.size + 1 + 1, 7, none⟩ = some (.slice none 0 0) := hq.cell 7
          simp [Leaves, settle, results, Tryz.results48, go_sem, hc4, g0, g1, g2, g3, g4, g5, g6, g7]
          refine ⟨.zero, none, 0, none, 0, none, 0, X, by rw [HY.out, if_pos rfl, HXX.out], by simp [Kep.zero, Snp.zero], ⟨RowsAt.nil, RowsAt.nil, RowsAt.nil⟩, ?_⟩
          exact ⟨(HB3.out.setCell (by dsimp only; omega) _).trans (hb4.mono (by omega)), (HP3.out.below_new ((Below.refl _ _).setCell (by dsimp only; omega) _)).below_new (hb4.mono (by omega))⟩
        · have HXX := Lib.hid hX
          have HAA := Lib.hid hAA
          have HBB := Lib.hid hBB
          unfold foldCs at HBB
          have a0 : w3.cell? ⟨w.heap.size + 1 + 1 + 1 + 1, 0, none⟩ = some (.int .i64 k'.term) := HBB.out.cell 0
          have a1 : w3.cell? ⟨w.heap.size + 1 + 1 + 1 + 1, 1, none⟩ = some (.int .i64 k'.vote) := HBB.out.cell 1
          have a2 : w3.cell? ⟨w.heap.size + 1 + 1 + 1 + 1, 2, none⟩ = some (.int .i64 k'.snp.idx) := HBB.out.cell 2
          have a3 : w3.cell? ⟨w.heap.size + 1 + 1 + 1 + 1, 3, none⟩ = some (.int .i64 k'.snp.term) := HBB.out.cell 3
          have a4 : w3.cell? ⟨w.heap.size + 1 + 1 + 1 + 1, 4, none⟩ = some (.slice A' k'.snp.v.length c') := HBB.out.cell 4
          have a5 : w3.cell? ⟨w.heap.size + 1 + 1 + 1 + 1, 5, none⟩ = some (.slice B' k'.snp.l.length d') := HBB.out.cell 5
          have a6 : w3.cell? ⟨w.heap.size + 1 + 1 + 1 + 1, 6, none⟩ = some (.string (text k'.snp.b)) := HBB.out.cell 6
          have a7 : w3.cell? ⟨w.heap.size + 1 + 1 + 1 + 1, 7, none⟩ = some (.slice E' k'.ents.length n') := HBB.out.cell 7
          have j3 : w3.cell? ⟨w.heap.size + 1 + 1 + 1, 0, none⟩ = some (.int .i64 0) := S3.out.cell 0
          have z3 : w3.frozen? ⟨w.heap.size + 1 + 1 + 1, 0, none⟩ = false := S3.out.frozen 0
          clear hX hb3 hk3 hAA hBB Q1 Q2 Q3 Q4 HK2 HA2 i3 f3 e0
          have HI : Hid ((Tryz.prog.info? 38).map (·.size) = some 8) := Lib.hid (by kernel_rfl)
          go_wp2_with (first
            | ((with_reducible refine wpList_store_blk rfl 38 _ _ rfl (w.heap.size + 1 + 1) [.int .i64 k'.term, .int .i64 k'.vote, .int .i64 k'.snp.idx, .int .i64 k'.snp.term, .slice A' k'.snp.v.length c', .slice B' k'.snp.l.length d', .string (text k'.snp.b), .slice E' k'.ents.length n'] rfl rfl S2 (by simp) (by simp) HI (by simp [Value.oneCell']) ?_)
               intro w9 U
               have S9 := Lib.hid (U.out.other S3.out (by simp))
               have j9 : w9.cell? ⟨w.heap.size + 1 + 1 + 1, 0, none⟩ = some (.int .i64 0) := S9.out.cell 0
               have z9 : w9.frozen? ⟨w.heap.size + 1 + 1 + 1, 0, none⟩ = false := S9.out.frozen 0))
          have T3 : Hid (Blk (w9.setCell ⟨w.heap.size + 1 + 1 + 1, 0, none⟩ (.int .i64 0)) (w.heap.size + 1 + 1 + 1) 39 [.int .i64 0]) := Lib.hid (S9.out.set_ 0 (.int .i64 0))
          have T2 := Lib.hid (U.out.blk.far (p := ⟨w.heap.size + 1 + 1 + 1, 0, none⟩) (by simp) (.int .i64 0))
          have HE : Hid (Below base w (w9.setCell ⟨w.heap.size + 1 + 1 + 1, 0, none⟩ (.int .i64 0))) := Lib.hid ((U.out.below HB3.out (by omega)).setCell (by dsimp only; omega) _)
          have HPE : Hid (Keeps [112, 29] w (w9.setCell ⟨w.heap.size + 1 + 1 + 1, 0, none⟩ (.int .i64 0))) := Lib.hid ((HP3.out.below_new (U.out.below (Below.refl _ _) (by omega))).below_new ((Below.refl _ _).setCell (by dsimp only; omega) _))
          have KE := Keeps.set_ (ts := [39]) (i := 0) S9.out.typ (by simp) (.int .i64 0)
          have HA9 := Lib.hid (KepAt.mk ((HAA.out.v.nw_keeps U.out.keeps (by decide)).nw_keeps KE (by decide)) ((HAA.out.l.nw_keeps U.out.keeps (by decide)).nw_keeps KE (by decide)) ((HAA.out.e.nw_keeps U.out.keeps (by decide)).nw_keeps KE (by decide)))
          refine leaves_cons (f := 14) (args := #[.pointer (some ⟨w.heap.size + 1 + 1 + 1, 0, none⟩)]) (by simp) (by simp [go_sem]) ?_
          refine (scaught_idle _ _).mono ?_
          rintro e u' w'' ⟨rfl, rfl, rfl⟩
          refine leaves_cons (f := 48) (args := #[.pointer (some ⟨w.heap.size + 1 + 1 + 1, 0, none⟩), .pointer (some ⟨w.heap.size + 1 + 1, 0, none⟩)]) (by simp [settle]) (by simp [go_sem]) ?_
          refine (foldedD_ok _ _ _ _ (T3.out.cell 0)).mono ?_
          rintro e u' w'' ⟨rfl, rfl, rfl⟩
          have h3 := T3.out.cell 0
          have g0 := T2.out.cell 0
          have g1 := T2.out.cell 1
          have g2 := T2.out.cell 2
          have g3 := T2.out.cell 3
          have g4 := T2.out.cell 4
          have g5 := T2.out.cell 5
          have g6 := T2.out.cell 6
          have g7 := T2.out.cell 7
          simp only [List.getElem?_cons_zero, List.getElem?_cons_succ] at h3 g0 g1 g2 g3 g4 g5 g6 g7
          generalize w9.setCell ⟨w.heap.size + 1 + 1 + 1, 0, none⟩ (.int .i64 0) = wE at *
          simp [Leaves, settle, results, Tryz.results27, go_sem, h3, g0, g1, g2, g3, g4, g5, g6, g7]
          exact ⟨k', A', c', B', d', E', n', 0, by first | rw [HXX.out] | rw [HY.out, if_pos rfl, HXX.out], by simp, HA9.out, HE.out, HPE.out⟩
      by_cases k2 : r.kind = 2
      · have HQ := Lib.hid k2
        have u1 : (r.kind == 1) = false := by simpa using k1
        have u2 : (r.kind == 2) = true := by simpa using k2
        clear k1 k2
        go_wp2_with fail
        refine (entry_any k r A c B d E n A1 c1 B1 d1 A2 c2 B2 d2 base (w.heap.size + 1 + 1 + 1 + 1) base w2 Q4.out HK2.out (by omega) HQ.out hk (HA2.out.ev.more (by have := HZ2.out; omega)) (HA2.out.el.more (by have := HZ2.out; omega)) HS.out.e).mono ?_
        rintro e w3 ⟨hE, hb3, hk3⟩
        have HP3 : Hid (Keeps [112, 29] w w3) := Lib.hid ((Keeps.of_below HB2.out (Nat.le_refl _)).trans hk3)
        have S2 := Lib.hid (Q2.out.keeps hk3 (by decide))
        have S3 := Lib.hid (Q3.out.keeps hk3 (by decide))
        have HB3 := Lib.hid ((HB2.out.mono hbw).trans (hb3.mono (by omega)))
        rcases hE with ⟨X, hX0, hX, rfl⟩ | ⟨k', A', c', B', d', E', n', hX, rfl, hBB, hAA⟩
        · have HXX := Lib.hid hX
          have j3 : w3.cell? ⟨w.heap.size + 1 + 1 + 1, 0, none⟩ = some (.int .i64 0) := S3.out.cell 0
          have z3 : w3.frozen? ⟨w.heap.size + 1 + 1 + 1, 0, none⟩ = false := S3.out.frozen 0
          clear hX hb3 hk3
          refine leaves_cons (f := 14) (args := #[.pointer (some ⟨w.heap.size + 1 + 1 + 1, 0, none⟩)]) (by simp) (by simp [go_sem]) ?_
          refine (scaught_hit _ X 0 _ _ j3 z3).mono ?_
          rintro e u' w'' ⟨rfl, rfl, rfl⟩
          have QA := S3.out.set_ 0 (.int .i64 X)
          have QB := S2.out.far (p := ⟨w.heap.size + 1 + 1 + 1, 0, none⟩) (by simp) (.int .i64 X)
          refine leaves_cons (f := 48) (args := #[.pointer (some ⟨w.heap.size + 1 + 1 + 1, 0, none⟩), .pointer (some ⟨w.heap.size + 1 + 1, 0, none⟩)]) (by simp [settle]) (by simp [go_sem]) ?_
          refine (foldedD_bad _ _ _ _ X _ _ _ _ _ _ _ _ hX0 (by simp) (QA.cell 0) QB).mono ?_
          rintro e u' w4 ⟨rfl, rfl, hq, hb4, hc4⟩
          have g0 : w4.cell? ⟨w.heap.size + 1 + 1, 0, none⟩ = some (.int .i64 0) := hq.cell 0
          have g1 : w4.cell? ⟨w.heap.size + 1 + 1, 1, none⟩ = some (.int .i64 0) := hq.cell 1
          have g2 : w4.cell? ⟨w.heap.size + 1 + 1, 2, none⟩ = some (.int .i64 0) := hq.cell 2
          have g3 : w4.cell? ⟨w.heap.size + 1 + 1, 3, none⟩ = some (.int .i64 0) := hq.cell 3
          have g4 : w4.cell? ⟨w.heap.size + 1 + 1, 4, none⟩ = some (.slice none 0 0) := hq.cell 4
          have g5 : w4.cell? ⟨w.heap.size + 1 + 1, 5, none⟩ = some (.slice none 0 0) := hq.cell 5
          have g6 : w4.cell? ⟨w.heap.size + 1 + 1, 6, none⟩ = some (.string (text [])) := hq.cell 6
          have g7 : w4.cell? ⟨w.heap.size + 1 + 1, 7, none⟩ = some (.slice none 0 0) := hq.cell 7
          simp [Leaves, settle, results, Tryz.results48, go_sem, hc4, g0, g1, g2, g3, g4, g5, g6, g7]
          refine ⟨.zero, none, 0, none, 0, none, 0, X, by rw [HY.out, if_pos rfl, HXX.out], by simp [Kep.zero, Snp.zero], ⟨RowsAt.nil, RowsAt.nil, RowsAt.nil⟩, ?_⟩
          exact ⟨(HB3.out.setCell (by dsimp only; omega) _).trans (hb4.mono (by omega)), (HP3.out.below_new ((Below.refl _ _).setCell (by dsimp only; omega) _)).below_new (hb4.mono (by omega))⟩
        · have HXX := Lib.hid hX
          have HAA := Lib.hid hAA
          have HBB := Lib.hid hBB
          unfold foldCs at HBB
          have a0 : w3.cell? ⟨w.heap.size + 1 + 1 + 1 + 1, 0, none⟩ = some (.int .i64 k'.term) := HBB.out.cell 0
          have a1 : w3.cell? ⟨w.heap.size + 1 + 1 + 1 + 1, 1, none⟩ = some (.int .i64 k'.vote) := HBB.out.cell 1
          have a2 : w3.cell? ⟨w.heap.size + 1 + 1 + 1 + 1, 2, none⟩ = some (.int .i64 k'.snp.idx) := HBB.out.cell 2
          have a3 : w3.cell? ⟨w.heap.size + 1 + 1 + 1 + 1, 3, none⟩ = some (.int .i64 k'.snp.term) := HBB.out.cell 3
          have a4 : w3.cell? ⟨w.heap.size + 1 + 1 + 1 + 1, 4, none⟩ = some (.slice A' k'.snp.v.length c') := HBB.out.cell 4
          have a5 : w3.cell? ⟨w.heap.size + 1 + 1 + 1 + 1, 5, none⟩ = some (.slice B' k'.snp.l.length d') := HBB.out.cell 5
          have a6 : w3.cell? ⟨w.heap.size + 1 + 1 + 1 + 1, 6, none⟩ = some (.string (text k'.snp.b)) := HBB.out.cell 6
          have a7 : w3.cell? ⟨w.heap.size + 1 + 1 + 1 + 1, 7, none⟩ = some (.slice E' k'.ents.length n') := HBB.out.cell 7
          have j3 : w3.cell? ⟨w.heap.size + 1 + 1 + 1, 0, none⟩ = some (.int .i64 0) := S3.out.cell 0
          have z3 : w3.frozen? ⟨w.heap.size + 1 + 1 + 1, 0, none⟩ = false := S3.out.frozen 0
          clear hX hb3 hk3 hAA hBB Q1 Q2 Q3 Q4 HK2 HA2 i3 f3 e0
          have HI : Hid ((Tryz.prog.info? 38).map (·.size) = some 8) := Lib.hid (by kernel_rfl)
          go_wp2_with (first
            | ((with_reducible refine wpList_store_blk rfl 38 _ _ rfl (w.heap.size + 1 + 1) [.int .i64 k'.term, .int .i64 k'.vote, .int .i64 k'.snp.idx, .int .i64 k'.snp.term, .slice A' k'.snp.v.length c', .slice B' k'.snp.l.length d', .string (text k'.snp.b), .slice E' k'.ents.length n'] rfl rfl S2 (by simp) (by simp) HI (by simp [Value.oneCell']) ?_)
               intro w9 U
               have S9 := Lib.hid (U.out.other S3.out (by simp))
               have j9 : w9.cell? ⟨w.heap.size + 1 + 1 + 1, 0, none⟩ = some (.int .i64 0) := S9.out.cell 0
               have z9 : w9.frozen? ⟨w.heap.size + 1 + 1 + 1, 0, none⟩ = false := S9.out.frozen 0))
          have T3 : Hid (Blk (w9.setCell ⟨w.heap.size + 1 + 1 + 1, 0, none⟩ (.int .i64 0)) (w.heap.size + 1 + 1 + 1) 39 [.int .i64 0]) := Lib.hid (S9.out.set_ 0 (.int .i64 0))
          have T2 := Lib.hid (U.out.blk.far (p := ⟨w.heap.size + 1 + 1 + 1, 0, none⟩) (by simp) (.int .i64 0))
          have HE : Hid (Below base w (w9.setCell ⟨w.heap.size + 1 + 1 + 1, 0, none⟩ (.int .i64 0))) := Lib.hid ((U.out.below HB3.out (by omega)).setCell (by dsimp only; omega) _)
          have HPE : Hid (Keeps [112, 29] w (w9.setCell ⟨w.heap.size + 1 + 1 + 1, 0, none⟩ (.int .i64 0))) := Lib.hid ((HP3.out.below_new (U.out.below (Below.refl _ _) (by omega))).below_new ((Below.refl _ _).setCell (by dsimp only; omega) _))
          have KE := Keeps.set_ (ts := [39]) (i := 0) S9.out.typ (by simp) (.int .i64 0)
          have HA9 := Lib.hid (KepAt.mk ((HAA.out.v.nw_keeps U.out.keeps (by decide)).nw_keeps KE (by decide)) ((HAA.out.l.nw_keeps U.out.keeps (by decide)).nw_keeps KE (by decide)) ((HAA.out.e.nw_keeps U.out.keeps (by decide)).nw_keeps KE (by decide)))
          refine leaves_cons (f := 14) (args := #[.pointer (some ⟨w.heap.size + 1 + 1 + 1, 0, none⟩)]) (by simp) (by simp [go_sem]) ?_
          refine (scaught_idle _ _).mono ?_
          rintro e u' w'' ⟨rfl, rfl, rfl⟩
          refine leaves_cons (f := 48) (args := #[.pointer (some ⟨w.heap.size + 1 + 1 + 1, 0, none⟩), .pointer (some ⟨w.heap.size + 1 + 1, 0, none⟩)]) (by simp [settle]) (by simp [go_sem]) ?_
          refine (foldedD_ok _ _ _ _ (T3.out.cell 0)).mono ?_
          rintro e u' w'' ⟨rfl, rfl, rfl⟩
          have h3 := T3.out.cell 0
          have g0 := T2.out.cell 0
          have g1 := T2.out.cell 1
          have g2 := T2.out.cell 2
          have g3 := T2.out.cell 3
          have g4 := T2.out.cell 4
          have g5 := T2.out.cell 5
          have g6 := T2.out.cell 6
          have g7 := T2.out.cell 7
          simp only [List.getElem?_cons_zero, List.getElem?_cons_succ] at h3 g0 g1 g2 g3 g4 g5 g6 g7
          generalize w9.setCell ⟨w.heap.size + 1 + 1 + 1, 0, none⟩ (.int .i64 0) = wE at *
          simp [Leaves, settle, results, Tryz.results27, go_sem, h3, g0, g1, g2, g3, g4, g5, g6, g7]
          exact ⟨k', A', c', B', d', E', n', 0, by first | rw [HXX.out] | rw [HY.out, if_pos rfl, HXX.out], by simp, HA9.out, HE.out, HPE.out⟩
      by_cases k3 : r.kind = 3
      · have HQ := Lib.hid k3
        have u1 : (r.kind == 1) = false := by simpa using k1
        have u2 : (r.kind == 2) = false := by simpa using k2
        have u3 : (r.kind == 3) = true := by simpa using k3
        clear k1 k2 k3
        go_wp2_with fail
        refine (cut_any k r A c B d E n A1 c1 B1 d1 A2 c2 B2 d2 base (w.heap.size + 1 + 1 + 1 + 1) w2 Q4.out HK2.out (by omega) HQ.out hk HPE.out.2.2.2.2.1).mono ?_
        rintro e w3 ⟨hE, hb3, hk3⟩
        have HP3 : Hid (Keeps [112, 29] w w3) := Lib.hid ((Keeps.of_below HB2.out (Nat.le_refl _)).trans hk3)
        have S2 := Lib.hid (Q2.out.keeps hk3 (by decide))
        have S3 := Lib.hid (Q3.out.keeps hk3 (by decide))
        have HB3 := Lib.hid ((HB2.out.mono hbw).trans (hb3.mono (by omega)))
        rcases hE with ⟨X, hX0, hX, rfl⟩ | ⟨k', A', c', B', d', E', n', hX, rfl, hBB, hAA⟩
        · have HXX := Lib.hid hX
          have j3 : w3.cell? ⟨w.heap.size + 1 + 1 + 1, 0, none⟩ = some (.int .i64 0) := S3.out.cell 0
          have z3 : w3.frozen? ⟨w.heap.size + 1 + 1 + 1, 0, none⟩ = false := S3.out.frozen 0
          clear hX hb3 hk3
          refine leaves_cons (f := 14) (args := #[.pointer (some ⟨w.heap.size + 1 + 1 + 1, 0, none⟩)]) (by simp) (by simp [go_sem]) ?_
          refine (scaught_hit _ X 0 _ _ j3 z3).mono ?_
          rintro e u' w'' ⟨rfl, rfl, rfl⟩
          have QA := S3.out.set_ 0 (.int .i64 X)
          have QB := S2.out.far (p := ⟨w.heap.size + 1 + 1 + 1, 0, none⟩) (by simp) (.int .i64 X)
          refine leaves_cons (f := 48) (args := #[.pointer (some ⟨w.heap.size + 1 + 1 + 1, 0, none⟩), .pointer (some ⟨w.heap.size + 1 + 1, 0, none⟩)]) (by simp [settle]) (by simp [go_sem]) ?_
          refine (foldedD_bad _ _ _ _ X _ _ _ _ _ _ _ _ hX0 (by simp) (QA.cell 0) QB).mono ?_
          rintro e u' w4 ⟨rfl, rfl, hq, hb4, hc4⟩
          have g0 : w4.cell? ⟨w.heap.size + 1 + 1, 0, none⟩ = some (.int .i64 0) := hq.cell 0
          have g1 : w4.cell? ⟨w.heap.size + 1 + 1, 1, none⟩ = some (.int .i64 0) := hq.cell 1
          have g2 : w4.cell? ⟨w.heap.size + 1 + 1, 2, none⟩ = some (.int .i64 0) := hq.cell 2
          have g3 : w4.cell? ⟨w.heap.size + 1 + 1, 3, none⟩ = some (.int .i64 0) := hq.cell 3
          have g4 : w4.cell? ⟨w.heap.size + 1 + 1, 4, none⟩ = some (.slice none 0 0) := hq.cell 4
          have g5 : w4.cell? ⟨w.heap.size + 1 + 1, 5, none⟩ = some (.slice none 0 0) := hq.cell 5
          have g6 : w4.cell? ⟨w.heap.size + 1 + 1, 6, none⟩ = some (.string (text [])) := hq.cell 6
          have g7 : w4.cell? ⟨w.heap.size + 1 + 1, 7, none⟩ = some (.slice none 0 0) := hq.cell 7
          simp [Leaves, settle, results, Tryz.results48, go_sem, hc4, g0, g1, g2, g3, g4, g5, g6, g7]
          refine ⟨.zero, none, 0, none, 0, none, 0, X, by rw [HY.out, if_pos rfl, HXX.out], by simp [Kep.zero, Snp.zero], ⟨RowsAt.nil, RowsAt.nil, RowsAt.nil⟩, ?_⟩
          exact ⟨(HB3.out.setCell (by dsimp only; omega) _).trans (hb4.mono (by omega)), (HP3.out.below_new ((Below.refl _ _).setCell (by dsimp only; omega) _)).below_new (hb4.mono (by omega))⟩
        · have HXX := Lib.hid hX
          have HAA := Lib.hid hAA
          have HBB := Lib.hid hBB
          unfold foldCs at HBB
          have a0 : w3.cell? ⟨w.heap.size + 1 + 1 + 1 + 1, 0, none⟩ = some (.int .i64 k'.term) := HBB.out.cell 0
          have a1 : w3.cell? ⟨w.heap.size + 1 + 1 + 1 + 1, 1, none⟩ = some (.int .i64 k'.vote) := HBB.out.cell 1
          have a2 : w3.cell? ⟨w.heap.size + 1 + 1 + 1 + 1, 2, none⟩ = some (.int .i64 k'.snp.idx) := HBB.out.cell 2
          have a3 : w3.cell? ⟨w.heap.size + 1 + 1 + 1 + 1, 3, none⟩ = some (.int .i64 k'.snp.term) := HBB.out.cell 3
          have a4 : w3.cell? ⟨w.heap.size + 1 + 1 + 1 + 1, 4, none⟩ = some (.slice A' k'.snp.v.length c') := HBB.out.cell 4
          have a5 : w3.cell? ⟨w.heap.size + 1 + 1 + 1 + 1, 5, none⟩ = some (.slice B' k'.snp.l.length d') := HBB.out.cell 5
          have a6 : w3.cell? ⟨w.heap.size + 1 + 1 + 1 + 1, 6, none⟩ = some (.string (text k'.snp.b)) := HBB.out.cell 6
          have a7 : w3.cell? ⟨w.heap.size + 1 + 1 + 1 + 1, 7, none⟩ = some (.slice E' k'.ents.length n') := HBB.out.cell 7
          have j3 : w3.cell? ⟨w.heap.size + 1 + 1 + 1, 0, none⟩ = some (.int .i64 0) := S3.out.cell 0
          have z3 : w3.frozen? ⟨w.heap.size + 1 + 1 + 1, 0, none⟩ = false := S3.out.frozen 0
          clear hX hb3 hk3 hAA hBB Q1 Q2 Q3 Q4 HK2 HA2 i3 f3 e0
          have HI : Hid ((Tryz.prog.info? 38).map (·.size) = some 8) := Lib.hid (by kernel_rfl)
          go_wp2_with (first
            | ((with_reducible refine wpList_store_blk rfl 38 _ _ rfl (w.heap.size + 1 + 1) [.int .i64 k'.term, .int .i64 k'.vote, .int .i64 k'.snp.idx, .int .i64 k'.snp.term, .slice A' k'.snp.v.length c', .slice B' k'.snp.l.length d', .string (text k'.snp.b), .slice E' k'.ents.length n'] rfl rfl S2 (by simp) (by simp) HI (by simp [Value.oneCell']) ?_)
               intro w9 U
               have S9 := Lib.hid (U.out.other S3.out (by simp))
               have j9 : w9.cell? ⟨w.heap.size + 1 + 1 + 1, 0, none⟩ = some (.int .i64 0) := S9.out.cell 0
               have z9 : w9.frozen? ⟨w.heap.size + 1 + 1 + 1, 0, none⟩ = false := S9.out.frozen 0))
          have T3 : Hid (Blk (w9.setCell ⟨w.heap.size + 1 + 1 + 1, 0, none⟩ (.int .i64 0)) (w.heap.size + 1 + 1 + 1) 39 [.int .i64 0]) := Lib.hid (S9.out.set_ 0 (.int .i64 0))
          have T2 := Lib.hid (U.out.blk.far (p := ⟨w.heap.size + 1 + 1 + 1, 0, none⟩) (by simp) (.int .i64 0))
          have HE : Hid (Below base w (w9.setCell ⟨w.heap.size + 1 + 1 + 1, 0, none⟩ (.int .i64 0))) := Lib.hid ((U.out.below HB3.out (by omega)).setCell (by dsimp only; omega) _)
          have HPE : Hid (Keeps [112, 29] w (w9.setCell ⟨w.heap.size + 1 + 1 + 1, 0, none⟩ (.int .i64 0))) := Lib.hid ((HP3.out.below_new (U.out.below (Below.refl _ _) (by omega))).below_new ((Below.refl _ _).setCell (by dsimp only; omega) _))
          have KE := Keeps.set_ (ts := [39]) (i := 0) S9.out.typ (by simp) (.int .i64 0)
          have HA9 := Lib.hid (KepAt.mk ((HAA.out.v.nw_keeps U.out.keeps (by decide)).nw_keeps KE (by decide)) ((HAA.out.l.nw_keeps U.out.keeps (by decide)).nw_keeps KE (by decide)) ((HAA.out.e.nw_keeps U.out.keeps (by decide)).nw_keeps KE (by decide)))
          refine leaves_cons (f := 14) (args := #[.pointer (some ⟨w.heap.size + 1 + 1 + 1, 0, none⟩)]) (by simp) (by simp [go_sem]) ?_
          refine (scaught_idle _ _).mono ?_
          rintro e u' w'' ⟨rfl, rfl, rfl⟩
          refine leaves_cons (f := 48) (args := #[.pointer (some ⟨w.heap.size + 1 + 1 + 1, 0, none⟩), .pointer (some ⟨w.heap.size + 1 + 1, 0, none⟩)]) (by simp [settle]) (by simp [go_sem]) ?_
          refine (foldedD_ok _ _ _ _ (T3.out.cell 0)).mono ?_
          rintro e u' w'' ⟨rfl, rfl, rfl⟩
          have h3 := T3.out.cell 0
          have g0 := T2.out.cell 0
          have g1 := T2.out.cell 1
          have g2 := T2.out.cell 2
          have g3 := T2.out.cell 3
          have g4 := T2.out.cell 4
          have g5 := T2.out.cell 5
          have g6 := T2.out.cell 6
          have g7 := T2.out.cell 7
          simp only [List.getElem?_cons_zero, List.getElem?_cons_succ] at h3 g0 g1 g2 g3 g4 g5 g6 g7
          generalize w9.setCell ⟨w.heap.size + 1 + 1 + 1, 0, none⟩ (.int .i64 0) = wE at *
          simp [Leaves, settle, results, Tryz.results27, go_sem, h3, g0, g1, g2, g3, g4, g5, g6, g7]
          exact ⟨k', A', c', B', d', E', n', 0, by first | rw [HXX.out] | rw [HY.out, if_pos rfl, HXX.out], by simp, HA9.out, HE.out, HPE.out⟩
      by_cases k4 : r.kind = 4
      · have HQ := Lib.hid k4
        have u1 : (r.kind == 1) = false := by simpa using k1
        have u2 : (r.kind == 2) = false := by simpa using k2
        have u3 : (r.kind == 3) = false := by simpa using k3
        have u4 : (r.kind == 4) = true := by simpa using k4
        clear k1 k2 k3 k4
        go_wp2_with fail
        refine (snap_any k r A c B d E n A1 c1 B1 d1 A2 c2 B2 d2 base (w.heap.size + 1 + 1 + 1 + 1) w2 Q4.out HK2.out (by omega) HQ.out hk HPE.out.2.2.2.2.2.idx HA2.out.sv HA2.out.sl HS.out.s).mono ?_
        rintro e w3 ⟨hE, hb3, hk3⟩
        have HP3 : Hid (Keeps [112, 29] w w3) := Lib.hid ((Keeps.of_below HB2.out (Nat.le_refl _)).trans hk3)
        have S2 := Lib.hid (Q2.out.keeps hk3 (by decide))
        have S3 := Lib.hid (Q3.out.keeps hk3 (by decide))
        have HB3 := Lib.hid ((HB2.out.mono hbw).trans (hb3.mono (by omega)))
        rcases hE with ⟨X, hX0, hX, rfl⟩ | ⟨k', A', c', B', d', E', n', hX, rfl, hBB, hAA⟩
        · have HXX := Lib.hid hX
          have j3 : w3.cell? ⟨w.heap.size + 1 + 1 + 1, 0, none⟩ = some (.int .i64 0) := S3.out.cell 0
          have z3 : w3.frozen? ⟨w.heap.size + 1 + 1 + 1, 0, none⟩ = false := S3.out.frozen 0
          clear hX hb3 hk3
          refine leaves_cons (f := 14) (args := #[.pointer (some ⟨w.heap.size + 1 + 1 + 1, 0, none⟩)]) (by simp) (by simp [go_sem]) ?_
          refine (scaught_hit _ X 0 _ _ j3 z3).mono ?_
          rintro e u' w'' ⟨rfl, rfl, rfl⟩
          have QA := S3.out.set_ 0 (.int .i64 X)
          have QB := S2.out.far (p := ⟨w.heap.size + 1 + 1 + 1, 0, none⟩) (by simp) (.int .i64 X)
          refine leaves_cons (f := 48) (args := #[.pointer (some ⟨w.heap.size + 1 + 1 + 1, 0, none⟩), .pointer (some ⟨w.heap.size + 1 + 1, 0, none⟩)]) (by simp [settle]) (by simp [go_sem]) ?_
          refine (foldedD_bad _ _ _ _ X _ _ _ _ _ _ _ _ hX0 (by simp) (QA.cell 0) QB).mono ?_
          rintro e u' w4 ⟨rfl, rfl, hq, hb4, hc4⟩
          have g0 : w4.cell? ⟨w.heap.size + 1 + 1, 0, none⟩ = some (.int .i64 0) := hq.cell 0
          have g1 : w4.cell? ⟨w.heap.size + 1 + 1, 1, none⟩ = some (.int .i64 0) := hq.cell 1
          have g2 : w4.cell? ⟨w.heap.size + 1 + 1, 2, none⟩ = some (.int .i64 0) := hq.cell 2
          have g3 : w4.cell? ⟨w.heap.size + 1 + 1, 3, none⟩ = some (.int .i64 0) := hq.cell 3
          have g4 : w4.cell? ⟨w.heap.size + 1 + 1, 4, none⟩ = some (.slice none 0 0) := hq.cell 4
          have g5 : w4.cell? ⟨w.heap.size + 1 + 1, 5, none⟩ = some (.slice none 0 0) := hq.cell 5
          have g6 : w4.cell? ⟨w.heap.size + 1 + 1, 6, none⟩ = some (.string (text [])) := hq.cell 6
          have g7 : w4.cell? ⟨w.heap.size + 1 + 1, 7, none⟩ = some (.slice none 0 0) := hq.cell 7
          simp [Leaves, settle, results, Tryz.results48, go_sem, hc4, g0, g1, g2, g3, g4, g5, g6, g7]
          refine ⟨.zero, none, 0, none, 0, none, 0, X, by rw [HY.out, if_pos rfl, HXX.out], by simp [Kep.zero, Snp.zero], ⟨RowsAt.nil, RowsAt.nil, RowsAt.nil⟩, ?_⟩
          exact ⟨(HB3.out.setCell (by dsimp only; omega) _).trans (hb4.mono (by omega)), (HP3.out.below_new ((Below.refl _ _).setCell (by dsimp only; omega) _)).below_new (hb4.mono (by omega))⟩
        · have HXX := Lib.hid hX
          have HAA := Lib.hid hAA
          have HBB := Lib.hid hBB
          unfold foldCs at HBB
          have a0 : w3.cell? ⟨w.heap.size + 1 + 1 + 1 + 1, 0, none⟩ = some (.int .i64 k'.term) := HBB.out.cell 0
          have a1 : w3.cell? ⟨w.heap.size + 1 + 1 + 1 + 1, 1, none⟩ = some (.int .i64 k'.vote) := HBB.out.cell 1
          have a2 : w3.cell? ⟨w.heap.size + 1 + 1 + 1 + 1, 2, none⟩ = some (.int .i64 k'.snp.idx) := HBB.out.cell 2
          have a3 : w3.cell? ⟨w.heap.size + 1 + 1 + 1 + 1, 3, none⟩ = some (.int .i64 k'.snp.term) := HBB.out.cell 3
          have a4 : w3.cell? ⟨w.heap.size + 1 + 1 + 1 + 1, 4, none⟩ = some (.slice A' k'.snp.v.length c') := HBB.out.cell 4
          have a5 : w3.cell? ⟨w.heap.size + 1 + 1 + 1 + 1, 5, none⟩ = some (.slice B' k'.snp.l.length d') := HBB.out.cell 5
          have a6 : w3.cell? ⟨w.heap.size + 1 + 1 + 1 + 1, 6, none⟩ = some (.string (text k'.snp.b)) := HBB.out.cell 6
          have a7 : w3.cell? ⟨w.heap.size + 1 + 1 + 1 + 1, 7, none⟩ = some (.slice E' k'.ents.length n') := HBB.out.cell 7
          have j3 : w3.cell? ⟨w.heap.size + 1 + 1 + 1, 0, none⟩ = some (.int .i64 0) := S3.out.cell 0
          have z3 : w3.frozen? ⟨w.heap.size + 1 + 1 + 1, 0, none⟩ = false := S3.out.frozen 0
          clear hX hb3 hk3 hAA hBB Q1 Q2 Q3 Q4 HK2 HA2 i3 f3 e0
          have HI : Hid ((Tryz.prog.info? 38).map (·.size) = some 8) := Lib.hid (by kernel_rfl)
          go_wp2_with (first
            | ((with_reducible refine wpList_store_blk rfl 38 _ _ rfl (w.heap.size + 1 + 1) [.int .i64 k'.term, .int .i64 k'.vote, .int .i64 k'.snp.idx, .int .i64 k'.snp.term, .slice A' k'.snp.v.length c', .slice B' k'.snp.l.length d', .string (text k'.snp.b), .slice E' k'.ents.length n'] rfl rfl S2 (by simp) (by simp) HI (by simp [Value.oneCell']) ?_)
               intro w9 U
               have S9 := Lib.hid (U.out.other S3.out (by simp))
               have j9 : w9.cell? ⟨w.heap.size + 1 + 1 + 1, 0, none⟩ = some (.int .i64 0) := S9.out.cell 0
               have z9 : w9.frozen? ⟨w.heap.size + 1 + 1 + 1, 0, none⟩ = false := S9.out.frozen 0))
          have T3 : Hid (Blk (w9.setCell ⟨w.heap.size + 1 + 1 + 1, 0, none⟩ (.int .i64 0)) (w.heap.size + 1 + 1 + 1) 39 [.int .i64 0]) := Lib.hid (S9.out.set_ 0 (.int .i64 0))
          have T2 := Lib.hid (U.out.blk.far (p := ⟨w.heap.size + 1 + 1 + 1, 0, none⟩) (by simp) (.int .i64 0))
          have HE : Hid (Below base w (w9.setCell ⟨w.heap.size + 1 + 1 + 1, 0, none⟩ (.int .i64 0))) := Lib.hid ((U.out.below HB3.out (by omega)).setCell (by dsimp only; omega) _)
          have HPE : Hid (Keeps [112, 29] w (w9.setCell ⟨w.heap.size + 1 + 1 + 1, 0, none⟩ (.int .i64 0))) := Lib.hid ((HP3.out.below_new (U.out.below (Below.refl _ _) (by omega))).below_new ((Below.refl _ _).setCell (by dsimp only; omega) _))
          have KE := Keeps.set_ (ts := [39]) (i := 0) S9.out.typ (by simp) (.int .i64 0)
          have HA9 := Lib.hid (KepAt.mk ((HAA.out.v.nw_keeps U.out.keeps (by decide)).nw_keeps KE (by decide)) ((HAA.out.l.nw_keeps U.out.keeps (by decide)).nw_keeps KE (by decide)) ((HAA.out.e.nw_keeps U.out.keeps (by decide)).nw_keeps KE (by decide)))
          refine leaves_cons (f := 14) (args := #[.pointer (some ⟨w.heap.size + 1 + 1 + 1, 0, none⟩)]) (by simp) (by simp [go_sem]) ?_
          refine (scaught_idle _ _).mono ?_
          rintro e u' w'' ⟨rfl, rfl, rfl⟩
          refine leaves_cons (f := 48) (args := #[.pointer (some ⟨w.heap.size + 1 + 1 + 1, 0, none⟩), .pointer (some ⟨w.heap.size + 1 + 1, 0, none⟩)]) (by simp [settle]) (by simp [go_sem]) ?_
          refine (foldedD_ok _ _ _ _ (T3.out.cell 0)).mono ?_
          rintro e u' w'' ⟨rfl, rfl, rfl⟩
          have h3 := T3.out.cell 0
          have g0 := T2.out.cell 0
          have g1 := T2.out.cell 1
          have g2 := T2.out.cell 2
          have g3 := T2.out.cell 3
          have g4 := T2.out.cell 4
          have g5 := T2.out.cell 5
          have g6 := T2.out.cell 6
          have g7 := T2.out.cell 7
          simp only [List.getElem?_cons_zero, List.getElem?_cons_succ] at h3 g0 g1 g2 g3 g4 g5 g6 g7
          generalize w9.setCell ⟨w.heap.size + 1 + 1 + 1, 0, none⟩ (.int .i64 0) = wE at *
          simp [Leaves, settle, results, Tryz.results27, go_sem, h3, g0, g1, g2, g3, g4, g5, g6, g7]
          exact ⟨k', A', c', B', d', E', n', 0, by first | rw [HXX.out] | rw [HY.out, if_pos rfl, HXX.out], by simp, HA9.out, HE.out, HPE.out⟩
      exact absurd (bareB_none k1 k2 k3 k4) (by rw [HbB.out]; decide)
    · have HY : Hid (mayP r = false) := Lib.hid (by rw [HX.out]; simp [hn])
      have t1 : ((nE : Int) == 0) = false := by simpa using hn
      clear HX hn
      go_wp2_with fail
      refine (is_no 140 _).mono ?_
      rintro e w3 ⟨rfl, rfl⟩
      refine leaves_cons (f := 14) (args := #[.pointer (some ⟨w.heap.size + 1 + 1 + 1, 0, none⟩)]) (by simp) (by simp [go_sem]) ?_
      refine (scaught_hit _ 140 0 _ _ i3 f3).mono ?_
      rintro e u' w'' ⟨rfl, rfl, rfl⟩
      have QA := Q3.out.set_ 0 (.int .i64 140)
      have QB := Q2.out.far (p := ⟨w.heap.size + 1 + 1 + 1, 0, none⟩) (by simp) (.int .i64 140)
      refine leaves_cons (f := 48) (args := #[.pointer (some ⟨w.heap.size + 1 + 1 + 1, 0, none⟩), .pointer (some ⟨w.heap.size + 1 + 1, 0, none⟩)]) (by simp [settle]) (by simp [go_sem]) ?_
      refine (foldedD_bad _ _ _ _ 140 _ _ _ _ _ _ _ _ (by decide) (by simp) (QA.cell 0) QB).mono ?_
      rintro e u' w4 ⟨rfl, rfl, hq, hb4, hc4⟩
      have g0 : w4.cell? ⟨w.heap.size + 1 + 1, 0, none⟩ = some (.int .i64 0) := hq.cell 0
      have g1 : w4.cell? ⟨w.heap.size + 1 + 1, 1, none⟩ = some (.int .i64 0) := hq.cell 1
      have g2 : w4.cell? ⟨w.heap.size + 1 + 1, 2, none⟩ = some (.int .i64 0) := hq.cell 2
      have g3 : w4.cell? ⟨w.heap.size + 1 + 1, 3, none⟩ = some (.int .i64 0) := hq.cell 3
      have g4 : w4.cell? ⟨w.heap.size + 1 + 1, 4, none⟩ = some (.slice none 0 0) := hq.cell 4
      have g5 : w4.cell? ⟨w.heap.size + 1 + 1, 5, none⟩ = some (.slice none 0 0) := hq.cell 5
      have g6 : w4.cell? ⟨w.heap.size + 1 + 1, 6, none⟩ = some (.string (text [])) := hq.cell 6
      have g7 : w4.cell? ⟨w.heap.size + 1 + 1, 7, none⟩ = some (.slice none 0 0) := hq.cell 7
      simp [Leaves, settle, results, Tryz.results48, go_sem, hc4, g0, g1, g2, g3, g4, g5, g6, g7]
      refine ⟨.zero, none, 0, none, 0, none, 0, 140, by rw [HY.out]; rfl, by simp [Kep.zero, Snp.zero], ⟨RowsAt.nil, RowsAt.nil, RowsAt.nil⟩, ?_⟩
      exact ⟨((HB2.out.mono hbw).setCell (by dsimp only; omega) _).trans (hb4.mono (by omega)), Keeps.of_below ((HB2.out.setCell (by dsimp only; omega) _).trans (hb4.mono (by omega))) (Nat.le_refl _)⟩
end Go.Proofs.YtkdmfjpfanmgmaaGreatDoor
