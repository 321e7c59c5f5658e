/- Joined by mkmerge.py from the proof's texts Fold9. Conditions: each theorem's own hypotheses. -/
import Derived.Test.YtkdmfjpfanmgmaaGreatDoorM19
import Derived.StillTailTactics
namespace Go.Proofs.YtkdmfjpfanmgmaaGreatDoor
open Go.RowKit Le
set_option maxRecDepth 100000
set_option linter.unusedSimpArgs false
set_option linter.unusedVariables false
theorem etake_ne {l1 l2 : List Ent} {j : Nat} (h1 : j < l1.length) (h2 : j < l2.length) (h : (l1[j]'h1) ≠ (l2[j]'h2)) : l1 ≠ l2 := by
  rintro rfl
  exact h rfl
theorem etake_snoc_eq {l1 l2 : List Ent} {j : Nat} (h1 : j < l1.length) (h2 : j < l2.length) (h : l1.take j = l2.take j) (he : (l1[j]'h1) = (l2[j]'h2)) : l1.take (j + 1) = l2.take (j + 1) := by
  rw [List.take_succ_eq_append_getElem h1, List.take_succ_eq_append_getElem h2, h, he]
theorem kep_ext {a b : Kep} (h0 : a.term = b.term) (h1 : a.vote = b.vote) (h2 : a.snp = b.snp) (h3 : a.ents = b.ents) : a = b := by
  cases a; cases b; simp only at *; subst h0 h1 h2 h3; rfl
set_option maxHeartbeats 3200000 in
theorem Same_any (a b : Kep) (A : Option Addr) (c : Nat) (B : Option Addr) (d : Nat) (E : Option Addr) (n : Nat) (A' : Option Addr) (c' : Nat) (B' : Option Addr) (d' : Nat) (E' : Option Addr) (n' : Nat) (w : World)
    (ha : KepAt w (· < w.heap.size) a A B E) (hb : KepAt w (· < w.heap.size) b A' B' E') (hs : a.Small) (hs' : b.Small) :
    Calls Tryz.prog 7 #[.agg (a.cs A c B d E n).toArray, .agg (b.cs A' c' B' d' E' n').toArray] w (TestEnd w (decide (a = b))) := by
  unfold Kep.cs
  have HA := Lib.hid ha
  have HB := Lib.hid hb
  have HS := Lib.hid hs
  have HS' := Lib.hid hs'
  have hn := hs.n
  have hn' := hs'.n
  have P := blk2 w 38 38 [.int .i64 a.term, .int .i64 a.vote, .int .i64 a.snp.idx, .int .i64 a.snp.term, .slice A a.snp.v.length c, .slice B a.snp.l.length d, .string (text a.snp.b), .slice E a.ents.length n] [.int .i64 b.term, .int .i64 b.vote, .int .i64 b.snp.idx, .int .i64 b.snp.term, .slice A' b.snp.v.length c', .slice B' b.snp.l.length d', .string (text b.snp.b), .slice E' b.ents.length n']
  have P0 := Lib.hid P.1
  have P1 := Lib.hid P.2
  clear ha hb hs hs' P
  by_cases h0 : a.term = b.term
  · by_cases h1 : a.vote = b.vote
    · by_cases h2 : a.snp = b.snp
      · have HD : Hid (decide (a.snp = b.snp) = true) := Lib.hid (decide_eq_true h2)
        have HX2 := Lib.hid h2
        have HX0 := Lib.hid h0
        have HX1 := Lib.hid h1
        rw [h0, h1] at P0 P1 ⊢
        clear h0 h1 h2
        obtain ⟨r, hr⟩ : ∃ r, decide (a = b) = r := ⟨_, rfl⟩
        rw [hr]
        have HR := Lib.hid hr
        clear hr
        go_enter Tryz.func7, Tryz.ntmps7
        go_wp2_with fail
        refine at_below w _ (by repeat (first | with_reducible exact Below.refl _ _ | with_reducible assumption | (with_reducible refine Below.setCell ?_ (by dsimp only; (first | omega | (simp; done) | (simp; omega))) _) | (with_reducible refine Below.alloc ?_ (by (first | omega | (simp; done) | (simp; omega))) _) | with_reducible refine Below.drew ?_)) fun HBx => ?_
        refine (Snaps_any a.snp b.snp A c B d A' c' B' d' _ ((HA.out.v.below HBx).more (by (first | omega | (simp; done) | (simp; omega)))) ((HA.out.l.below HBx).more (by (first | omega | (simp; done) | (simp; omega)))) ((HB.out.v.below HBx).more (by (first | omega | (simp; done) | (simp; omega)))) ((HB.out.l.below HBx).more (by (first | omega | (simp; done) | (simp; omega)))) HS.out.s HS'.out.s).mono ?_
        rw [HD.out]
        rintro e w1 ⟨rfl, hb⟩
        have HB1 := Lib.hid (HBx.trans (hb.mono (by (first | omega | (simp; done) | (simp; omega)))))
        have R0 := Lib.hid (P0.out.below hb P0.out.lt)
        have R1 := Lib.hid (P1.out.below hb P1.out.lt)
        have a7 : w1.cell? ⟨w.heap.size, 7, none⟩ = some (.slice E a.ents.length n) := R0.out.cell 7
        have b7 : w1.cell? ⟨w.heap.size + 1, 7, none⟩ = some (.slice E' b.ents.length n') := R1.out.cell 7
        clear hb HBx P0 P1
        by_cases hl : a.ents.length = b.ents.length
        · have HL := Lib.hid hl
          rw [hl] at a7 R0
          clear hl
          go_wp2
          clear a7 b7
          go_loopw [5] (fun i wr => ∃ j : Nat, j ≤ b.ents.length ∧ i = .int .i64 j ∧ Hid (Blk wr w.heap.size 38 [.int .i64 b.term, .int .i64 b.vote, .int .i64 a.snp.idx, .int .i64 a.snp.term, .slice A a.snp.v.length c, .slice B a.snp.l.length d, .string (text a.snp.b), .slice E b.ents.length n]) ∧ Hid (Blk wr (w.heap.size + 1) 38 [.int .i64 b.term, .int .i64 b.vote, .int .i64 b.snp.idx, .int .i64 b.snp.term, .slice A' b.snp.v.length c', .slice B' b.snp.l.length d', .string (text b.snp.b), .slice E' b.ents.length n']) ∧ Hid (Below w.heap.size w wr) ∧ Hid (a.ents.take j = b.ents.take j)) (fun i _ => b.ents.length - (intOf i).toNat)
          case atStart => exact ⟨0, Nat.zero_le _, rfl, R0, R1, HB1, Lib.hid rfl⟩
          case round =>
            obtain ⟨j, hj, rfl, Q0, Q1, HBw, HE⟩ := hrel
            clear R0 R1 HB1
            have l0 := Q0.out.lt
            have l1 := Q1.out.lt
            have a7 : wr.cell? ⟨w.heap.size, 7, none⟩ = some (.slice E b.ents.length n) := Q0.out.cell 7
            have b7 : wr.cell? ⟨w.heap.size + 1, 7, none⟩ = some (.slice E' b.ents.length n') := Q1.out.cell 7
            by_cases hlt : j < b.ents.length
            · have j1 : j < a.ents.length := by have := HL.out; omega
              obtain ⟨ad, A3, c3, B3, d3, rfl, _, e1, e2, pcl⟩ := ents_at (HA.out.e.below HBw.out) j1
              obtain ⟨bd, A4, c4, B4, d4, rfl, _, e3, e4, qcl⟩ := ents_at (HB.out.e.below HBw.out) hlt
              have sm1 := HS.out.e _ (List.getElem_mem j1)
              have sm2 := HS'.out.e _ (List.getElem_mem hlt)
              have HQ : Hid (decide (a.ents[j] = b.ents[j]) = true → a.ents.take (j + 1) = b.ents.take (j + 1)) := Lib.hid (fun h => etake_snoc_eq j1 hlt HE.out (of_decide_eq_true h))
              have HN : Hid (decide (a.ents[j] = b.ents[j]) = false → r = false) := Lib.hid (fun h => by rw [← HR.out]; exact decide_eq_false (fun e => etake_ne j1 hlt (of_decide_eq_false h) (by rw [e])))
              generalize a.ents[j] = x at *
              generalize b.ents[j] = y at *
              have E1 := Lib.hid e1
              have E2 := Lib.hid e2
              have E3 := Lib.hid e3
              have E4 := Lib.hid e4
              have SM1 := Lib.hid sm1
              have SM2 := Lib.hid sm2
              unfold Ent.cs at pcl qcl
              have pc0 : wr.cell? (ad.add (j * 6)) = some (.int .i64 x.idx) := pcl 0 _ rfl
              have pc1 : wr.cell? ⟨(ad.add (j * 6)).block, (ad.add (j * 6)).off + 1, none⟩ = some (.int .i64 x.term) := by rw [← add_field ad (j * 6) 1 (by decide)]; exact pcl 1 _ rfl
              have pc2 : wr.cell? ⟨(ad.add (j * 6)).block, (ad.add (j * 6)).off + 2, none⟩ = some (.int .i64 x.kind) := by rw [← add_field ad (j * 6) 2 (by decide)]; exact pcl 2 _ rfl
              have pc3 : wr.cell? ⟨(ad.add (j * 6)).block, (ad.add (j * 6)).off + 3, none⟩ = some (.slice A3 x.v.length c3) := by rw [← add_field ad (j * 6) 3 (by decide)]; exact pcl 3 _ rfl
              have pc4 : wr.cell? ⟨(ad.add (j * 6)).block, (ad.add (j * 6)).off + 4, none⟩ = some (.slice B3 x.l.length d3) := by rw [← add_field ad (j * 6) 4 (by decide)]; exact pcl 4 _ rfl
              have pc5 : wr.cell? ⟨(ad.add (j * 6)).block, (ad.add (j * 6)).off + 5, none⟩ = some (.string (text x.b)) := by rw [← add_field ad (j * 6) 5 (by decide)]; exact pcl 5 _ rfl
              have qc0 : wr.cell? (bd.add (j * 6)) = some (.int .i64 y.idx) := qcl 0 _ rfl
              have qc1 : wr.cell? ⟨(bd.add (j * 6)).block, (bd.add (j * 6)).off + 1, none⟩ = some (.int .i64 y.term) := by rw [← add_field bd (j * 6) 1 (by decide)]; exact qcl 1 _ rfl
              have qc2 : wr.cell? ⟨(bd.add (j * 6)).block, (bd.add (j * 6)).off + 2, none⟩ = some (.int .i64 y.kind) := by rw [← add_field bd (j * 6) 2 (by decide)]; exact qcl 2 _ rfl
              have qc3 : wr.cell? ⟨(bd.add (j * 6)).block, (bd.add (j * 6)).off + 3, none⟩ = some (.slice A4 y.v.length c4) := by rw [← add_field bd (j * 6) 3 (by decide)]; exact qcl 3 _ rfl
              have qc4 : wr.cell? ⟨(bd.add (j * 6)).block, (bd.add (j * 6)).off + 4, none⟩ = some (.slice B4 y.l.length d4) := by rw [← add_field bd (j * 6) 4 (by decide)]; exact qcl 4 _ rfl
              have qc5 : wr.cell? ⟨(bd.add (j * 6)).block, (bd.add (j * 6)).off + 5, none⟩ = some (.string (text y.b)) := by rw [← add_field bd (j * 6) 5 (by decide)]; exact qcl 5 _ rfl
              clear pcl qcl e1 e2 e3 e4 sm1 sm2
              have p1 : (j : Int) < (b.ents.length : Int) := by omega
              go_wp2_with fail
              go_still_tail 10, (by kernel_rfl)
              go_wp2_with fail
              refine (Entries_any x y A3 c3 B3 d3 A4 c4 B4 d4 _ ((E1.out.below (by repeat (first | with_reducible exact (Below.refl _ _) | (with_reducible refine Below.setCell ?_ (by dsimp only; (first | omega | (simp; done) | (simp; omega))) _) | (with_reducible refine Below.alloc ?_ (by (first | omega | (simp; done) | (simp; omega))) _) | with_reducible refine Below.drew ?_))).more (by simp; omega)) ((E2.out.below (by repeat (first | with_reducible exact (Below.refl _ _) | (with_reducible refine Below.setCell ?_ (by dsimp only; (first | omega | (simp; done) | (simp; omega))) _) | (with_reducible refine Below.alloc ?_ (by (first | omega | (simp; done) | (simp; omega))) _) | with_reducible refine Below.drew ?_))).more (by simp; omega)) ((E3.out.below (by repeat (first | with_reducible exact (Below.refl _ _) | (with_reducible refine Below.setCell ?_ (by dsimp only; (first | omega | (simp; done) | (simp; omega))) _) | (with_reducible refine Below.alloc ?_ (by (first | omega | (simp; done) | (simp; omega))) _) | with_reducible refine Below.drew ?_))).more (by simp; omega)) ((E4.out.below (by repeat (first | with_reducible exact (Below.refl _ _) | (with_reducible refine Below.setCell ?_ (by dsimp only; (first | omega | (simp; done) | (simp; omega))) _) | (with_reducible refine Below.alloc ?_ (by (first | omega | (simp; done) | (simp; omega))) _) | with_reducible refine Below.drew ?_))).more (by simp; omega)) SM1.out SM2.out).mono ?_
              generalize decide (x = y) = q at HQ HN ⊢
              rintro e w2 ⟨rfl, hb⟩
              have HB2 := Lib.hid (HBw.out.trans ((Below.drew (Below.refl w.heap.size wr)).trans (hb.mono (by simp; omega))))
              have S0 := Lib.hid (Q0.out.drew.below hb l0)
              have S1 := Lib.hid (Q1.out.drew.below hb l1)
              clear hb pc0 pc1 pc2 pc3 pc4 pc5 qc0 qc1 qc2 qc3 qc4 qc5 a7 b7 p1
              cases q
              · have HF := Lib.hid (HN.out rfl)
                go_wp2
                go_ret
                exact ⟨by rw [HF.out]; rfl, HB2.out⟩
              · have HG := Lib.hid (HQ.out rfl)
                go_wp2
                go_roundw
                case rel => exact ⟨j + 1, by omega, by go_num, S0, S1, HB2, HG⟩
                case measure => simp [intOf]; omega
            · obtain rfl : j = b.ents.length := by omega
              have HT : Hid (r = true) := by
                have h := HE.out
                rw [List.take_of_length_le (by have := HL.out; omega), List.take_of_length_le (Nat.le_refl _)] at h
                refine Lib.hid ?_
                rw [← HR.out]
                exact decide_eq_true (kep_ext HX0.out HX1.out HX2.out h)
              go_wp2
              go_ret
              exact ⟨by rw [HT.out]; rfl, HBw.out⟩
        · have HF : Hid (r = false) := by
            refine Lib.hid ?_
            rw [← HR.out]
            exact decide_eq_false (fun e => hl (by rw [e]))
          have t0 : ¬ ((a.ents.length : Int) = (b.ents.length : Int)) := by omega
          have t1 : ((a.ents.length : Int) != (b.ents.length : Int)) = true := by simpa using t0
          clear hl
          go_wp2
          go_ret
          exact ⟨by rw [HF.out]; rfl, HB1.out⟩
      · have e : decide (a = b) = false := decide_eq_false (by rintro rfl; exact h2 rfl)
        rw [e]
        have HD : Hid (decide (a.snp = b.snp) = false) := Lib.hid (decide_eq_false h2)
        rw [h0, h1] at P0 P1 ⊢
        clear e h0 h1 h2
        go_enter Tryz.func7, Tryz.ntmps7
        go_wp2_with fail
        refine at_below w _ (by repeat (first | with_reducible exact Below.refl _ _ | with_reducible assumption | (with_reducible refine Below.setCell ?_ (by dsimp only; (first | omega | (simp; done) | (simp; omega))) _) | (with_reducible refine Below.alloc ?_ (by (first | omega | (simp; done) | (simp; omega))) _) | with_reducible refine Below.drew ?_)) fun HBx => ?_
        refine (Snaps_any a.snp b.snp A c B d A' c' B' d' _ ((HA.out.v.below HBx).more (by (first | omega | (simp; done) | (simp; omega)))) ((HA.out.l.below HBx).more (by (first | omega | (simp; done) | (simp; omega)))) ((HB.out.v.below HBx).more (by (first | omega | (simp; done) | (simp; omega)))) ((HB.out.l.below HBx).more (by (first | omega | (simp; done) | (simp; omega)))) HS.out.s HS'.out.s).mono ?_
        rw [HD.out]
        rintro e w1 ⟨rfl, hb⟩
        have HB1 := Lib.hid (HBx.trans (hb.mono (by (first | omega | (simp; done) | (simp; omega)))))
        clear hb HBx
        go_wp2
        go_ret
        exact ⟨rfl, HB1.out⟩
    · have e : decide (a = b) = false := decide_eq_false (by rintro rfl; exact h1 rfl)
      rw [e, h0]
      have t : (a.vote != b.vote) = true := by simpa using h1
      clear e h0 h1 P0 P1
      go_enter Tryz.func7, Tryz.ntmps7
      go_wp2
      go_ret
      exact ⟨rfl, (by repeat (first | with_reducible exact Below.refl _ _ | with_reducible assumption | (with_reducible refine Below.setCell ?_ (by dsimp only; (first | omega | (simp; done) | (simp; omega))) _) | (with_reducible refine Below.alloc ?_ (by (first | omega | (simp; done) | (simp; omega))) _) | with_reducible refine Below.drew ?_))⟩
  · have e : decide (a = b) = false := decide_eq_false (by rintro rfl; exact h0 rfl)
    rw [e]
    have t : (a.term != b.term) = true := by simpa using h0
    clear e h0 P0 P1
    go_enter Tryz.func7, Tryz.ntmps7
    go_wp2
    go_ret
    exact ⟨rfl, (by repeat (first | with_reducible exact Below.refl _ _ | with_reducible assumption | (with_reducible refine Below.setCell ?_ (by dsimp only; (first | omega | (simp; done) | (simp; omega))) _) | (with_reducible refine Below.alloc ?_ (by (first | omega | (simp; done) | (simp; omega))) _) | with_reducible refine Below.drew ?_))⟩
end Go.Proofs.YtkdmfjpfanmgmaaGreatDoor
