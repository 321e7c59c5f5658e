/- The walk of the reference's May. Printed by mkfold15.py. -/
import Derived.Test.YtkdmfjpfanmgmaaFold14
namespace Go.Proofs.Ytkdmfjpfanmgmaa
open Go.RowKit Le
set_option maxRecDepth 100000
set_option linter.unusedSimpArgs false
set_option linter.unusedVariables false

theorem nat_eq0 (E : Nat) : ((E : Int) == 0) = (E == 0) := by
  by_cases h : E = 0
  · subst h; rfl
  · have h2 : ¬ ((E : Int) = 0) := by omega
    have e1 : (E == 0) = false := by simpa using h
    have e2 : ((E : Int) == 0) = false := by simpa using h2
    rw [e1, e2]

set_option maxHeartbeats 3200000 in
theorem May_any (r : Rcd) (A : Option Addr) (c : Nat) (B : Option Addr) (d : Nat) (A' : Option Addr) (c' : Nat) (B' : Option Addr) (d' : Nat) (w : World) (h : RcdAt' w (· < w.heap.size) r A B A' B') (hs : r.Small) :
    Calls Try.prog 19 #[.agg (r.cs A c B d A' c' B' d').toArray] w (TestEnd w (mayP r)) := by
  have P0 : Hid (Blk (w.alloc (.cells #[.int .i64 r.kind, .int .i64 r.term, .int .i64 r.vote, .int .i64 r.ent.idx, .int .i64 r.ent.term, .int .i64 r.ent.kind, .slice A r.ent.v.length c, .slice B r.ent.l.length d, .string (text r.ent.b), .int .i64 r.at_, .int .i64 r.snp.idx, .int .i64 r.snp.term, .slice A' r.snp.v.length c', .slice B' r.snp.l.length d', .string (text r.snp.b)] 36)) w.heap.size 36 [.int .i64 r.kind, .int .i64 r.term, .int .i64 r.vote, .int .i64 r.ent.idx, .int .i64 r.ent.term, .int .i64 r.ent.kind, .slice A r.ent.v.length c, .slice B r.ent.l.length d, .string (text r.ent.b), .int .i64 r.at_, .int .i64 r.snp.idx, .int .i64 r.snp.term, .slice A' r.snp.v.length c', .slice B' r.snp.l.length d', .string (text r.snp.b)]) := Lib.hid (Blk.new w 36 [.int .i64 r.kind, .int .i64 r.term, .int .i64 r.vote, .int .i64 r.ent.idx, .int .i64 r.ent.term, .int .i64 r.ent.kind, .slice A r.ent.v.length c, .slice B r.ent.l.length d, .string (text r.ent.b), .int .i64 r.at_, .int .i64 r.snp.idx, .int .i64 r.snp.term, .slice A' r.snp.v.length c', .slice B' r.snp.l.length d', .string (text r.snp.b)])
  have HI : Hid ((Try.prog.info? 36).map (·.size) = some 15) := Lib.hid (by kernel_rfl)
  have HS := Lib.hid hs
  have HA := Lib.hid h
  clear hs h
  rw [mayP_eq]
  obtain ⟨bE, hbE⟩ : ∃ b, decide (r.ent = .zero) = b := ⟨_, rfl⟩
  obtain ⟨bS, hbS⟩ : ∃ b, decide (r.snp = .zero) = b := ⟨_, rfl⟩
  obtain ⟨bC, hbC⟩ : ∃ b, (r.at_ == 0) = b := ⟨_, rfl⟩
  obtain ⟨bP, hbP⟩ : ∃ b, (putE r == 0) = b := ⟨_, rfl⟩
  rw [hbE, hbS, hbC, hbP]
  have hbP2 : ((putE r : Int) == 0) = bP := by rw [nat_eq0]; exact hbP
  have HbE := Lib.hid hbE
  have HbS := Lib.hid hbS
  clear hbE hbS hbP
  by_cases h1 : r.term = 0
  · obtain ⟨bV, hbV⟩ : ∃ b, (r.vote == 0) = b := ⟨_, rfl⟩
    have hv : decide (r.term = 0 ∧ r.vote = 0) = bV := by rw [← hbV]; simp [h1]; rfl
    rw [hv]
    have t1 : (r.term == 0) = true := by simpa using h1
    clear hv h1
    change Calls _ _ #[.agg #[.int .i64 r.kind, .int .i64 r.term, .int .i64 r.vote, .int .i64 r.ent.idx, .int .i64 r.ent.term, .int .i64 r.ent.kind, .slice A r.ent.v.length c, .slice B r.ent.l.length d, .string (text r.ent.b), .int .i64 r.at_, .int .i64 r.snp.idx, .int .i64 r.snp.term, .slice A' r.snp.v.length c', .slice B' r.snp.l.length d', .string (text r.snp.b)]] w _
    go_enter Try.func19, Try.ntmps19
    go_wp2_with (with_reducible refine wpList_load_blk rfl 36 _ rfl w.heap.size rfl P0 (by simp) Try.underlying36 rfl HI ?_)
    refine at_below w _ (by repeat (first | with_reducible exact Below.refl _ _ | with_reducible assumption | (with_reducible refine Below.setCell ?_ (by dsimp only; (first | omega | (simp; done) | (simp; omega))) _) | (with_reducible refine Below.alloc ?_ (by (first | omega | (simp; done) | (simp; omega))) _) | with_reducible refine Below.drew ?_)) fun HBx => ?_
    refine (rput_Record r.da (r.cs A c B d A' c' B' d') _ ((HA.out.cels c d c' d').below HBx |>.more (by (first | omega | (simp; done) | (simp; omega)))) (record_le _)).mono ?_
    rintro e w1 ⟨⟨A5, n5, c5, rfl, _⟩, hb⟩
    have z1 : w.heap.size + 1 ≤ w1.heap.size := by have := hb.size; simpa using this
    have R0 := Lib.hid (P0.out.below hb P0.out.lt)
    have HB1 := Lib.hid (HBx.trans (hb.mono (by (first | omega | (simp; done) | (simp; omega)))))
    clear hb HBx P0
    rw [show (lays shRecord r.da ([], 0)).2 = putE r from rfl]
    generalize putE r = Er at *
    have a1 : w1.cell? ⟨w.heap.size, 1, none⟩ = some (.int .i64 r.term) := R0.out.cell 1
    have a2 : w1.cell? ⟨w.heap.size, 2, none⟩ = some (.int .i64 r.vote) := R0.out.cell 2
    have a3 : w1.cell? ⟨w.heap.size, 3, none⟩ = some (.int .i64 r.ent.idx) := R0.out.cell 3
    have a4 : w1.cell? ⟨w.heap.size, 4, none⟩ = some (.int .i64 r.ent.term) := R0.out.cell 4
    have a5 : w1.cell? ⟨w.heap.size, 5, none⟩ = some (.int .i64 r.ent.kind) := R0.out.cell 5
    have a6 : w1.cell? ⟨w.heap.size, 6, none⟩ = some (.slice A r.ent.v.length c) := R0.out.cell 6
    have a7 : w1.cell? ⟨w.heap.size, 7, none⟩ = some (.slice B r.ent.l.length d) := R0.out.cell 7
    have a8 : w1.cell? ⟨w.heap.size, 8, none⟩ = some (.string (text r.ent.b)) := R0.out.cell 8
    go_wp2_with fail
    refine (Entries_any r.ent .zero A c B d none 0 none 0 _ ((HA.out.ev.below HB1.out).more (by (first | omega | (simp; done) | (simp; omega)))) ((HA.out.el.below HB1.out).more (by (first | omega | (simp; done) | (simp; omega)))) RowsAt.nil RowsAt.nil HS.out.e ⟨by simp [Ent.zero], by simp [Ent.zero]⟩).mono ?_
    rw [HbE.out]
    rintro e w2 ⟨rfl, hb⟩
    have R1 := Lib.hid (R0.out.below hb R0.out.lt)
    have HB2 := Lib.hid (HB1.out.trans (hb.mono HB1.out.size))
    have z2 : w.heap.size + 1 ≤ w2.heap.size := by have := hb.size; omega
    clear hb R0 HB1 a1 a2 a3 a4 a5 a6 a7 a8
    have a9 : w2.cell? ⟨w.heap.size, 9, none⟩ = some (.int .i64 r.at_) := R1.out.cell 9
    have a10 : w2.cell? ⟨w.heap.size, 10, none⟩ = some (.int .i64 r.snp.idx) := R1.out.cell 10
    have a11 : w2.cell? ⟨w.heap.size, 11, none⟩ = some (.int .i64 r.snp.term) := R1.out.cell 11
    have a12 : w2.cell? ⟨w.heap.size, 12, none⟩ = some (.slice A' r.snp.v.length c') := R1.out.cell 12
    have a13 : w2.cell? ⟨w.heap.size, 13, none⟩ = some (.slice B' r.snp.l.length d') := R1.out.cell 13
    have a14 : w2.cell? ⟨w.heap.size, 14, none⟩ = some (.string (text r.snp.b)) := R1.out.cell 14
    go_wp2_with fail
    refine (Snaps_any r.snp .zero A' c' B' d' none 0 none 0 _ ((HA.out.sv.below HB2.out).more (by (first | omega | (simp; done) | (simp; omega)))) ((HA.out.sl.below HB2.out).more (by (first | omega | (simp; done) | (simp; omega)))) RowsAt.nil RowsAt.nil HS.out.s ⟨by simp [Snp.zero], by simp [Snp.zero]⟩).mono ?_
    rw [HbS.out]
    rintro e w3 ⟨rfl, hb⟩
    have R2 := Lib.hid (R1.out.below hb R1.out.lt)
    have HB3 := Lib.hid (HB2.out.trans (hb.mono HB2.out.size))
    clear hb R1 HB2 a9 a10 a11 a12 a13 a14 HbE HbS
    have a0 : w3.cell? ⟨w.heap.size, 0, none⟩ = some (.int .i64 r.kind) := R2.out.cell 0

    clear hbV hbC t1 R2
    by_cases k1 : r.kind = 1
    · have HK := Lib.hid k1
      have u1 : (r.kind == 1) = true := by simpa using k1
      clear k1
      cases bP
      · go_wp2
        go_ret
        exact ⟨by rw [bareB_1 HK.out]; rfl, HB3.out⟩
      · cases bE
        · go_wp2
          go_ret
          exact ⟨by rw [bareB_1 HK.out]; rfl, HB3.out⟩
        · cases bC
          · go_wp2
            go_ret
            exact ⟨by rw [bareB_1 HK.out]; rfl, HB3.out⟩
          · go_wp2
            go_ret
            exact ⟨by rw [bareB_1 HK.out]; rfl, HB3.out⟩
    by_cases k2 : r.kind = 2
    · have HK := Lib.hid k2
      have u1 : (r.kind == 1) = false := by simpa using k1
      have u2 : (r.kind == 2) = true := by simpa using k2
      clear k1 k2
      cases bP
      · go_wp2
        go_ret
        exact ⟨by rw [bareB_2 HK.out]; rfl, HB3.out⟩
      · cases bV
        · go_wp2
          go_ret
          exact ⟨by rw [bareB_2 HK.out]; rfl, HB3.out⟩
        · cases bC
          · go_wp2
            go_ret
            exact ⟨by rw [bareB_2 HK.out]; rfl, HB3.out⟩
          · go_wp2
            go_ret
            exact ⟨by rw [bareB_2 HK.out]; rfl, HB3.out⟩
    by_cases k3 : r.kind = 3
    · have HK := Lib.hid k3
      have u1 : (r.kind == 1) = false := by simpa using k1
      have u2 : (r.kind == 2) = false := by simpa using k2
      have u3 : (r.kind == 3) = true := by simpa using k3
      clear k1 k2 k3
      cases bP
      · go_wp2
        go_ret
        exact ⟨by rw [bareB_3 HK.out]; rfl, HB3.out⟩
      · cases bV
        · go_wp2
          go_ret
          exact ⟨by rw [bareB_3 HK.out]; rfl, HB3.out⟩
        · cases bE
          · go_wp2
            go_ret
            exact ⟨by rw [bareB_3 HK.out]; rfl, HB3.out⟩
          · go_wp2
            go_ret
            exact ⟨by rw [bareB_3 HK.out]; rfl, HB3.out⟩
    by_cases k4 : r.kind = 4
    · have HK := Lib.hid k4
      have u1 : (r.kind == 1) = false := by simpa using k1
      have u2 : (r.kind == 2) = false := by simpa using k2
      have u3 : (r.kind == 3) = false := by simpa using k3
      have u4 : (r.kind == 4) = true := by simpa using k4
      clear k1 k2 k3 k4
      cases bP
      · go_wp2
        go_ret
        exact ⟨by rw [bareB_4 HK.out]; rfl, HB3.out⟩
      · cases bV
        · go_wp2
          go_ret
          exact ⟨by rw [bareB_4 HK.out]; rfl, HB3.out⟩
        · cases bE
          · go_wp2
            go_ret
            exact ⟨by rw [bareB_4 HK.out]; rfl, HB3.out⟩
          · go_wp2
            go_ret
            exact ⟨by rw [bareB_4 HK.out]; rfl, HB3.out⟩
    have HK := Lib.hid (bareB_none (v := bV) (e := bE) (c := bC) (s := bS) k1 k2 k3 k4)
    have u1 : (r.kind == 1) = false := by simpa using k1
    have u2 : (r.kind == 2) = false := by simpa using k2
    have u3 : (r.kind == 3) = false := by simpa using k3
    have u4 : (r.kind == 4) = false := by simpa using k4
    clear k1 k2 k3 k4
    go_wp2
    go_ret
    exact ⟨by rw [HK.out]; simp, HB3.out⟩
  · have hv : decide (r.term = 0 ∧ r.vote = 0) = false := by simp [h1]
    rw [hv]
    have t1 : (r.term == 0) = false := by simpa using h1
    clear hv h1
    change Calls _ _ #[.agg #[.int .i64 r.kind, .int .i64 r.term, .int .i64 r.vote, .int .i64 r.ent.idx, .int .i64 r.ent.term, .int .i64 r.ent.kind, .slice A r.ent.v.length c, .slice B r.ent.l.length d, .string (text r.ent.b), .int .i64 r.at_, .int .i64 r.snp.idx, .int .i64 r.snp.term, .slice A' r.snp.v.length c', .slice B' r.snp.l.length d', .string (text r.snp.b)]] w _
    go_enter Try.func19, Try.ntmps19
    go_wp2_with (with_reducible refine wpList_load_blk rfl 36 _ rfl w.heap.size rfl P0 (by simp) Try.underlying36 rfl HI ?_)
    refine at_below w _ (by repeat (first | with_reducible exact Below.refl _ _ | with_reducible assumption | (with_reducible refine Below.setCell ?_ (by dsimp only; (first | omega | (simp; done) | (simp; omega))) _) | (with_reducible refine Below.alloc ?_ (by (first | omega | (simp; done) | (simp; omega))) _) | with_reducible refine Below.drew ?_)) fun HBx => ?_
    refine (rput_Record r.da (r.cs A c B d A' c' B' d') _ ((HA.out.cels c d c' d').below HBx |>.more (by (first | omega | (simp; done) | (simp; omega)))) (record_le _)).mono ?_
    rintro e w1 ⟨⟨A5, n5, c5, rfl, _⟩, hb⟩
    have z1 : w.heap.size + 1 ≤ w1.heap.size := by have := hb.size; simpa using this
    have R0 := Lib.hid (P0.out.below hb P0.out.lt)
    have HB1 := Lib.hid (HBx.trans (hb.mono (by (first | omega | (simp; done) | (simp; omega)))))
    clear hb HBx P0
    rw [show (lays shRecord r.da ([], 0)).2 = putE r from rfl]
    generalize putE r = Er at *
    have a1 : w1.cell? ⟨w.heap.size, 1, none⟩ = some (.int .i64 r.term) := R0.out.cell 1
    have a2 : w1.cell? ⟨w.heap.size, 2, none⟩ = some (.int .i64 r.vote) := R0.out.cell 2
    have a3 : w1.cell? ⟨w.heap.size, 3, none⟩ = some (.int .i64 r.ent.idx) := R0.out.cell 3
    have a4 : w1.cell? ⟨w.heap.size, 4, none⟩ = some (.int .i64 r.ent.term) := R0.out.cell 4
    have a5 : w1.cell? ⟨w.heap.size, 5, none⟩ = some (.int .i64 r.ent.kind) := R0.out.cell 5
    have a6 : w1.cell? ⟨w.heap.size, 6, none⟩ = some (.slice A r.ent.v.length c) := R0.out.cell 6
    have a7 : w1.cell? ⟨w.heap.size, 7, none⟩ = some (.slice B r.ent.l.length d) := R0.out.cell 7
    have a8 : w1.cell? ⟨w.heap.size, 8, none⟩ = some (.string (text r.ent.b)) := R0.out.cell 8
    go_wp2_with fail
    refine (Entries_any r.ent .zero A c B d none 0 none 0 _ ((HA.out.ev.below HB1.out).more (by (first | omega | (simp; done) | (simp; omega)))) ((HA.out.el.below HB1.out).more (by (first | omega | (simp; done) | (simp; omega)))) RowsAt.nil RowsAt.nil HS.out.e ⟨by simp [Ent.zero], by simp [Ent.zero]⟩).mono ?_
    rw [HbE.out]
    rintro e w2 ⟨rfl, hb⟩
    have R1 := Lib.hid (R0.out.below hb R0.out.lt)
    have HB2 := Lib.hid (HB1.out.trans (hb.mono HB1.out.size))
    have z2 : w.heap.size + 1 ≤ w2.heap.size := by have := hb.size; omega
    clear hb R0 HB1 a1 a2 a3 a4 a5 a6 a7 a8
    have a9 : w2.cell? ⟨w.heap.size, 9, none⟩ = some (.int .i64 r.at_) := R1.out.cell 9
    have a10 : w2.cell? ⟨w.heap.size, 10, none⟩ = some (.int .i64 r.snp.idx) := R1.out.cell 10
    have a11 : w2.cell? ⟨w.heap.size, 11, none⟩ = some (.int .i64 r.snp.term) := R1.out.cell 11
    have a12 : w2.cell? ⟨w.heap.size, 12, none⟩ = some (.slice A' r.snp.v.length c') := R1.out.cell 12
    have a13 : w2.cell? ⟨w.heap.size, 13, none⟩ = some (.slice B' r.snp.l.length d') := R1.out.cell 13
    have a14 : w2.cell? ⟨w.heap.size, 14, none⟩ = some (.string (text r.snp.b)) := R1.out.cell 14
    go_wp2_with fail
    refine (Snaps_any r.snp .zero A' c' B' d' none 0 none 0 _ ((HA.out.sv.below HB2.out).more (by (first | omega | (simp; done) | (simp; omega)))) ((HA.out.sl.below HB2.out).more (by (first | omega | (simp; done) | (simp; omega)))) RowsAt.nil RowsAt.nil HS.out.s ⟨by simp [Snp.zero], by simp [Snp.zero]⟩).mono ?_
    rw [HbS.out]
    rintro e w3 ⟨rfl, hb⟩
    have R2 := Lib.hid (R1.out.below hb R1.out.lt)
    have HB3 := Lib.hid (HB2.out.trans (hb.mono HB2.out.size))
    clear hb R1 HB2 a9 a10 a11 a12 a13 a14 HbE HbS
    have a0 : w3.cell? ⟨w.heap.size, 0, none⟩ = some (.int .i64 r.kind) := R2.out.cell 0

    clear hbC t1 R2
    by_cases k1 : r.kind = 1
    · have HK := Lib.hid k1
      have u1 : (r.kind == 1) = true := by simpa using k1
      clear k1
      cases bP
      · go_wp2
        go_ret
        exact ⟨by rw [bareB_1 HK.out]; rfl, HB3.out⟩
      · cases bE
        · go_wp2
          go_ret
          exact ⟨by rw [bareB_1 HK.out]; rfl, HB3.out⟩
        · cases bC
          · go_wp2
            go_ret
            exact ⟨by rw [bareB_1 HK.out]; rfl, HB3.out⟩
          · go_wp2
            go_ret
            exact ⟨by rw [bareB_1 HK.out]; rfl, HB3.out⟩
    by_cases k2 : r.kind = 2
    · have HK := Lib.hid k2
      have u1 : (r.kind == 1) = false := by simpa using k1
      have u2 : (r.kind == 2) = true := by simpa using k2
      clear k1 k2
      cases bP
      · go_wp2
        go_ret
        exact ⟨by rw [bareB_2 HK.out]; rfl, HB3.out⟩
      · cases bC
        · go_wp2
          go_ret
          exact ⟨by rw [bareB_2 HK.out]; rfl, HB3.out⟩
        · go_wp2
          go_ret
          exact ⟨by rw [bareB_2 HK.out]; rfl, HB3.out⟩
    by_cases k3 : r.kind = 3
    · have HK := Lib.hid k3
      have u1 : (r.kind == 1) = false := by simpa using k1
      have u2 : (r.kind == 2) = false := by simpa using k2
      have u3 : (r.kind == 3) = true := by simpa using k3
      clear k1 k2 k3
      cases bP
      · go_wp2
        go_ret
        exact ⟨by rw [bareB_3 HK.out]; rfl, HB3.out⟩
      · cases bE
        · go_wp2
          go_ret
          exact ⟨by rw [bareB_3 HK.out]; rfl, HB3.out⟩
        · go_wp2
          go_ret
          exact ⟨by rw [bareB_3 HK.out]; rfl, HB3.out⟩
    by_cases k4 : r.kind = 4
    · have HK := Lib.hid k4
      have u1 : (r.kind == 1) = false := by simpa using k1
      have u2 : (r.kind == 2) = false := by simpa using k2
      have u3 : (r.kind == 3) = false := by simpa using k3
      have u4 : (r.kind == 4) = true := by simpa using k4
      clear k1 k2 k3 k4
      cases bP
      · go_wp2
        go_ret
        exact ⟨by rw [bareB_4 HK.out]; rfl, HB3.out⟩
      · cases bE
        · go_wp2
          go_ret
          exact ⟨by rw [bareB_4 HK.out]; rfl, HB3.out⟩
        · go_wp2
          go_ret
          exact ⟨by rw [bareB_4 HK.out]; rfl, HB3.out⟩
    have HK := Lib.hid (bareB_none (v := false) (e := bE) (c := bC) (s := bS) k1 k2 k3 k4)
    have u1 : (r.kind == 1) = false := by simpa using k1
    have u2 : (r.kind == 2) = false := by simpa using k2
    have u3 : (r.kind == 3) = false := by simpa using k3
    have u4 : (r.kind == 4) = false := by simpa using k4
    clear k1 k2 k3 k4
    go_wp2
    go_ret
    exact ⟨by rw [HK.out]; simp, HB3.out⟩
end Go.Proofs.Ytkdmfjpfanmgmaa
