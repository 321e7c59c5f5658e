/- The walks of the program's writer: lists and structs. Printed by mkwr.py. -/
import Derived.Test.YteohhgkehkmgcaaWr2
namespace Go.Proofs.Yteohhgkehkmgcaa
open Go.RowKit Le
set_option maxRecDepth 100000
set_option linter.unusedVariables false

set_option maxHeartbeats 1600000 in
theorem W_many_Rule (base g : Nat) (ds : List (List Da)) (A : Option Addr) (c : Nat) (s : St) (w : World) (h : WrAt w base g s.1) (hz : s.2 = 0) (hR : RowsAt w (· < base) shRule ds A) (hs : (lay (.rows shRule) (.rows ds) s).1.length ≤ 1099511627776) :
    Calls Try.prog 158 #[.pointer (some ⟨g, 0, none⟩), .slice A ds.length c, .func (.func 90) #[] #[]] w fun e w' => WEnd (lay (.rows shRule) (.rows ds) s) w' base g e ∧ Wrs base w w' := by
  by_cases h4 : ds.length ≤ 4096
  · have e4 := lay_rows_ok (l := shRule) hz h4
    have C := Lib.hid (W_num base g ds.length s w h hz (by rw [lay_num_eq, ← foldT_zero shRule ds (layNum _ s)]; exact Nat.le_trans (foldT_le_lay hz h4 0) hs))
    have HS := Lib.hid hs
    have HR := Lib.hid hR
    have HZ := Lib.hid hz
    have H4 := Lib.hid e4
    clear hR hs h hz e4
    go_enter Try.func158, Try.ntmps158
    go_wp2_with fail
    refine (unhide C).mono ?_
    rintro e w1 ⟨hE, hK⟩
    have HK1 := Lib.hid hK
    clear hK C
    rcases hE with ⟨h0, rfl, hL⟩ | ⟨h0, rfl⟩
    · rw [lay_num_eq] at h0 hL
      have HL1 := Lib.hid hL
      have H01 := Lib.hid h0
      clear hL h0
      go_wp2
      go_loopw [19] (fun i wr => ∃ j : Nat, j ≤ ds.length ∧ i = .int .i64 j ∧ Hid ((foldT shRule ds j (layNum ds.length s)).2 = 0) ∧ Hid (WrAt wr base g (foldT shRule ds j (layNum ds.length s)).1) ∧ Hid (Wrs base w wr)) (fun i _ => ds.length - (intOf i).toNat)
      case atStart => exact ⟨0, Nat.zero_le _, rfl, Lib.hid (by rw [foldT_zero]; exact H01.out), Lib.hid (by rw [foldT_zero]; exact HL1.out), HK1⟩
      case round =>
        obtain ⟨j, hj, rfl, H0, HL, HK⟩ := hrel
        by_cases hlt : j < ds.length
        · have HQ := Lib.hid (foldT_succ shRule ds j (layNum ds.length s) hlt)
          have q := foldT_le_lay (l := shRule) HZ.out h4 (j + 1)
          rw [HQ.out] at q
          obtain ⟨ad, vs, rfl, hC, hcell⟩ := (HR.out.below HK.out.below).at_ hlt
          obtain ⟨dd, hdd⟩ : ∃ dd, dd = ds[j] := ⟨_, rfl⟩
          rw [← hdd] at hC HQ q
          clear hdd
          have HQ4 := Lib.hid (Nat.le_trans q HS.out)
          clear q
          replace hC : Cels wr (· < base) [.text, .num, .rows [.text], .whole, .whole, .text, .text, .text] dd vs := hC
          obtain ⟨_, _, _, _, rfl, rfl, c0, hC⟩ := hC.cons
          obtain ⟨_, _, _, _, rfl, rfl, c1, hC⟩ := hC.cons
          obtain ⟨_, _, _, _, rfl, rfl, c2, hC⟩ := hC.cons
          obtain ⟨_, _, _, _, rfl, rfl, c3, hC⟩ := hC.cons
          obtain ⟨_, _, _, _, rfl, rfl, c4, hC⟩ := hC.cons
          obtain ⟨_, _, _, _, rfl, rfl, c5, hC⟩ := hC.cons
          obtain ⟨_, _, _, _, rfl, rfl, c6, hC⟩ := hC.cons
          obtain ⟨_, _, _, _, rfl, rfl, c7, hC⟩ := hC.cons
          obtain ⟨rfl, rfl⟩ := hC.nil
          obtain ⟨b0, rfl, rfl⟩ := c0.txt
          obtain ⟨n1, rfl, rfl⟩ := c1.num
          obtain ⟨r2, A2, k2, rfl, rfl, R2⟩ := c2.rows
          replace R2 := Lib.hid R2
          obtain ⟨n3, rfl, rfl, HW3⟩ := c3.whole
          replace HW3 := Lib.hid HW3
          obtain ⟨n4, rfl, rfl, HW4⟩ := c4.whole
          replace HW4 := Lib.hid HW4
          obtain ⟨b5, rfl, rfl⟩ := c5.txt
          obtain ⟨b6, rfl, rfl⟩ := c6.txt
          obtain ⟨b7, rfl, rfl⟩ := c7.txt
          have hc0_0 : wr.cell? (ad.add (j * 8)) = some (.string (text b0)) := hcell 0 _ rfl
          have hc0_1 : wr.cell? ⟨(ad.add (j * 8)).block, (ad.add (j * 8)).off + 1, none⟩ = some (.int .i64 n1) := by rw [← add_field ad (j * 8) 1 (by decide)]; exact hcell 1 _ rfl
          have hc0_2 : wr.cell? ⟨(ad.add (j * 8)).block, (ad.add (j * 8)).off + 2, none⟩ = some (.slice A2 r2.length k2) := by rw [← add_field ad (j * 8) 2 (by decide)]; exact hcell 2 _ rfl
          have hc0_3 : wr.cell? ⟨(ad.add (j * 8)).block, (ad.add (j * 8)).off + 3, none⟩ = some (.int .i64 n3) := by rw [← add_field ad (j * 8) 3 (by decide)]; exact hcell 3 _ rfl
          have hc0_4 : wr.cell? ⟨(ad.add (j * 8)).block, (ad.add (j * 8)).off + 4, none⟩ = some (.int .i64 n4) := by rw [← add_field ad (j * 8) 4 (by decide)]; exact hcell 4 _ rfl
          have hc0_5 : wr.cell? ⟨(ad.add (j * 8)).block, (ad.add (j * 8)).off + 5, none⟩ = some (.string (text b5)) := by rw [← add_field ad (j * 8) 5 (by decide)]; exact hcell 5 _ rfl
          have hc0_6 : wr.cell? ⟨(ad.add (j * 8)).block, (ad.add (j * 8)).off + 6, none⟩ = some (.string (text b6)) := by rw [← add_field ad (j * 8) 6 (by decide)]; exact hcell 6 _ rfl
          have hc0_7 : wr.cell? ⟨(ad.add (j * 8)).block, (ad.add (j * 8)).off + 7, none⟩ = some (.string (text b7)) := by rw [← add_field ad (j * 8) 7 (by decide)]; exact hcell 7 _ rfl
          clear hcell
          have hlt2 := HL.out.lt
          go_wp2_with fail
          refine at_below wr _ (by repeat (first | exact Below.refl _ _ | refine Below.setCell ?_ (Nat.le_refl _) _ | refine Below.alloc ?_ (Nat.le_refl _) _)) fun HBx => ?_
          refine (W_rule base g _ _ _ _ (HL.out.below_ HBx) H0.out (by exact (Cels.mk (Cel.mk_text b0) (Cels.mk (Cel.mk_num n1) (Cels.mk (Cel.mk_rows k2 (R2.out.below (HBx.mono hlt2))) (Cels.mk (Cel.mk_whole HW3.out) (Cels.mk (Cel.mk_whole HW4.out) (Cels.mk (Cel.mk_text b5) (Cels.mk (Cel.mk_text b6) (Cels.mk (Cel.mk_text b7) Cels.mk0))))))))) HQ4.out).mono ?_
          rintro e wr1 ⟨hE, hK⟩
          replace HK := Lib.hid ((HK.out.trans (Wrs.of_below HBx hlt2)).trans hK)
          rcases hE with ⟨h0, rfl, hL⟩ | ⟨h0, rfl⟩
          all_goals have HQ1 := HQ
          · rw [← HQ1.out] at h0 hL
            replace HL := Lib.hid hL
            replace H0 := Lib.hid h0
            clear hL h0 hK
            go_wp2
            go_roundw
            case rel => exact ⟨j + 1, by omega, by go_num, H0, HL, HK⟩
            case measure => simp [intOf]; omega
          · rw [← HQ1.out] at h0 ⊢
            refine ⟨rfl, WEnd.bad h0 (by rw [H4.out]; exact foldT_err _ _ _ _ h0), HK.out⟩
        · go_wp2
          go_end0
          obtain rfl : j = ds.length := by omega
          exact ⟨.inl ⟨by rw [H4.out]; exact H0.out, rfl, by rw [H4.out]; exact HL.out⟩, HK.out⟩
    · refine ⟨rfl, WEnd.bad h0 ?_, HK1.out⟩
      rw [H4.out, lay_num_eq]
      rw [lay_num_eq, ← foldT_zero shRule ds (layNum _ s)] at h0
      rw [foldT_err shRule ds 0 _ h0, foldT_zero]
  · have HE : Hid ((lay (.rows shRule) (.rows ds) s).2 = 2) := Lib.hid (by rw [lay_rows_big hz (by omega)]; simp [St.fail, hz])
    clear hR hs h hz
    go_enter Try.func158, Try.ntmps158
    go_wp2
    exact ⟨rfl, WEnd.bad (E := 2) (by decide) HE.out, Wrs.refl _ _⟩

set_option maxHeartbeats 1600000 in
theorem W_table (base g : Nat) (ds : List Da) (vs : List Value) (s : St) (w : World) (h : WrAt w base g s.1) (hz : s.2 = 0) (hC : Cels w (· < base) shTable ds vs) (hs : (lays shTable ds s).1.length ≤ 1099511627776) :
    Calls Try.prog 112 #[.pointer (some ⟨g, 0, none⟩), .agg vs.toArray] w fun e w' => WEnd (lays shTable ds s) w' base g e ∧ Wrs base w w' := by
  replace hC : Cels w (· < base) [.text, .text, .text, .rows shColumn, .rows shRule] ds vs := hC
  obtain ⟨_, _, _, _, rfl, rfl, c0, hC⟩ := hC.cons
  obtain ⟨_, _, _, _, rfl, rfl, c1, hC⟩ := hC.cons
  obtain ⟨_, _, _, _, rfl, rfl, c2, hC⟩ := hC.cons
  obtain ⟨_, _, _, _, rfl, rfl, c3, hC⟩ := hC.cons
  obtain ⟨_, _, _, _, rfl, rfl, c4, hC⟩ := hC.cons
  obtain ⟨rfl, rfl⟩ := hC.nil
  obtain ⟨b0, rfl, rfl⟩ := c0.txt
  obtain ⟨b1, rfl, rfl⟩ := c1.txt
  obtain ⟨b2, rfl, rfl⟩ := c2.txt
  obtain ⟨r3, A3, k3, rfl, rfl, R3⟩ := c3.rows
  replace R3 := Lib.hid R3
  obtain ⟨r4, A4, k4, rfl, rfl, R4⟩ := c4.rows
  replace R4 := Lib.hid R4
  simp only [shTable, lays] at hs ⊢
  have q5 := Lib.hid hs
  have q4 := Lib.hid (lay_le q5.out)
  have q3 := Lib.hid (lay_le q4.out)
  have q2 := Lib.hid (lay_le q3.out)
  have q1 := Lib.hid (lay_le q2.out)
  have q0 := Lib.hid (lay_le q1.out)
  clear hs
  have hlt := h.lt
  have HA : Hid (Wrs base w (w.alloc (.cells #[.string (text b0), .string (text b1), .string (text b2), .slice A3 r3.length k3, .slice A4 r4.length k4] 175))) := Lib.hid (Wrs.alloc hlt _)
  have HX : Hid (Blk (w.alloc (.cells #[.string (text b0), .string (text b1), .string (text b2), .slice A3 r3.length k3, .slice A4 r4.length k4] 175)) w.heap.size 175 [.string (text b0), .string (text b1), .string (text b2), .slice A3 r3.length k3, .slice A4 r4.length k4]) := Lib.hid (Blk.new w _ _)
  have HL := Lib.hid (h.alloc (.cells #[.string (text b0), .string (text b1), .string (text b2), .slice A3 r3.length k3, .slice A4 r4.length k4] 175))
  have HK : Hid (Wrs base (w.alloc (.cells #[.string (text b0), .string (text b1), .string (text b2), .slice A3 r3.length k3, .slice A4 r4.length k4] 175)) (w.alloc (.cells #[.string (text b0), .string (text b1), .string (text b2), .slice A3 r3.length k3, .slice A4 r4.length k4] 175))) := Lib.hid (Wrs.refl _ _)
  have HZ := Lib.hid hz
  clear h hz
  go_enter Try.func112, Try.ntmps112
  go_wp2_with fail
  refine (W_text base g b0 _ _ HL.out HZ.out q1.out).mono ?_
  rintro e w1 ⟨hE, hK⟩
  replace HK := Lib.hid (HK.out.trans hK)
  rcases hE with ⟨h0, rfl, hL⟩ | ⟨h0, rfl⟩
  rotate_left
  · have he := lays_err [.text, .text, .rows shColumn, .rows shRule] [.text b1, .text b2, .rows r3, .rows r4] _ h0
    simp only [lays] at he
    exact ⟨rfl, WEnd.bad h0 he, HA.out.trans HK.out⟩
  replace HL := Lib.hid hL
  replace HZ := Lib.hid h0
  have HB1 := Lib.hid (HX.out.keeps HK.out.keeps (by decide))
  have hc1_0 : w1.cell? ⟨w.heap.size, 1, none⟩ = some (.string (text b1)) := HB1.out.cell 1
  clear hL hK h0
  go_wp2_with fail
  refine (W_text base g b1 _ _ HL.out HZ.out q2.out).mono ?_
  rintro e w2 ⟨hE, hK⟩
  replace HK := Lib.hid (HK.out.trans hK)
  rcases hE with ⟨h0, rfl, hL⟩ | ⟨h0, rfl⟩
  rotate_left
  · have he := lays_err [.text, .rows shColumn, .rows shRule] [.text b2, .rows r3, .rows r4] _ h0
    simp only [lays] at he
    exact ⟨rfl, WEnd.bad h0 he, HA.out.trans HK.out⟩
  replace HL := Lib.hid hL
  replace HZ := Lib.hid h0
  have HB2 := Lib.hid (HX.out.keeps HK.out.keeps (by decide))
  have hc2_0 : w2.cell? ⟨w.heap.size, 2, none⟩ = some (.string (text b2)) := HB2.out.cell 2
  clear hL hK h0
  go_wp2_with fail
  refine (W_text base g b2 _ _ HL.out HZ.out q3.out).mono ?_
  rintro e w3 ⟨hE, hK⟩
  replace HK := Lib.hid (HK.out.trans hK)
  rcases hE with ⟨h0, rfl, hL⟩ | ⟨h0, rfl⟩
  rotate_left
  · have he := lays_err [.rows shColumn, .rows shRule] [.rows r3, .rows r4] _ h0
    simp only [lays] at he
    exact ⟨rfl, WEnd.bad h0 he, HA.out.trans HK.out⟩
  replace HL := Lib.hid hL
  replace HZ := Lib.hid h0
  have HB3 := Lib.hid (HX.out.keeps HK.out.keeps (by decide))
  have hc3_0 : w3.cell? ⟨w.heap.size, 3, none⟩ = some (.slice A3 r3.length k3) := HB3.out.cell 3
  clear hL hK h0
  go_wp2_with fail
  refine (W_many_Column base g r3 A3 k3 _ _ HL.out HZ.out (R3.out.below (HA.out.trans HK.out).below) q4.out).mono ?_
  rintro e w4 ⟨hE, hK⟩
  replace HK := Lib.hid (HK.out.trans hK)
  rcases hE with ⟨h0, rfl, hL⟩ | ⟨h0, rfl⟩
  rotate_left
  · have he := lays_err [.rows shRule] [.rows r4] _ h0
    simp only [lays] at he
    exact ⟨rfl, WEnd.bad h0 he, HA.out.trans HK.out⟩
  replace HL := Lib.hid hL
  replace HZ := Lib.hid h0
  have HB4 := Lib.hid (HX.out.keeps HK.out.keeps (by decide))
  have hc4_0 : w4.cell? ⟨w.heap.size, 4, none⟩ = some (.slice A4 r4.length k4) := HB4.out.cell 4
  clear hL hK h0
  go_wp2_with fail
  refine (W_many_Rule base g r4 A4 k4 _ _ HL.out HZ.out (R4.out.below (HA.out.trans HK.out).below) q5.out).mono ?_
  rintro e w5 ⟨hE, hK⟩
  replace HK := Lib.hid (HK.out.trans hK)
  rcases hE with ⟨h0, rfl, hL⟩ | ⟨h0, rfl⟩
  rotate_left
  · exact ⟨rfl, WEnd.bad h0 rfl, HA.out.trans HK.out⟩
  replace HL := Lib.hid hL
  replace HZ := Lib.hid h0
  clear hL hK h0
  go_wp2
  go_end0
  exact ⟨.inl ⟨HZ.out, rfl, HL.out⟩, HA.out.trans HK.out⟩

set_option maxHeartbeats 1600000 in
theorem W_many_Table (base g : Nat) (ds : List (List Da)) (A : Option Addr) (c : Nat) (s : St) (w : World) (h : WrAt w base g s.1) (hz : s.2 = 0) (hR : RowsAt w (· < base) shTable ds A) (hs : (lay (.rows shTable) (.rows ds) s).1.length ≤ 1099511627776) :
    Calls Try.prog 111 #[.pointer (some ⟨g, 0, none⟩), .slice A ds.length c, .func (.func 112) #[] #[]] w fun e w' => WEnd (lay (.rows shTable) (.rows ds) s) w' base g e ∧ Wrs base w w' := by
  by_cases h4 : ds.length ≤ 4096
  · have e4 := lay_rows_ok (l := shTable) hz h4
    have C := Lib.hid (W_num base g ds.length s w h hz (by rw [lay_num_eq, ← foldT_zero shTable ds (layNum _ s)]; exact Nat.le_trans (foldT_le_lay hz h4 0) hs))
    have HS := Lib.hid hs
    have HR := Lib.hid hR
    have HZ := Lib.hid hz
    have H4 := Lib.hid e4
    clear hR hs h hz e4
    go_enter Try.func111, Try.ntmps111
    go_wp2_with fail
    refine (unhide C).mono ?_
    rintro e w1 ⟨hE, hK⟩
    have HK1 := Lib.hid hK
    clear hK C
    rcases hE with ⟨h0, rfl, hL⟩ | ⟨h0, rfl⟩
    · rw [lay_num_eq] at h0 hL
      have HL1 := Lib.hid hL
      have H01 := Lib.hid h0
      clear hL h0
      go_wp2
      go_loopw [19] (fun i wr => ∃ j : Nat, j ≤ ds.length ∧ i = .int .i64 j ∧ Hid ((foldT shTable ds j (layNum ds.length s)).2 = 0) ∧ Hid (WrAt wr base g (foldT shTable ds j (layNum ds.length s)).1) ∧ Hid (Wrs base w wr)) (fun i _ => ds.length - (intOf i).toNat)
      case atStart => exact ⟨0, Nat.zero_le _, rfl, Lib.hid (by rw [foldT_zero]; exact H01.out), Lib.hid (by rw [foldT_zero]; exact HL1.out), HK1⟩
      case round =>
        obtain ⟨j, hj, rfl, H0, HL, HK⟩ := hrel
        by_cases hlt : j < ds.length
        · have HQ := Lib.hid (foldT_succ shTable ds j (layNum ds.length s) hlt)
          have q := foldT_le_lay (l := shTable) HZ.out h4 (j + 1)
          rw [HQ.out] at q
          obtain ⟨ad, vs, rfl, hC, hcell⟩ := (HR.out.below HK.out.below).at_ hlt
          obtain ⟨dd, hdd⟩ : ∃ dd, dd = ds[j] := ⟨_, rfl⟩
          rw [← hdd] at hC HQ q
          clear hdd
          have HQ4 := Lib.hid (Nat.le_trans q HS.out)
          clear q
          replace hC : Cels wr (· < base) [.text, .text, .text, .rows shColumn, .rows shRule] dd vs := hC
          obtain ⟨_, _, _, _, rfl, rfl, c0, hC⟩ := hC.cons
          obtain ⟨_, _, _, _, rfl, rfl, c1, hC⟩ := hC.cons
          obtain ⟨_, _, _, _, rfl, rfl, c2, hC⟩ := hC.cons
          obtain ⟨_, _, _, _, rfl, rfl, c3, hC⟩ := hC.cons
          obtain ⟨_, _, _, _, rfl, rfl, c4, hC⟩ := hC.cons
          obtain ⟨rfl, rfl⟩ := hC.nil
          obtain ⟨b0, rfl, rfl⟩ := c0.txt
          obtain ⟨b1, rfl, rfl⟩ := c1.txt
          obtain ⟨b2, rfl, rfl⟩ := c2.txt
          obtain ⟨r3, A3, k3, rfl, rfl, R3⟩ := c3.rows
          replace R3 := Lib.hid R3
          obtain ⟨r4, A4, k4, rfl, rfl, R4⟩ := c4.rows
          replace R4 := Lib.hid R4
          have hc0_0 : wr.cell? (ad.add (j * 5)) = some (.string (text b0)) := hcell 0 _ rfl
          have hc0_1 : wr.cell? ⟨(ad.add (j * 5)).block, (ad.add (j * 5)).off + 1, none⟩ = some (.string (text b1)) := by rw [← add_field ad (j * 5) 1 (by decide)]; exact hcell 1 _ rfl
          have hc0_2 : wr.cell? ⟨(ad.add (j * 5)).block, (ad.add (j * 5)).off + 2, none⟩ = some (.string (text b2)) := by rw [← add_field ad (j * 5) 2 (by decide)]; exact hcell 2 _ rfl
          have hc0_3 : wr.cell? ⟨(ad.add (j * 5)).block, (ad.add (j * 5)).off + 3, none⟩ = some (.slice A3 r3.length k3) := by rw [← add_field ad (j * 5) 3 (by decide)]; exact hcell 3 _ rfl
          have hc0_4 : wr.cell? ⟨(ad.add (j * 5)).block, (ad.add (j * 5)).off + 4, none⟩ = some (.slice A4 r4.length k4) := by rw [← add_field ad (j * 5) 4 (by decide)]; exact hcell 4 _ rfl
          clear hcell
          have hlt2 := HL.out.lt
          go_wp2_with fail
          refine at_below wr _ (by repeat (first | exact Below.refl _ _ | refine Below.setCell ?_ (Nat.le_refl _) _ | refine Below.alloc ?_ (Nat.le_refl _) _)) fun HBx => ?_
          refine (W_table base g _ _ _ _ (HL.out.below_ HBx) H0.out (by exact (Cels.mk (Cel.mk_text b0) (Cels.mk (Cel.mk_text b1) (Cels.mk (Cel.mk_text b2) (Cels.mk (Cel.mk_rows k3 (R3.out.below (HBx.mono hlt2))) (Cels.mk (Cel.mk_rows k4 (R4.out.below (HBx.mono hlt2))) Cels.mk0)))))) HQ4.out).mono ?_
          rintro e wr1 ⟨hE, hK⟩
          replace HK := Lib.hid ((HK.out.trans (Wrs.of_below HBx hlt2)).trans hK)
          rcases hE with ⟨h0, rfl, hL⟩ | ⟨h0, rfl⟩
          all_goals have HQ1 := HQ
          · rw [← HQ1.out] at h0 hL
            replace HL := Lib.hid hL
            replace H0 := Lib.hid h0
            clear hL h0 hK
            go_wp2
            go_roundw
            case rel => exact ⟨j + 1, by omega, by go_num, H0, HL, HK⟩
            case measure => simp [intOf]; omega
          · rw [← HQ1.out] at h0 ⊢
            refine ⟨rfl, WEnd.bad h0 (by rw [H4.out]; exact foldT_err _ _ _ _ h0), HK.out⟩
        · go_wp2
          go_end0
          obtain rfl : j = ds.length := by omega
          exact ⟨.inl ⟨by rw [H4.out]; exact H0.out, rfl, by rw [H4.out]; exact HL.out⟩, HK.out⟩
    · refine ⟨rfl, WEnd.bad h0 ?_, HK1.out⟩
      rw [H4.out, lay_num_eq]
      rw [lay_num_eq, ← foldT_zero shTable ds (layNum _ s)] at h0
      rw [foldT_err shTable ds 0 _ h0, foldT_zero]
  · have HE : Hid ((lay (.rows shTable) (.rows ds) s).2 = 2) := Lib.hid (by rw [lay_rows_big hz (by omega)]; simp [St.fail, hz])
    clear hR hs h hz
    go_enter Try.func111, Try.ntmps111
    go_wp2
    exact ⟨rfl, WEnd.bad (E := 2) (by decide) HE.out, Wrs.refl _ _⟩

set_option maxHeartbeats 1600000 in
theorem W_schema (base g : Nat) (ds : List Da) (vs : List Value) (s : St) (w : World) (h : WrAt w base g s.1) (hz : s.2 = 0) (hC : Cels w (· < base) shSchema ds vs) (hs : (lays shSchema ds s).1.length ≤ 1099511627776) :
    Calls Try.prog 110 #[.pointer (some ⟨g, 0, none⟩), .agg vs.toArray] w fun e w' => WEnd (lays shSchema ds s) w' base g e ∧ Wrs base w w' := by
  replace hC : Cels w (· < base) [.text, .text] ds vs := hC
  obtain ⟨_, _, _, _, rfl, rfl, c0, hC⟩ := hC.cons
  obtain ⟨_, _, _, _, rfl, rfl, c1, hC⟩ := hC.cons
  obtain ⟨rfl, rfl⟩ := hC.nil
  obtain ⟨b0, rfl, rfl⟩ := c0.txt
  obtain ⟨b1, rfl, rfl⟩ := c1.txt
  simp only [shSchema, lays] at hs ⊢
  have q2 := Lib.hid hs
  have q1 := Lib.hid (lay_le q2.out)
  have q0 := Lib.hid (lay_le q1.out)
  clear hs
  have hlt := h.lt
  have HA : Hid (Wrs base w (w.alloc (.cells #[.string (text b0), .string (text b1)] 169))) := Lib.hid (Wrs.alloc hlt _)
  have HX : Hid (Blk (w.alloc (.cells #[.string (text b0), .string (text b1)] 169)) w.heap.size 169 [.string (text b0), .string (text b1)]) := Lib.hid (Blk.new w _ _)
  have HL := Lib.hid (h.alloc (.cells #[.string (text b0), .string (text b1)] 169))
  have HK : Hid (Wrs base (w.alloc (.cells #[.string (text b0), .string (text b1)] 169)) (w.alloc (.cells #[.string (text b0), .string (text b1)] 169))) := Lib.hid (Wrs.refl _ _)
  have HZ := Lib.hid hz
  clear h hz
  go_enter Try.func110, Try.ntmps110
  go_wp2_with fail
  refine (W_text base g b0 _ _ HL.out HZ.out q1.out).mono ?_
  rintro e w1 ⟨hE, hK⟩
  replace HK := Lib.hid (HK.out.trans hK)
  rcases hE with ⟨h0, rfl, hL⟩ | ⟨h0, rfl⟩
  rotate_left
  · have he := lays_err [.text] [.text b1] _ h0
    simp only [lays] at he
    exact ⟨rfl, WEnd.bad h0 he, HA.out.trans HK.out⟩
  replace HL := Lib.hid hL
  replace HZ := Lib.hid h0
  have HB1 := Lib.hid (HX.out.keeps HK.out.keeps (by decide))
  have hc1_0 : w1.cell? ⟨w.heap.size, 1, none⟩ = some (.string (text b1)) := HB1.out.cell 1
  clear hL hK h0
  go_wp2_with fail
  refine (W_text base g b1 _ _ HL.out HZ.out q2.out).mono ?_
  rintro e w2 ⟨hE, hK⟩
  replace HK := Lib.hid (HK.out.trans hK)
  rcases hE with ⟨h0, rfl, hL⟩ | ⟨h0, rfl⟩
  rotate_left
  · exact ⟨rfl, WEnd.bad h0 rfl, HA.out.trans HK.out⟩
  replace HL := Lib.hid hL
  replace HZ := Lib.hid h0
  clear hL hK h0
  go_wp2
  go_end0
  exact ⟨.inl ⟨HZ.out, rfl, HL.out⟩, HA.out.trans HK.out⟩

set_option maxHeartbeats 1600000 in
theorem W_many_Schema (base g : Nat) (ds : List (List Da)) (A : Option Addr) (c : Nat) (s : St) (w : World) (h : WrAt w base g s.1) (hz : s.2 = 0) (hR : RowsAt w (· < base) shSchema ds A) (hs : (lay (.rows shSchema) (.rows ds) s).1.length ≤ 1099511627776) :
    Calls Try.prog 109 #[.pointer (some ⟨g, 0, none⟩), .slice A ds.length c, .func (.func 110) #[] #[]] w fun e w' => WEnd (lay (.rows shSchema) (.rows ds) s) w' base g e ∧ Wrs base w w' := by
  by_cases h4 : ds.length ≤ 4096
  · have e4 := lay_rows_ok (l := shSchema) hz h4
    have C := Lib.hid (W_num base g ds.length s w h hz (by rw [lay_num_eq, ← foldT_zero shSchema ds (layNum _ s)]; exact Nat.le_trans (foldT_le_lay hz h4 0) hs))
    have HS := Lib.hid hs
    have HR := Lib.hid hR
    have HZ := Lib.hid hz
    have H4 := Lib.hid e4
    clear hR hs h hz e4
    go_enter Try.func109, Try.ntmps109
    go_wp2_with fail
    refine (unhide C).mono ?_
    rintro e w1 ⟨hE, hK⟩
    have HK1 := Lib.hid hK
    clear hK C
    rcases hE with ⟨h0, rfl, hL⟩ | ⟨h0, rfl⟩
    · rw [lay_num_eq] at h0 hL
      have HL1 := Lib.hid hL
      have H01 := Lib.hid h0
      clear hL h0
      go_wp2
      go_loopw [19] (fun i wr => ∃ j : Nat, j ≤ ds.length ∧ i = .int .i64 j ∧ Hid ((foldT shSchema ds j (layNum ds.length s)).2 = 0) ∧ Hid (WrAt wr base g (foldT shSchema ds j (layNum ds.length s)).1) ∧ Hid (Wrs base w wr)) (fun i _ => ds.length - (intOf i).toNat)
      case atStart => exact ⟨0, Nat.zero_le _, rfl, Lib.hid (by rw [foldT_zero]; exact H01.out), Lib.hid (by rw [foldT_zero]; exact HL1.out), HK1⟩
      case round =>
        obtain ⟨j, hj, rfl, H0, HL, HK⟩ := hrel
        by_cases hlt : j < ds.length
        · have HQ := Lib.hid (foldT_succ shSchema ds j (layNum ds.length s) hlt)
          have q := foldT_le_lay (l := shSchema) HZ.out h4 (j + 1)
          rw [HQ.out] at q
          obtain ⟨ad, vs, rfl, hC, hcell⟩ := (HR.out.below HK.out.below).at_ hlt
          obtain ⟨dd, hdd⟩ : ∃ dd, dd = ds[j] := ⟨_, rfl⟩
          rw [← hdd] at hC HQ q
          clear hdd
          have HQ4 := Lib.hid (Nat.le_trans q HS.out)
          clear q
          replace hC : Cels wr (· < base) [.text, .text] dd vs := hC
          obtain ⟨_, _, _, _, rfl, rfl, c0, hC⟩ := hC.cons
          obtain ⟨_, _, _, _, rfl, rfl, c1, hC⟩ := hC.cons
          obtain ⟨rfl, rfl⟩ := hC.nil
          obtain ⟨b0, rfl, rfl⟩ := c0.txt
          obtain ⟨b1, rfl, rfl⟩ := c1.txt
          have hc0_0 : wr.cell? (ad.add (j * 2)) = some (.string (text b0)) := hcell 0 _ rfl
          have hc0_1 : wr.cell? ⟨(ad.add (j * 2)).block, (ad.add (j * 2)).off + 1, none⟩ = some (.string (text b1)) := by rw [← add_field ad (j * 2) 1 (by decide)]; exact hcell 1 _ rfl
          clear hcell
          have hlt2 := HL.out.lt
          go_wp2_with fail
          refine at_below wr _ (by repeat (first | exact Below.refl _ _ | refine Below.setCell ?_ (Nat.le_refl _) _ | refine Below.alloc ?_ (Nat.le_refl _) _)) fun HBx => ?_
          refine (W_schema base g _ _ _ _ (HL.out.below_ HBx) H0.out (by exact (Cels.mk (Cel.mk_text b0) (Cels.mk (Cel.mk_text b1) Cels.mk0))) HQ4.out).mono ?_
          rintro e wr1 ⟨hE, hK⟩
          replace HK := Lib.hid ((HK.out.trans (Wrs.of_below HBx hlt2)).trans hK)
          rcases hE with ⟨h0, rfl, hL⟩ | ⟨h0, rfl⟩
          all_goals have HQ1 := HQ
          · rw [← HQ1.out] at h0 hL
            replace HL := Lib.hid hL
            replace H0 := Lib.hid h0
            clear hL h0 hK
            go_wp2
            go_roundw
            case rel => exact ⟨j + 1, by omega, by go_num, H0, HL, HK⟩
            case measure => simp [intOf]; omega
          · rw [← HQ1.out] at h0 ⊢
            refine ⟨rfl, WEnd.bad h0 (by rw [H4.out]; exact foldT_err _ _ _ _ h0), HK.out⟩
        · go_wp2
          go_end0
          obtain rfl : j = ds.length := by omega
          exact ⟨.inl ⟨by rw [H4.out]; exact H0.out, rfl, by rw [H4.out]; exact HL.out⟩, HK.out⟩
    · refine ⟨rfl, WEnd.bad h0 ?_, HK1.out⟩
      rw [H4.out, lay_num_eq]
      rw [lay_num_eq, ← foldT_zero shSchema ds (layNum _ s)] at h0
      rw [foldT_err shSchema ds 0 _ h0, foldT_zero]
  · have HE : Hid ((lay (.rows shSchema) (.rows ds) s).2 = 2) := Lib.hid (by rw [lay_rows_big hz (by omega)]; simp [St.fail, hz])
    clear hR hs h hz
    go_enter Try.func109, Try.ntmps109
    go_wp2
    exact ⟨rfl, WEnd.bad (E := 2) (by decide) HE.out, Wrs.refl _ _⟩

set_option maxHeartbeats 1600000 in
theorem W_member (base g : Nat) (ds : List Da) (vs : List Value) (s : St) (w : World) (h : WrAt w base g s.1) (hz : s.2 = 0) (hC : Cels w (· < base) shMember ds vs) (hs : (lays shMember ds s).1.length ≤ 1099511627776) :
    Calls Try.prog 115 #[.pointer (some ⟨g, 0, none⟩), .agg vs.toArray] w fun e w' => WEnd (lays shMember ds s) w' base g e ∧ Wrs base w w' := by
  replace hC : Cels w (· < base) [.text, .text] ds vs := hC
  obtain ⟨_, _, _, _, rfl, rfl, c0, hC⟩ := hC.cons
  obtain ⟨_, _, _, _, rfl, rfl, c1, hC⟩ := hC.cons
  obtain ⟨rfl, rfl⟩ := hC.nil
  obtain ⟨b0, rfl, rfl⟩ := c0.txt
  obtain ⟨b1, rfl, rfl⟩ := c1.txt
  simp only [shMember, lays] at hs ⊢
  have q2 := Lib.hid hs
  have q1 := Lib.hid (lay_le q2.out)
  have q0 := Lib.hid (lay_le q1.out)
  clear hs
  have hlt := h.lt
  have HA : Hid (Wrs base w (w.alloc (.cells #[.string (text b0), .string (text b1)] 164))) := Lib.hid (Wrs.alloc hlt _)
  have HX : Hid (Blk (w.alloc (.cells #[.string (text b0), .string (text b1)] 164)) w.heap.size 164 [.string (text b0), .string (text b1)]) := Lib.hid (Blk.new w _ _)
  have HL := Lib.hid (h.alloc (.cells #[.string (text b0), .string (text b1)] 164))
  have HK : Hid (Wrs base (w.alloc (.cells #[.string (text b0), .string (text b1)] 164)) (w.alloc (.cells #[.string (text b0), .string (text b1)] 164))) := Lib.hid (Wrs.refl _ _)
  have HZ := Lib.hid hz
  clear h hz
  go_enter Try.func115, Try.ntmps115
  go_wp2_with fail
  refine (W_text base g b0 _ _ HL.out HZ.out q1.out).mono ?_
  rintro e w1 ⟨hE, hK⟩
  replace HK := Lib.hid (HK.out.trans hK)
  rcases hE with ⟨h0, rfl, hL⟩ | ⟨h0, rfl⟩
  rotate_left
  · have he := lays_err [.text] [.text b1] _ h0
    simp only [lays] at he
    exact ⟨rfl, WEnd.bad h0 he, HA.out.trans HK.out⟩
  replace HL := Lib.hid hL
  replace HZ := Lib.hid h0
  have HB1 := Lib.hid (HX.out.keeps HK.out.keeps (by decide))
  have hc1_0 : w1.cell? ⟨w.heap.size, 1, none⟩ = some (.string (text b1)) := HB1.out.cell 1
  clear hL hK h0
  go_wp2_with fail
  refine (W_text base g b1 _ _ HL.out HZ.out q2.out).mono ?_
  rintro e w2 ⟨hE, hK⟩
  replace HK := Lib.hid (HK.out.trans hK)
  rcases hE with ⟨h0, rfl, hL⟩ | ⟨h0, rfl⟩
  rotate_left
  · exact ⟨rfl, WEnd.bad h0 rfl, HA.out.trans HK.out⟩
  replace HL := Lib.hid hL
  replace HZ := Lib.hid h0
  clear hL hK h0
  go_wp2
  go_end0
  exact ⟨.inl ⟨HZ.out, rfl, HL.out⟩, HA.out.trans HK.out⟩

set_option maxHeartbeats 1600000 in
theorem W_many_Member (base g : Nat) (ds : List (List Da)) (A : Option Addr) (c : Nat) (s : St) (w : World) (h : WrAt w base g s.1) (hz : s.2 = 0) (hR : RowsAt w (· < base) shMember ds A) (hs : (lay (.rows shMember) (.rows ds) s).1.length ≤ 1099511627776) :
    Calls Try.prog 114 #[.pointer (some ⟨g, 0, none⟩), .slice A ds.length c, .func (.func 115) #[] #[]] w fun e w' => WEnd (lay (.rows shMember) (.rows ds) s) w' base g e ∧ Wrs base w w' := by
  by_cases h4 : ds.length ≤ 4096
  · have e4 := lay_rows_ok (l := shMember) hz h4
    have C := Lib.hid (W_num base g ds.length s w h hz (by rw [lay_num_eq, ← foldT_zero shMember ds (layNum _ s)]; exact Nat.le_trans (foldT_le_lay hz h4 0) hs))
    have HS := Lib.hid hs
    have HR := Lib.hid hR
    have HZ := Lib.hid hz
    have H4 := Lib.hid e4
    clear hR hs h hz e4
    go_enter Try.func114, Try.ntmps114
    go_wp2_with fail
    refine (unhide C).mono ?_
    rintro e w1 ⟨hE, hK⟩
    have HK1 := Lib.hid hK
    clear hK C
    rcases hE with ⟨h0, rfl, hL⟩ | ⟨h0, rfl⟩
    · rw [lay_num_eq] at h0 hL
      have HL1 := Lib.hid hL
      have H01 := Lib.hid h0
      clear hL h0
      go_wp2
      go_loopw [19] (fun i wr => ∃ j : Nat, j ≤ ds.length ∧ i = .int .i64 j ∧ Hid ((foldT shMember ds j (layNum ds.length s)).2 = 0) ∧ Hid (WrAt wr base g (foldT shMember ds j (layNum ds.length s)).1) ∧ Hid (Wrs base w wr)) (fun i _ => ds.length - (intOf i).toNat)
      case atStart => exact ⟨0, Nat.zero_le _, rfl, Lib.hid (by rw [foldT_zero]; exact H01.out), Lib.hid (by rw [foldT_zero]; exact HL1.out), HK1⟩
      case round =>
        obtain ⟨j, hj, rfl, H0, HL, HK⟩ := hrel
        by_cases hlt : j < ds.length
        · have HQ := Lib.hid (foldT_succ shMember ds j (layNum ds.length s) hlt)
          have q := foldT_le_lay (l := shMember) HZ.out h4 (j + 1)
          rw [HQ.out] at q
          obtain ⟨ad, vs, rfl, hC, hcell⟩ := (HR.out.below HK.out.below).at_ hlt
          obtain ⟨dd, hdd⟩ : ∃ dd, dd = ds[j] := ⟨_, rfl⟩
          rw [← hdd] at hC HQ q
          clear hdd
          have HQ4 := Lib.hid (Nat.le_trans q HS.out)
          clear q
          replace hC : Cels wr (· < base) [.text, .text] dd vs := hC
          obtain ⟨_, _, _, _, rfl, rfl, c0, hC⟩ := hC.cons
          obtain ⟨_, _, _, _, rfl, rfl, c1, hC⟩ := hC.cons
          obtain ⟨rfl, rfl⟩ := hC.nil
          obtain ⟨b0, rfl, rfl⟩ := c0.txt
          obtain ⟨b1, rfl, rfl⟩ := c1.txt
          have hc0_0 : wr.cell? (ad.add (j * 2)) = some (.string (text b0)) := hcell 0 _ rfl
          have hc0_1 : wr.cell? ⟨(ad.add (j * 2)).block, (ad.add (j * 2)).off + 1, none⟩ = some (.string (text b1)) := by rw [← add_field ad (j * 2) 1 (by decide)]; exact hcell 1 _ rfl
          clear hcell
          have hlt2 := HL.out.lt
          go_wp2_with fail
          refine at_below wr _ (by repeat (first | exact Below.refl _ _ | refine Below.setCell ?_ (Nat.le_refl _) _ | refine Below.alloc ?_ (Nat.le_refl _) _)) fun HBx => ?_
          refine (W_member base g _ _ _ _ (HL.out.below_ HBx) H0.out (by exact (Cels.mk (Cel.mk_text b0) (Cels.mk (Cel.mk_text b1) Cels.mk0))) HQ4.out).mono ?_
          rintro e wr1 ⟨hE, hK⟩
          replace HK := Lib.hid ((HK.out.trans (Wrs.of_below HBx hlt2)).trans hK)
          rcases hE with ⟨h0, rfl, hL⟩ | ⟨h0, rfl⟩
          all_goals have HQ1 := HQ
          · rw [← HQ1.out] at h0 hL
            replace HL := Lib.hid hL
            replace H0 := Lib.hid h0
            clear hL h0 hK
            go_wp2
            go_roundw
            case rel => exact ⟨j + 1, by omega, by go_num, H0, HL, HK⟩
            case measure => simp [intOf]; omega
          · rw [← HQ1.out] at h0 ⊢
            refine ⟨rfl, WEnd.bad h0 (by rw [H4.out]; exact foldT_err _ _ _ _ h0), HK.out⟩
        · go_wp2
          go_end0
          obtain rfl : j = ds.length := by omega
          exact ⟨.inl ⟨by rw [H4.out]; exact H0.out, rfl, by rw [H4.out]; exact HL.out⟩, HK.out⟩
    · refine ⟨rfl, WEnd.bad h0 ?_, HK1.out⟩
      rw [H4.out, lay_num_eq]
      rw [lay_num_eq, ← foldT_zero shMember ds (layNum _ s)] at h0
      rw [foldT_err shMember ds 0 _ h0, foldT_zero]
  · have HE : Hid ((lay (.rows shMember) (.rows ds) s).2 = 2) := Lib.hid (by rw [lay_rows_big hz (by omega)]; simp [St.fail, hz])
    clear hR hs h hz
    go_enter Try.func114, Try.ntmps114
    go_wp2
    exact ⟨rfl, WEnd.bad (E := 2) (by decide) HE.out, Wrs.refl _ _⟩

set_option maxHeartbeats 1600000 in
theorem W_grant (base g : Nat) (ds : List Da) (vs : List Value) (s : St) (w : World) (h : WrAt w base g s.1) (hz : s.2 = 0) (hC : Cels w (· < base) shGrant ds vs) (hs : (lays shGrant ds s).1.length ≤ 1099511627776) :
    Calls Try.prog 117 #[.pointer (some ⟨g, 0, none⟩), .agg vs.toArray] w fun e w' => WEnd (lays shGrant ds s) w' base g e ∧ Wrs base w w' := by
  replace hC : Cels w (· < base) [.text, .text, .num, .text, .text, .flag] ds vs := hC
  obtain ⟨_, _, _, _, rfl, rfl, c0, hC⟩ := hC.cons
  obtain ⟨_, _, _, _, rfl, rfl, c1, hC⟩ := hC.cons
  obtain ⟨_, _, _, _, rfl, rfl, c2, hC⟩ := hC.cons
  obtain ⟨_, _, _, _, rfl, rfl, c3, hC⟩ := hC.cons
  obtain ⟨_, _, _, _, rfl, rfl, c4, hC⟩ := hC.cons
  obtain ⟨_, _, _, _, rfl, rfl, c5, hC⟩ := hC.cons
  obtain ⟨rfl, rfl⟩ := hC.nil
  obtain ⟨b0, rfl, rfl⟩ := c0.txt
  obtain ⟨b1, rfl, rfl⟩ := c1.txt
  obtain ⟨n2, rfl, rfl⟩ := c2.num
  obtain ⟨b3, rfl, rfl⟩ := c3.txt
  obtain ⟨b4, rfl, rfl⟩ := c4.txt
  obtain ⟨f5, rfl, rfl⟩ := c5.flag
  simp only [shGrant, lays] at hs ⊢
  have q6 := Lib.hid hs
  have q5 := Lib.hid (lay_le q6.out)
  have q4 := Lib.hid (lay_le q5.out)
  have q3 := Lib.hid (lay_le q4.out)
  have q2 := Lib.hid (lay_le q3.out)
  have q1 := Lib.hid (lay_le q2.out)
  have q0 := Lib.hid (lay_le q1.out)
  clear hs
  have hlt := h.lt
  have HA : Hid (Wrs base w (w.alloc (.cells #[.string (text b0), .string (text b1), .int .i64 n2, .string (text b3), .string (text b4), .bool f5] 166))) := Lib.hid (Wrs.alloc hlt _)
  have HX : Hid (Blk (w.alloc (.cells #[.string (text b0), .string (text b1), .int .i64 n2, .string (text b3), .string (text b4), .bool f5] 166)) w.heap.size 166 [.string (text b0), .string (text b1), .int .i64 n2, .string (text b3), .string (text b4), .bool f5]) := Lib.hid (Blk.new w _ _)
  have HL := Lib.hid (h.alloc (.cells #[.string (text b0), .string (text b1), .int .i64 n2, .string (text b3), .string (text b4), .bool f5] 166))
  have HK : Hid (Wrs base (w.alloc (.cells #[.string (text b0), .string (text b1), .int .i64 n2, .string (text b3), .string (text b4), .bool f5] 166)) (w.alloc (.cells #[.string (text b0), .string (text b1), .int .i64 n2, .string (text b3), .string (text b4), .bool f5] 166))) := Lib.hid (Wrs.refl _ _)
  have HZ := Lib.hid hz
  clear h hz
  go_enter Try.func117, Try.ntmps117
  go_wp2_with fail
  refine (W_text base g b0 _ _ HL.out HZ.out q1.out).mono ?_
  rintro e w1 ⟨hE, hK⟩
  replace HK := Lib.hid (HK.out.trans hK)
  rcases hE with ⟨h0, rfl, hL⟩ | ⟨h0, rfl⟩
  rotate_left
  · have he := lays_err [.text, .num, .text, .text, .flag] [.text b1, .int n2, .text b3, .text b4, .flag f5] _ h0
    simp only [lays] at he
    exact ⟨rfl, WEnd.bad h0 he, HA.out.trans HK.out⟩
  replace HL := Lib.hid hL
  replace HZ := Lib.hid h0
  have HB1 := Lib.hid (HX.out.keeps HK.out.keeps (by decide))
  have hc1_0 : w1.cell? ⟨w.heap.size, 1, none⟩ = some (.string (text b1)) := HB1.out.cell 1
  clear hL hK h0
  go_wp2_with fail
  refine (W_text base g b1 _ _ HL.out HZ.out q2.out).mono ?_
  rintro e w2 ⟨hE, hK⟩
  replace HK := Lib.hid (HK.out.trans hK)
  rcases hE with ⟨h0, rfl, hL⟩ | ⟨h0, rfl⟩
  rotate_left
  · have he := lays_err [.num, .text, .text, .flag] [.int n2, .text b3, .text b4, .flag f5] _ h0
    simp only [lays] at he
    exact ⟨rfl, WEnd.bad h0 he, HA.out.trans HK.out⟩
  replace HL := Lib.hid hL
  replace HZ := Lib.hid h0
  have HB2 := Lib.hid (HX.out.keeps HK.out.keeps (by decide))
  have hc2_0 : w2.cell? ⟨w.heap.size, 2, none⟩ = some (.int .i64 n2) := HB2.out.cell 2
  clear hL hK h0
  go_wp2_with fail
  refine (W_num base g n2 _ _ HL.out HZ.out q3.out).mono ?_
  rintro e w3 ⟨hE, hK⟩
  replace HK := Lib.hid (HK.out.trans hK)
  rcases hE with ⟨h0, rfl, hL⟩ | ⟨h0, rfl⟩
  rotate_left
  · have he := lays_err [.text, .text, .flag] [.text b3, .text b4, .flag f5] _ h0
    simp only [lays] at he
    exact ⟨rfl, WEnd.bad h0 he, HA.out.trans HK.out⟩
  replace HL := Lib.hid hL
  replace HZ := Lib.hid h0
  have HB3 := Lib.hid (HX.out.keeps HK.out.keeps (by decide))
  have hc3_0 : w3.cell? ⟨w.heap.size, 3, none⟩ = some (.string (text b3)) := HB3.out.cell 3
  clear hL hK h0
  go_wp2_with fail
  refine (W_text base g b3 _ _ HL.out HZ.out q4.out).mono ?_
  rintro e w4 ⟨hE, hK⟩
  replace HK := Lib.hid (HK.out.trans hK)
  rcases hE with ⟨h0, rfl, hL⟩ | ⟨h0, rfl⟩
  rotate_left
  · have he := lays_err [.text, .flag] [.text b4, .flag f5] _ h0
    simp only [lays] at he
    exact ⟨rfl, WEnd.bad h0 he, HA.out.trans HK.out⟩
  replace HL := Lib.hid hL
  replace HZ := Lib.hid h0
  have HB4 := Lib.hid (HX.out.keeps HK.out.keeps (by decide))
  have hc4_0 : w4.cell? ⟨w.heap.size, 4, none⟩ = some (.string (text b4)) := HB4.out.cell 4
  clear hL hK h0
  go_wp2_with fail
  refine (W_text base g b4 _ _ HL.out HZ.out q5.out).mono ?_
  rintro e w5 ⟨hE, hK⟩
  replace HK := Lib.hid (HK.out.trans hK)
  rcases hE with ⟨h0, rfl, hL⟩ | ⟨h0, rfl⟩
  rotate_left
  · have he := lays_err [.flag] [.flag f5] _ h0
    simp only [lays] at he
    exact ⟨rfl, WEnd.bad h0 he, HA.out.trans HK.out⟩
  replace HL := Lib.hid hL
  replace HZ := Lib.hid h0
  have HB5 := Lib.hid (HX.out.keeps HK.out.keeps (by decide))
  have hc5_0 : w5.cell? ⟨w.heap.size, 5, none⟩ = some (.bool f5) := HB5.out.cell 5
  clear hL hK h0
  go_wp2_with fail
  refine (W_flag base g f5 _ _ HL.out HZ.out q6.out).mono ?_
  rintro e w6 ⟨hE, hK⟩
  replace HK := Lib.hid (HK.out.trans hK)
  rcases hE with ⟨h0, rfl, hL⟩ | ⟨h0, rfl⟩
  rotate_left
  · exact ⟨rfl, WEnd.bad h0 rfl, HA.out.trans HK.out⟩
  replace HL := Lib.hid hL
  replace HZ := Lib.hid h0
  clear hL hK h0
  go_wp2
  go_end0
  exact ⟨.inl ⟨HZ.out, rfl, HL.out⟩, HA.out.trans HK.out⟩

set_option maxHeartbeats 1600000 in
theorem W_many_Grant (base g : Nat) (ds : List (List Da)) (A : Option Addr) (c : Nat) (s : St) (w : World) (h : WrAt w base g s.1) (hz : s.2 = 0) (hR : RowsAt w (· < base) shGrant ds A) (hs : (lay (.rows shGrant) (.rows ds) s).1.length ≤ 1099511627776) :
    Calls Try.prog 116 #[.pointer (some ⟨g, 0, none⟩), .slice A ds.length c, .func (.func 117) #[] #[]] w fun e w' => WEnd (lay (.rows shGrant) (.rows ds) s) w' base g e ∧ Wrs base w w' := by
  by_cases h4 : ds.length ≤ 4096
  · have e4 := lay_rows_ok (l := shGrant) hz h4
    have C := Lib.hid (W_num base g ds.length s w h hz (by rw [lay_num_eq, ← foldT_zero shGrant ds (layNum _ s)]; exact Nat.le_trans (foldT_le_lay hz h4 0) hs))
    have HS := Lib.hid hs
    have HR := Lib.hid hR
    have HZ := Lib.hid hz
    have H4 := Lib.hid e4
    clear hR hs h hz e4
    go_enter Try.func116, Try.ntmps116
    go_wp2_with fail
    refine (unhide C).mono ?_
    rintro e w1 ⟨hE, hK⟩
    have HK1 := Lib.hid hK
    clear hK C
    rcases hE with ⟨h0, rfl, hL⟩ | ⟨h0, rfl⟩
    · rw [lay_num_eq] at h0 hL
      have HL1 := Lib.hid hL
      have H01 := Lib.hid h0
      clear hL h0
      go_wp2
      go_loopw [19] (fun i wr => ∃ j : Nat, j ≤ ds.length ∧ i = .int .i64 j ∧ Hid ((foldT shGrant ds j (layNum ds.length s)).2 = 0) ∧ Hid (WrAt wr base g (foldT shGrant ds j (layNum ds.length s)).1) ∧ Hid (Wrs base w wr)) (fun i _ => ds.length - (intOf i).toNat)
      case atStart => exact ⟨0, Nat.zero_le _, rfl, Lib.hid (by rw [foldT_zero]; exact H01.out), Lib.hid (by rw [foldT_zero]; exact HL1.out), HK1⟩
      case round =>
        obtain ⟨j, hj, rfl, H0, HL, HK⟩ := hrel
        by_cases hlt : j < ds.length
        · have HQ := Lib.hid (foldT_succ shGrant ds j (layNum ds.length s) hlt)
          have q := foldT_le_lay (l := shGrant) HZ.out h4 (j + 1)
          rw [HQ.out] at q
          obtain ⟨ad, vs, rfl, hC, hcell⟩ := (HR.out.below HK.out.below).at_ hlt
          obtain ⟨dd, hdd⟩ : ∃ dd, dd = ds[j] := ⟨_, rfl⟩
          rw [← hdd] at hC HQ q
          clear hdd
          have HQ4 := Lib.hid (Nat.le_trans q HS.out)
          clear q
          replace hC : Cels wr (· < base) [.text, .text, .num, .text, .text, .flag] dd vs := hC
          obtain ⟨_, _, _, _, rfl, rfl, c0, hC⟩ := hC.cons
          obtain ⟨_, _, _, _, rfl, rfl, c1, hC⟩ := hC.cons
          obtain ⟨_, _, _, _, rfl, rfl, c2, hC⟩ := hC.cons
          obtain ⟨_, _, _, _, rfl, rfl, c3, hC⟩ := hC.cons
          obtain ⟨_, _, _, _, rfl, rfl, c4, hC⟩ := hC.cons
          obtain ⟨_, _, _, _, rfl, rfl, c5, hC⟩ := hC.cons
          obtain ⟨rfl, rfl⟩ := hC.nil
          obtain ⟨b0, rfl, rfl⟩ := c0.txt
          obtain ⟨b1, rfl, rfl⟩ := c1.txt
          obtain ⟨n2, rfl, rfl⟩ := c2.num
          obtain ⟨b3, rfl, rfl⟩ := c3.txt
          obtain ⟨b4, rfl, rfl⟩ := c4.txt
          obtain ⟨f5, rfl, rfl⟩ := c5.flag
          have hc0_0 : wr.cell? (ad.add (j * 6)) = some (.string (text b0)) := hcell 0 _ rfl
          have hc0_1 : wr.cell? ⟨(ad.add (j * 6)).block, (ad.add (j * 6)).off + 1, none⟩ = some (.string (text b1)) := by rw [← add_field ad (j * 6) 1 (by decide)]; exact hcell 1 _ rfl
          have hc0_2 : wr.cell? ⟨(ad.add (j * 6)).block, (ad.add (j * 6)).off + 2, none⟩ = some (.int .i64 n2) := by rw [← add_field ad (j * 6) 2 (by decide)]; exact hcell 2 _ rfl
          have hc0_3 : wr.cell? ⟨(ad.add (j * 6)).block, (ad.add (j * 6)).off + 3, none⟩ = some (.string (text b3)) := by rw [← add_field ad (j * 6) 3 (by decide)]; exact hcell 3 _ rfl
          have hc0_4 : wr.cell? ⟨(ad.add (j * 6)).block, (ad.add (j * 6)).off + 4, none⟩ = some (.string (text b4)) := by rw [← add_field ad (j * 6) 4 (by decide)]; exact hcell 4 _ rfl
          have hc0_5 : wr.cell? ⟨(ad.add (j * 6)).block, (ad.add (j * 6)).off + 5, none⟩ = some (.bool f5) := by rw [← add_field ad (j * 6) 5 (by decide)]; exact hcell 5 _ rfl
          clear hcell
          have hlt2 := HL.out.lt
          go_wp2_with fail
          refine at_below wr _ (by repeat (first | exact Below.refl _ _ | refine Below.setCell ?_ (Nat.le_refl _) _ | refine Below.alloc ?_ (Nat.le_refl _) _)) fun HBx => ?_
          refine (W_grant base g _ _ _ _ (HL.out.below_ HBx) H0.out (by exact (Cels.mk (Cel.mk_text b0) (Cels.mk (Cel.mk_text b1) (Cels.mk (Cel.mk_num n2) (Cels.mk (Cel.mk_text b3) (Cels.mk (Cel.mk_text b4) (Cels.mk (Cel.mk_flag f5) Cels.mk0))))))) HQ4.out).mono ?_
          rintro e wr1 ⟨hE, hK⟩
          replace HK := Lib.hid ((HK.out.trans (Wrs.of_below HBx hlt2)).trans hK)
          rcases hE with ⟨h0, rfl, hL⟩ | ⟨h0, rfl⟩
          all_goals have HQ1 := HQ
          · rw [← HQ1.out] at h0 hL
            replace HL := Lib.hid hL
            replace H0 := Lib.hid h0
            clear hL h0 hK
            go_wp2
            go_roundw
            case rel => exact ⟨j + 1, by omega, by go_num, H0, HL, HK⟩
            case measure => simp [intOf]; omega
          · rw [← HQ1.out] at h0 ⊢
            refine ⟨rfl, WEnd.bad h0 (by rw [H4.out]; exact foldT_err _ _ _ _ h0), HK.out⟩
        · go_wp2
          go_end0
          obtain rfl : j = ds.length := by omega
          exact ⟨.inl ⟨by rw [H4.out]; exact H0.out, rfl, by rw [H4.out]; exact HL.out⟩, HK.out⟩
    · refine ⟨rfl, WEnd.bad h0 ?_, HK1.out⟩
      rw [H4.out, lay_num_eq]
      rw [lay_num_eq, ← foldT_zero shGrant ds (layNum _ s)] at h0
      rw [foldT_err shGrant ds 0 _ h0, foldT_zero]
  · have HE : Hid ((lay (.rows shGrant) (.rows ds) s).2 = 2) := Lib.hid (by rw [lay_rows_big hz (by omega)]; simp [St.fail, hz])
    clear hR hs h hz
    go_enter Try.func116, Try.ntmps116
    go_wp2
    exact ⟨rfl, WEnd.bad (E := 2) (by decide) HE.out, Wrs.refl _ _⟩

set_option maxHeartbeats 1600000 in
theorem W_catalog (base g : Nat) (ds : List Da) (vs : List Value) (s : St) (w : World) (h : WrAt w base g s.1) (hz : s.2 = 0) (hC : Cels w (· < base) shCatalog ds vs) (hs : (lays shCatalog ds s).1.length ≤ 1099511627776) :
    Calls Try.prog 59 #[.pointer (some ⟨g, 0, none⟩), .agg vs.toArray] w fun e w' => WEnd (lays shCatalog ds s) w' base g e ∧ Wrs base w w' := by
  replace hC : Cels w (· < base) [.num, .num, .rows shSchema, .rows shTable, .rows [.text], .rows shMember, .rows shGrant] ds vs := hC
  obtain ⟨_, _, _, _, rfl, rfl, c0, hC⟩ := hC.cons
  obtain ⟨_, _, _, _, rfl, rfl, c1, hC⟩ := hC.cons
  obtain ⟨_, _, _, _, rfl, rfl, c2, hC⟩ := hC.cons
  obtain ⟨_, _, _, _, rfl, rfl, c3, hC⟩ := hC.cons
  obtain ⟨_, _, _, _, rfl, rfl, c4, hC⟩ := hC.cons
  obtain ⟨_, _, _, _, rfl, rfl, c5, hC⟩ := hC.cons
  obtain ⟨_, _, _, _, rfl, rfl, c6, hC⟩ := hC.cons
  obtain ⟨rfl, rfl⟩ := hC.nil
  obtain ⟨n0, rfl, rfl⟩ := c0.num
  obtain ⟨n1, rfl, rfl⟩ := c1.num
  obtain ⟨r2, A2, k2, rfl, rfl, R2⟩ := c2.rows
  replace R2 := Lib.hid R2
  obtain ⟨r3, A3, k3, rfl, rfl, R3⟩ := c3.rows
  replace R3 := Lib.hid R3
  obtain ⟨r4, A4, k4, rfl, rfl, R4⟩ := c4.rows
  replace R4 := Lib.hid R4
  obtain ⟨r5, A5, k5, rfl, rfl, R5⟩ := c5.rows
  replace R5 := Lib.hid R5
  obtain ⟨r6, A6, k6, rfl, rfl, R6⟩ := c6.rows
  replace R6 := Lib.hid R6
  simp only [shCatalog, lays] at hs ⊢
  have q7 := Lib.hid hs
  have q6 := Lib.hid (lay_le q7.out)
  have q5 := Lib.hid (lay_le q6.out)
  have q4 := Lib.hid (lay_le q5.out)
  have q3 := Lib.hid (lay_le q4.out)
  have q2 := Lib.hid (lay_le q3.out)
  have q1 := Lib.hid (lay_le q2.out)
  have q0 := Lib.hid (lay_le q1.out)
  clear hs
  have hlt := h.lt
  have HA : Hid (Wrs base w (w.alloc (.cells #[.int .i64 n0, .int .i64 n1, .slice A2 r2.length k2, .slice A3 r3.length k3, .slice A4 r4.length k4, .slice A5 r5.length k5, .slice A6 r6.length k6] 74))) := Lib.hid (Wrs.alloc hlt _)
  have HX : Hid (Blk (w.alloc (.cells #[.int .i64 n0, .int .i64 n1, .slice A2 r2.length k2, .slice A3 r3.length k3, .slice A4 r4.length k4, .slice A5 r5.length k5, .slice A6 r6.length k6] 74)) w.heap.size 74 [.int .i64 n0, .int .i64 n1, .slice A2 r2.length k2, .slice A3 r3.length k3, .slice A4 r4.length k4, .slice A5 r5.length k5, .slice A6 r6.length k6]) := Lib.hid (Blk.new w _ _)
  have HL := Lib.hid (h.alloc (.cells #[.int .i64 n0, .int .i64 n1, .slice A2 r2.length k2, .slice A3 r3.length k3, .slice A4 r4.length k4, .slice A5 r5.length k5, .slice A6 r6.length k6] 74))
  have HK : Hid (Wrs base (w.alloc (.cells #[.int .i64 n0, .int .i64 n1, .slice A2 r2.length k2, .slice A3 r3.length k3, .slice A4 r4.length k4, .slice A5 r5.length k5, .slice A6 r6.length k6] 74)) (w.alloc (.cells #[.int .i64 n0, .int .i64 n1, .slice A2 r2.length k2, .slice A3 r3.length k3, .slice A4 r4.length k4, .slice A5 r5.length k5, .slice A6 r6.length k6] 74))) := Lib.hid (Wrs.refl _ _)
  have HZ := Lib.hid hz
  clear h hz
  go_enter Try.func59, Try.ntmps59
  go_wp2_with fail
  refine (W_num base g n0 _ _ HL.out HZ.out q1.out).mono ?_
  rintro e w1 ⟨hE, hK⟩
  replace HK := Lib.hid (HK.out.trans hK)
  rcases hE with ⟨h0, rfl, hL⟩ | ⟨h0, rfl⟩
  rotate_left
  · have he := lays_err [.num, .rows shSchema, .rows shTable, .rows [.text], .rows shMember, .rows shGrant] [.int n1, .rows r2, .rows r3, .rows r4, .rows r5, .rows r6] _ h0
    simp only [lays] at he
    exact ⟨rfl, WEnd.bad h0 he, HA.out.trans HK.out⟩
  replace HL := Lib.hid hL
  replace HZ := Lib.hid h0
  have HB1 := Lib.hid (HX.out.keeps HK.out.keeps (by decide))
  have hc1_0 : w1.cell? ⟨w.heap.size, 1, none⟩ = some (.int .i64 n1) := HB1.out.cell 1
  clear hL hK h0
  go_wp2_with fail
  refine (W_num base g n1 _ _ HL.out HZ.out q2.out).mono ?_
  rintro e w2 ⟨hE, hK⟩
  replace HK := Lib.hid (HK.out.trans hK)
  rcases hE with ⟨h0, rfl, hL⟩ | ⟨h0, rfl⟩
  rotate_left
  · have he := lays_err [.rows shSchema, .rows shTable, .rows [.text], .rows shMember, .rows shGrant] [.rows r2, .rows r3, .rows r4, .rows r5, .rows r6] _ h0
    simp only [lays] at he
    exact ⟨rfl, WEnd.bad h0 he, HA.out.trans HK.out⟩
  replace HL := Lib.hid hL
  replace HZ := Lib.hid h0
  have HB2 := Lib.hid (HX.out.keeps HK.out.keeps (by decide))
  have hc2_0 : w2.cell? ⟨w.heap.size, 2, none⟩ = some (.slice A2 r2.length k2) := HB2.out.cell 2
  clear hL hK h0
  go_wp2_with fail
  refine (W_many_Schema base g r2 A2 k2 _ _ HL.out HZ.out (R2.out.below (HA.out.trans HK.out).below) q3.out).mono ?_
  rintro e w3 ⟨hE, hK⟩
  replace HK := Lib.hid (HK.out.trans hK)
  rcases hE with ⟨h0, rfl, hL⟩ | ⟨h0, rfl⟩
  rotate_left
  · have he := lays_err [.rows shTable, .rows [.text], .rows shMember, .rows shGrant] [.rows r3, .rows r4, .rows r5, .rows r6] _ h0
    simp only [lays] at he
    exact ⟨rfl, WEnd.bad h0 he, HA.out.trans HK.out⟩
  replace HL := Lib.hid hL
  replace HZ := Lib.hid h0
  have HB3 := Lib.hid (HX.out.keeps HK.out.keeps (by decide))
  have hc3_0 : w3.cell? ⟨w.heap.size, 3, none⟩ = some (.slice A3 r3.length k3) := HB3.out.cell 3
  clear hL hK h0
  go_wp2_with fail
  refine (W_many_Table base g r3 A3 k3 _ _ HL.out HZ.out (R3.out.below (HA.out.trans HK.out).below) q4.out).mono ?_
  rintro e w4 ⟨hE, hK⟩
  replace HK := Lib.hid (HK.out.trans hK)
  rcases hE with ⟨h0, rfl, hL⟩ | ⟨h0, rfl⟩
  rotate_left
  · have he := lays_err [.rows [.text], .rows shMember, .rows shGrant] [.rows r4, .rows r5, .rows r6] _ h0
    simp only [lays] at he
    exact ⟨rfl, WEnd.bad h0 he, HA.out.trans HK.out⟩
  replace HL := Lib.hid hL
  replace HZ := Lib.hid h0
  have HB4 := Lib.hid (HX.out.keeps HK.out.keeps (by decide))
  have hc4_0 : w4.cell? ⟨w.heap.size, 4, none⟩ = some (.slice A4 r4.length k4) := HB4.out.cell 4
  clear hL hK h0
  go_wp2_with fail
  refine (W_many_string base g r4 A4 k4 _ _ HL.out HZ.out (R4.out.below (HA.out.trans HK.out).below) q5.out).mono ?_
  rintro e w5 ⟨hE, hK⟩
  replace HK := Lib.hid (HK.out.trans hK)
  rcases hE with ⟨h0, rfl, hL⟩ | ⟨h0, rfl⟩
  rotate_left
  · have he := lays_err [.rows shMember, .rows shGrant] [.rows r5, .rows r6] _ h0
    simp only [lays] at he
    exact ⟨rfl, WEnd.bad h0 he, HA.out.trans HK.out⟩
  replace HL := Lib.hid hL
  replace HZ := Lib.hid h0
  have HB5 := Lib.hid (HX.out.keeps HK.out.keeps (by decide))
  have hc5_0 : w5.cell? ⟨w.heap.size, 5, none⟩ = some (.slice A5 r5.length k5) := HB5.out.cell 5
  clear hL hK h0
  go_wp2_with fail
  refine (W_many_Member base g r5 A5 k5 _ _ HL.out HZ.out (R5.out.below (HA.out.trans HK.out).below) q6.out).mono ?_
  rintro e w6 ⟨hE, hK⟩
  replace HK := Lib.hid (HK.out.trans hK)
  rcases hE with ⟨h0, rfl, hL⟩ | ⟨h0, rfl⟩
  rotate_left
  · have he := lays_err [.rows shGrant] [.rows r6] _ h0
    simp only [lays] at he
    exact ⟨rfl, WEnd.bad h0 he, HA.out.trans HK.out⟩
  replace HL := Lib.hid hL
  replace HZ := Lib.hid h0
  have HB6 := Lib.hid (HX.out.keeps HK.out.keeps (by decide))
  have hc6_0 : w6.cell? ⟨w.heap.size, 6, none⟩ = some (.slice A6 r6.length k6) := HB6.out.cell 6
  clear hL hK h0
  go_wp2_with fail
  refine (W_many_Grant base g r6 A6 k6 _ _ HL.out HZ.out (R6.out.below (HA.out.trans HK.out).below) q7.out).mono ?_
  rintro e w7 ⟨hE, hK⟩
  replace HK := Lib.hid (HK.out.trans hK)
  rcases hE with ⟨h0, rfl, hL⟩ | ⟨h0, rfl⟩
  rotate_left
  · exact ⟨rfl, WEnd.bad h0 rfl, HA.out.trans HK.out⟩
  replace HL := Lib.hid hL
  replace HZ := Lib.hid h0
  clear hL hK h0
  go_wp2
  go_end0
  exact ⟨.inl ⟨HZ.out, rfl, HL.out⟩, HA.out.trans HK.out⟩

set_option maxHeartbeats 1600000 in
theorem W_lease (base g : Nat) (ds : List Da) (vs : List Value) (s : St) (w : World) (h : WrAt w base g s.1) (hz : s.2 = 0) (hC : Cels w (· < base) shLease ds vs) (hs : (lays shLease ds s).1.length ≤ 1099511627776) :
    Calls Try.prog 135 #[.pointer (some ⟨g, 0, none⟩), .agg vs.toArray] w fun e w' => WEnd (lays shLease ds s) w' base g e ∧ Wrs base w w' := by
  replace hC : Cels w (· < base) [.num, .num, .num, .num] ds vs := hC
  obtain ⟨_, _, _, _, rfl, rfl, c0, hC⟩ := hC.cons
  obtain ⟨_, _, _, _, rfl, rfl, c1, hC⟩ := hC.cons
  obtain ⟨_, _, _, _, rfl, rfl, c2, hC⟩ := hC.cons
  obtain ⟨_, _, _, _, rfl, rfl, c3, hC⟩ := hC.cons
  obtain ⟨rfl, rfl⟩ := hC.nil
  obtain ⟨n0, rfl, rfl⟩ := c0.num
  obtain ⟨n1, rfl, rfl⟩ := c1.num
  obtain ⟨n2, rfl, rfl⟩ := c2.num
  obtain ⟨n3, rfl, rfl⟩ := c3.num
  simp only [shLease, lays] at hs ⊢
  have q4 := Lib.hid hs
  have q3 := Lib.hid (lay_le q4.out)
  have q2 := Lib.hid (lay_le q3.out)
  have q1 := Lib.hid (lay_le q2.out)
  have q0 := Lib.hid (lay_le q1.out)
  clear hs
  have hlt := h.lt
  have HA : Hid (Wrs base w (w.alloc (.cells #[.int .i64 n0, .int .i64 n1, .int .i64 n2, .int .i64 n3] 205))) := Lib.hid (Wrs.alloc hlt _)
  have HX : Hid (Blk (w.alloc (.cells #[.int .i64 n0, .int .i64 n1, .int .i64 n2, .int .i64 n3] 205)) w.heap.size 205 [.int .i64 n0, .int .i64 n1, .int .i64 n2, .int .i64 n3]) := Lib.hid (Blk.new w _ _)
  have HL := Lib.hid (h.alloc (.cells #[.int .i64 n0, .int .i64 n1, .int .i64 n2, .int .i64 n3] 205))
  have HK : Hid (Wrs base (w.alloc (.cells #[.int .i64 n0, .int .i64 n1, .int .i64 n2, .int .i64 n3] 205)) (w.alloc (.cells #[.int .i64 n0, .int .i64 n1, .int .i64 n2, .int .i64 n3] 205))) := Lib.hid (Wrs.refl _ _)
  have HZ := Lib.hid hz
  clear h hz
  go_enter Try.func135, Try.ntmps135
  go_wp2_with fail
  refine (W_num base g n0 _ _ HL.out HZ.out q1.out).mono ?_
  rintro e w1 ⟨hE, hK⟩
  replace HK := Lib.hid (HK.out.trans hK)
  rcases hE with ⟨h0, rfl, hL⟩ | ⟨h0, rfl⟩
  rotate_left
  · have he := lays_err [.num, .num, .num] [.int n1, .int n2, .int n3] _ h0
    simp only [lays] at he
    exact ⟨rfl, WEnd.bad h0 he, HA.out.trans HK.out⟩
  replace HL := Lib.hid hL
  replace HZ := Lib.hid h0
  have HB1 := Lib.hid (HX.out.keeps HK.out.keeps (by decide))
  have hc1_0 : w1.cell? ⟨w.heap.size, 1, none⟩ = some (.int .i64 n1) := HB1.out.cell 1
  clear hL hK h0
  go_wp2_with fail
  refine (W_num base g n1 _ _ HL.out HZ.out q2.out).mono ?_
  rintro e w2 ⟨hE, hK⟩
  replace HK := Lib.hid (HK.out.trans hK)
  rcases hE with ⟨h0, rfl, hL⟩ | ⟨h0, rfl⟩
  rotate_left
  · have he := lays_err [.num, .num] [.int n2, .int n3] _ h0
    simp only [lays] at he
    exact ⟨rfl, WEnd.bad h0 he, HA.out.trans HK.out⟩
  replace HL := Lib.hid hL
  replace HZ := Lib.hid h0
  have HB2 := Lib.hid (HX.out.keeps HK.out.keeps (by decide))
  have hc2_0 : w2.cell? ⟨w.heap.size, 2, none⟩ = some (.int .i64 n2) := HB2.out.cell 2
  clear hL hK h0
  go_wp2_with fail
  refine (W_num base g n2 _ _ HL.out HZ.out q3.out).mono ?_
  rintro e w3 ⟨hE, hK⟩
  replace HK := Lib.hid (HK.out.trans hK)
  rcases hE with ⟨h0, rfl, hL⟩ | ⟨h0, rfl⟩
  rotate_left
  · have he := lays_err [.num] [.int n3] _ h0
    simp only [lays] at he
    exact ⟨rfl, WEnd.bad h0 he, HA.out.trans HK.out⟩
  replace HL := Lib.hid hL
  replace HZ := Lib.hid h0
  have HB3 := Lib.hid (HX.out.keeps HK.out.keeps (by decide))
  have hc3_0 : w3.cell? ⟨w.heap.size, 3, none⟩ = some (.int .i64 n3) := HB3.out.cell 3
  clear hL hK h0
  go_wp2_with fail
  refine (W_num base g n3 _ _ HL.out HZ.out q4.out).mono ?_
  rintro e w4 ⟨hE, hK⟩
  replace HK := Lib.hid (HK.out.trans hK)
  rcases hE with ⟨h0, rfl, hL⟩ | ⟨h0, rfl⟩
  rotate_left
  · exact ⟨rfl, WEnd.bad h0 rfl, HA.out.trans HK.out⟩
  replace HL := Lib.hid hL
  replace HZ := Lib.hid h0
  clear hL hK h0
  go_wp2
  go_end0
  exact ⟨.inl ⟨HZ.out, rfl, HL.out⟩, HA.out.trans HK.out⟩

set_option maxHeartbeats 1600000 in
theorem W_many_Lease (base g : Nat) (ds : List (List Da)) (A : Option Addr) (c : Nat) (s : St) (w : World) (h : WrAt w base g s.1) (hz : s.2 = 0) (hR : RowsAt w (· < base) shLease ds A) (hs : (lay (.rows shLease) (.rows ds) s).1.length ≤ 1099511627776) :
    Calls Try.prog 134 #[.pointer (some ⟨g, 0, none⟩), .slice A ds.length c, .func (.func 135) #[] #[]] w fun e w' => WEnd (lay (.rows shLease) (.rows ds) s) w' base g e ∧ Wrs base w w' := by
  by_cases h4 : ds.length ≤ 4096
  · have e4 := lay_rows_ok (l := shLease) hz h4
    have C := Lib.hid (W_num base g ds.length s w h hz (by rw [lay_num_eq, ← foldT_zero shLease ds (layNum _ s)]; exact Nat.le_trans (foldT_le_lay hz h4 0) hs))
    have HS := Lib.hid hs
    have HR := Lib.hid hR
    have HZ := Lib.hid hz
    have H4 := Lib.hid e4
    clear hR hs h hz e4
    go_enter Try.func134, Try.ntmps134
    go_wp2_with fail
    refine (unhide C).mono ?_
    rintro e w1 ⟨hE, hK⟩
    have HK1 := Lib.hid hK
    clear hK C
    rcases hE with ⟨h0, rfl, hL⟩ | ⟨h0, rfl⟩
    · rw [lay_num_eq] at h0 hL
      have HL1 := Lib.hid hL
      have H01 := Lib.hid h0
      clear hL h0
      go_wp2
      go_loopw [19] (fun i wr => ∃ j : Nat, j ≤ ds.length ∧ i = .int .i64 j ∧ Hid ((foldT shLease ds j (layNum ds.length s)).2 = 0) ∧ Hid (WrAt wr base g (foldT shLease ds j (layNum ds.length s)).1) ∧ Hid (Wrs base w wr)) (fun i _ => ds.length - (intOf i).toNat)
      case atStart => exact ⟨0, Nat.zero_le _, rfl, Lib.hid (by rw [foldT_zero]; exact H01.out), Lib.hid (by rw [foldT_zero]; exact HL1.out), HK1⟩
      case round =>
        obtain ⟨j, hj, rfl, H0, HL, HK⟩ := hrel
        by_cases hlt : j < ds.length
        · have HQ := Lib.hid (foldT_succ shLease ds j (layNum ds.length s) hlt)
          have q := foldT_le_lay (l := shLease) HZ.out h4 (j + 1)
          rw [HQ.out] at q
          obtain ⟨ad, vs, rfl, hC, hcell⟩ := (HR.out.below HK.out.below).at_ hlt
          obtain ⟨dd, hdd⟩ : ∃ dd, dd = ds[j] := ⟨_, rfl⟩
          rw [← hdd] at hC HQ q
          clear hdd
          have HQ4 := Lib.hid (Nat.le_trans q HS.out)
          clear q
          replace hC : Cels wr (· < base) [.num, .num, .num, .num] dd vs := hC
          obtain ⟨_, _, _, _, rfl, rfl, c0, hC⟩ := hC.cons
          obtain ⟨_, _, _, _, rfl, rfl, c1, hC⟩ := hC.cons
          obtain ⟨_, _, _, _, rfl, rfl, c2, hC⟩ := hC.cons
          obtain ⟨_, _, _, _, rfl, rfl, c3, hC⟩ := hC.cons
          obtain ⟨rfl, rfl⟩ := hC.nil
          obtain ⟨n0, rfl, rfl⟩ := c0.num
          obtain ⟨n1, rfl, rfl⟩ := c1.num
          obtain ⟨n2, rfl, rfl⟩ := c2.num
          obtain ⟨n3, rfl, rfl⟩ := c3.num
          have hc0_0 : wr.cell? (ad.add (j * 4)) = some (.int .i64 n0) := hcell 0 _ rfl
          have hc0_1 : wr.cell? ⟨(ad.add (j * 4)).block, (ad.add (j * 4)).off + 1, none⟩ = some (.int .i64 n1) := by rw [← add_field ad (j * 4) 1 (by decide)]; exact hcell 1 _ rfl
          have hc0_2 : wr.cell? ⟨(ad.add (j * 4)).block, (ad.add (j * 4)).off + 2, none⟩ = some (.int .i64 n2) := by rw [← add_field ad (j * 4) 2 (by decide)]; exact hcell 2 _ rfl
          have hc0_3 : wr.cell? ⟨(ad.add (j * 4)).block, (ad.add (j * 4)).off + 3, none⟩ = some (.int .i64 n3) := by rw [← add_field ad (j * 4) 3 (by decide)]; exact hcell 3 _ rfl
          clear hcell
          have hlt2 := HL.out.lt
          go_wp2_with fail
          refine at_below wr _ (by repeat (first | exact Below.refl _ _ | refine Below.setCell ?_ (Nat.le_refl _) _ | refine Below.alloc ?_ (Nat.le_refl _) _)) fun HBx => ?_
          refine (W_lease base g _ _ _ _ (HL.out.below_ HBx) H0.out (by exact (Cels.mk (Cel.mk_num n0) (Cels.mk (Cel.mk_num n1) (Cels.mk (Cel.mk_num n2) (Cels.mk (Cel.mk_num n3) Cels.mk0))))) HQ4.out).mono ?_
          rintro e wr1 ⟨hE, hK⟩
          replace HK := Lib.hid ((HK.out.trans (Wrs.of_below HBx hlt2)).trans hK)
          rcases hE with ⟨h0, rfl, hL⟩ | ⟨h0, rfl⟩
          all_goals have HQ1 := HQ
          · rw [← HQ1.out] at h0 hL
            replace HL := Lib.hid hL
            replace H0 := Lib.hid h0
            clear hL h0 hK
            go_wp2
            go_roundw
            case rel => exact ⟨j + 1, by omega, by go_num, H0, HL, HK⟩
            case measure => simp [intOf]; omega
          · rw [← HQ1.out] at h0 ⊢
            refine ⟨rfl, WEnd.bad h0 (by rw [H4.out]; exact foldT_err _ _ _ _ h0), HK.out⟩
        · go_wp2
          go_end0
          obtain rfl : j = ds.length := by omega
          exact ⟨.inl ⟨by rw [H4.out]; exact H0.out, rfl, by rw [H4.out]; exact HL.out⟩, HK.out⟩
    · refine ⟨rfl, WEnd.bad h0 ?_, HK1.out⟩
      rw [H4.out, lay_num_eq]
      rw [lay_num_eq, ← foldT_zero shLease ds (layNum _ s)] at h0
      rw [foldT_err shLease ds 0 _ h0, foldT_zero]
  · have HE : Hid ((lay (.rows shLease) (.rows ds) s).2 = 2) := Lib.hid (by rw [lay_rows_big hz (by omega)]; simp [St.fail, hz])
    clear hR hs h hz
    go_enter Try.func134, Try.ntmps134
    go_wp2
    exact ⟨rfl, WEnd.bad (E := 2) (by decide) HE.out, Wrs.refl _ _⟩

set_option maxHeartbeats 1600000 in
theorem W_done (base g : Nat) (ds : List Da) (vs : List Value) (s : St) (w : World) (h : WrAt w base g s.1) (hz : s.2 = 0) (hC : Cels w (· < base) shDone ds vs) (hs : (lays shDone ds s).1.length ≤ 1099511627776) :
    Calls Try.prog 133 #[.pointer (some ⟨g, 0, none⟩), .agg vs.toArray] w fun e w' => WEnd (lays shDone ds s) w' base g e ∧ Wrs base w w' := by
  replace hC : Cels w (· < base) [.num, .num, .num, .num, .num] ds vs := hC
  obtain ⟨_, _, _, _, rfl, rfl, c0, hC⟩ := hC.cons
  obtain ⟨_, _, _, _, rfl, rfl, c1, hC⟩ := hC.cons
  obtain ⟨_, _, _, _, rfl, rfl, c2, hC⟩ := hC.cons
  obtain ⟨_, _, _, _, rfl, rfl, c3, hC⟩ := hC.cons
  obtain ⟨_, _, _, _, rfl, rfl, c4, hC⟩ := hC.cons
  obtain ⟨rfl, rfl⟩ := hC.nil
  obtain ⟨n0, rfl, rfl⟩ := c0.num
  obtain ⟨n1, rfl, rfl⟩ := c1.num
  obtain ⟨n2, rfl, rfl⟩ := c2.num
  obtain ⟨n3, rfl, rfl⟩ := c3.num
  obtain ⟨n4, rfl, rfl⟩ := c4.num
  simp only [shDone, lays] at hs ⊢
  have q5 := Lib.hid hs
  have q4 := Lib.hid (lay_le q5.out)
  have q3 := Lib.hid (lay_le q4.out)
  have q2 := Lib.hid (lay_le q3.out)
  have q1 := Lib.hid (lay_le q2.out)
  have q0 := Lib.hid (lay_le q1.out)
  clear hs
  have hlt := h.lt
  have HA : Hid (Wrs base w (w.alloc (.cells #[.int .i64 n0, .int .i64 n1, .int .i64 n2, .int .i64 n3, .int .i64 n4] 203))) := Lib.hid (Wrs.alloc hlt _)
  have HX : Hid (Blk (w.alloc (.cells #[.int .i64 n0, .int .i64 n1, .int .i64 n2, .int .i64 n3, .int .i64 n4] 203)) w.heap.size 203 [.int .i64 n0, .int .i64 n1, .int .i64 n2, .int .i64 n3, .int .i64 n4]) := Lib.hid (Blk.new w _ _)
  have HL := Lib.hid (h.alloc (.cells #[.int .i64 n0, .int .i64 n1, .int .i64 n2, .int .i64 n3, .int .i64 n4] 203))
  have HK : Hid (Wrs base (w.alloc (.cells #[.int .i64 n0, .int .i64 n1, .int .i64 n2, .int .i64 n3, .int .i64 n4] 203)) (w.alloc (.cells #[.int .i64 n0, .int .i64 n1, .int .i64 n2, .int .i64 n3, .int .i64 n4] 203))) := Lib.hid (Wrs.refl _ _)
  have HZ := Lib.hid hz
  clear h hz
  go_enter Try.func133, Try.ntmps133
  go_wp2_with fail
  refine (W_num base g n0 _ _ HL.out HZ.out q1.out).mono ?_
  rintro e w1 ⟨hE, hK⟩
  replace HK := Lib.hid (HK.out.trans hK)
  rcases hE with ⟨h0, rfl, hL⟩ | ⟨h0, rfl⟩
  rotate_left
  · have he := lays_err [.num, .num, .num, .num] [.int n1, .int n2, .int n3, .int n4] _ h0
    simp only [lays] at he
    exact ⟨rfl, WEnd.bad h0 he, HA.out.trans HK.out⟩
  replace HL := Lib.hid hL
  replace HZ := Lib.hid h0
  have HB1 := Lib.hid (HX.out.keeps HK.out.keeps (by decide))
  have hc1_0 : w1.cell? ⟨w.heap.size, 1, none⟩ = some (.int .i64 n1) := HB1.out.cell 1
  clear hL hK h0
  go_wp2_with fail
  refine (W_num base g n1 _ _ HL.out HZ.out q2.out).mono ?_
  rintro e w2 ⟨hE, hK⟩
  replace HK := Lib.hid (HK.out.trans hK)
  rcases hE with ⟨h0, rfl, hL⟩ | ⟨h0, rfl⟩
  rotate_left
  · have he := lays_err [.num, .num, .num] [.int n2, .int n3, .int n4] _ h0
    simp only [lays] at he
    exact ⟨rfl, WEnd.bad h0 he, HA.out.trans HK.out⟩
  replace HL := Lib.hid hL
  replace HZ := Lib.hid h0
  have HB2 := Lib.hid (HX.out.keeps HK.out.keeps (by decide))
  have hc2_0 : w2.cell? ⟨w.heap.size, 2, none⟩ = some (.int .i64 n2) := HB2.out.cell 2
  clear hL hK h0
  go_wp2_with fail
  refine (W_num base g n2 _ _ HL.out HZ.out q3.out).mono ?_
  rintro e w3 ⟨hE, hK⟩
  replace HK := Lib.hid (HK.out.trans hK)
  rcases hE with ⟨h0, rfl, hL⟩ | ⟨h0, rfl⟩
  rotate_left
  · have he := lays_err [.num, .num] [.int n3, .int n4] _ h0
    simp only [lays] at he
    exact ⟨rfl, WEnd.bad h0 he, HA.out.trans HK.out⟩
  replace HL := Lib.hid hL
  replace HZ := Lib.hid h0
  have HB3 := Lib.hid (HX.out.keeps HK.out.keeps (by decide))
  have hc3_0 : w3.cell? ⟨w.heap.size, 3, none⟩ = some (.int .i64 n3) := HB3.out.cell 3
  clear hL hK h0
  go_wp2_with fail
  refine (W_num base g n3 _ _ HL.out HZ.out q4.out).mono ?_
  rintro e w4 ⟨hE, hK⟩
  replace HK := Lib.hid (HK.out.trans hK)
  rcases hE with ⟨h0, rfl, hL⟩ | ⟨h0, rfl⟩
  rotate_left
  · have he := lays_err [.num] [.int n4] _ h0
    simp only [lays] at he
    exact ⟨rfl, WEnd.bad h0 he, HA.out.trans HK.out⟩
  replace HL := Lib.hid hL
  replace HZ := Lib.hid h0
  have HB4 := Lib.hid (HX.out.keeps HK.out.keeps (by decide))
  have hc4_0 : w4.cell? ⟨w.heap.size, 4, none⟩ = some (.int .i64 n4) := HB4.out.cell 4
  clear hL hK h0
  go_wp2_with fail
  refine (W_num base g n4 _ _ HL.out HZ.out q5.out).mono ?_
  rintro e w5 ⟨hE, hK⟩
  replace HK := Lib.hid (HK.out.trans hK)
  rcases hE with ⟨h0, rfl, hL⟩ | ⟨h0, rfl⟩
  rotate_left
  · exact ⟨rfl, WEnd.bad h0 rfl, HA.out.trans HK.out⟩
  replace HL := Lib.hid hL
  replace HZ := Lib.hid h0
  clear hL hK h0
  go_wp2
  go_end0
  exact ⟨.inl ⟨HZ.out, rfl, HL.out⟩, HA.out.trans HK.out⟩

set_option maxHeartbeats 1600000 in
theorem W_many_Done (base g : Nat) (ds : List (List Da)) (A : Option Addr) (c : Nat) (s : St) (w : World) (h : WrAt w base g s.1) (hz : s.2 = 0) (hR : RowsAt w (· < base) shDone ds A) (hs : (lay (.rows shDone) (.rows ds) s).1.length ≤ 1099511627776) :
    Calls Try.prog 132 #[.pointer (some ⟨g, 0, none⟩), .slice A ds.length c, .func (.func 133) #[] #[]] w fun e w' => WEnd (lay (.rows shDone) (.rows ds) s) w' base g e ∧ Wrs base w w' := by
  by_cases h4 : ds.length ≤ 4096
  · have e4 := lay_rows_ok (l := shDone) hz h4
    have C := Lib.hid (W_num base g ds.length s w h hz (by rw [lay_num_eq, ← foldT_zero shDone ds (layNum _ s)]; exact Nat.le_trans (foldT_le_lay hz h4 0) hs))
    have HS := Lib.hid hs
    have HR := Lib.hid hR
    have HZ := Lib.hid hz
    have H4 := Lib.hid e4
    clear hR hs h hz e4
    go_enter Try.func132, Try.ntmps132
    go_wp2_with fail
    refine (unhide C).mono ?_
    rintro e w1 ⟨hE, hK⟩
    have HK1 := Lib.hid hK
    clear hK C
    rcases hE with ⟨h0, rfl, hL⟩ | ⟨h0, rfl⟩
    · rw [lay_num_eq] at h0 hL
      have HL1 := Lib.hid hL
      have H01 := Lib.hid h0
      clear hL h0
      go_wp2
      go_loopw [19] (fun i wr => ∃ j : Nat, j ≤ ds.length ∧ i = .int .i64 j ∧ Hid ((foldT shDone ds j (layNum ds.length s)).2 = 0) ∧ Hid (WrAt wr base g (foldT shDone ds j (layNum ds.length s)).1) ∧ Hid (Wrs base w wr)) (fun i _ => ds.length - (intOf i).toNat)
      case atStart => exact ⟨0, Nat.zero_le _, rfl, Lib.hid (by rw [foldT_zero]; exact H01.out), Lib.hid (by rw [foldT_zero]; exact HL1.out), HK1⟩
      case round =>
        obtain ⟨j, hj, rfl, H0, HL, HK⟩ := hrel
        by_cases hlt : j < ds.length
        · have HQ := Lib.hid (foldT_succ shDone ds j (layNum ds.length s) hlt)
          have q := foldT_le_lay (l := shDone) HZ.out h4 (j + 1)
          rw [HQ.out] at q
          obtain ⟨ad, vs, rfl, hC, hcell⟩ := (HR.out.below HK.out.below).at_ hlt
          obtain ⟨dd, hdd⟩ : ∃ dd, dd = ds[j] := ⟨_, rfl⟩
          rw [← hdd] at hC HQ q
          clear hdd
          have HQ4 := Lib.hid (Nat.le_trans q HS.out)
          clear q
          replace hC : Cels wr (· < base) [.num, .num, .num, .num, .num] dd vs := hC
          obtain ⟨_, _, _, _, rfl, rfl, c0, hC⟩ := hC.cons
          obtain ⟨_, _, _, _, rfl, rfl, c1, hC⟩ := hC.cons
          obtain ⟨_, _, _, _, rfl, rfl, c2, hC⟩ := hC.cons
          obtain ⟨_, _, _, _, rfl, rfl, c3, hC⟩ := hC.cons
          obtain ⟨_, _, _, _, rfl, rfl, c4, hC⟩ := hC.cons
          obtain ⟨rfl, rfl⟩ := hC.nil
          obtain ⟨n0, rfl, rfl⟩ := c0.num
          obtain ⟨n1, rfl, rfl⟩ := c1.num
          obtain ⟨n2, rfl, rfl⟩ := c2.num
          obtain ⟨n3, rfl, rfl⟩ := c3.num
          obtain ⟨n4, rfl, rfl⟩ := c4.num
          have hc0_0 : wr.cell? (ad.add (j * 5)) = some (.int .i64 n0) := hcell 0 _ rfl
          have hc0_1 : wr.cell? ⟨(ad.add (j * 5)).block, (ad.add (j * 5)).off + 1, none⟩ = some (.int .i64 n1) := by rw [← add_field ad (j * 5) 1 (by decide)]; exact hcell 1 _ rfl
          have hc0_2 : wr.cell? ⟨(ad.add (j * 5)).block, (ad.add (j * 5)).off + 2, none⟩ = some (.int .i64 n2) := by rw [← add_field ad (j * 5) 2 (by decide)]; exact hcell 2 _ rfl
          have hc0_3 : wr.cell? ⟨(ad.add (j * 5)).block, (ad.add (j * 5)).off + 3, none⟩ = some (.int .i64 n3) := by rw [← add_field ad (j * 5) 3 (by decide)]; exact hcell 3 _ rfl
          have hc0_4 : wr.cell? ⟨(ad.add (j * 5)).block, (ad.add (j * 5)).off + 4, none⟩ = some (.int .i64 n4) := by rw [← add_field ad (j * 5) 4 (by decide)]; exact hcell 4 _ rfl
          clear hcell
          have hlt2 := HL.out.lt
          go_wp2_with fail
          refine at_below wr _ (by repeat (first | exact Below.refl _ _ | refine Below.setCell ?_ (Nat.le_refl _) _ | refine Below.alloc ?_ (Nat.le_refl _) _)) fun HBx => ?_
          refine (W_done base g _ _ _ _ (HL.out.below_ HBx) H0.out (by exact (Cels.mk (Cel.mk_num n0) (Cels.mk (Cel.mk_num n1) (Cels.mk (Cel.mk_num n2) (Cels.mk (Cel.mk_num n3) (Cels.mk (Cel.mk_num n4) Cels.mk0)))))) HQ4.out).mono ?_
          rintro e wr1 ⟨hE, hK⟩
          replace HK := Lib.hid ((HK.out.trans (Wrs.of_below HBx hlt2)).trans hK)
          rcases hE with ⟨h0, rfl, hL⟩ | ⟨h0, rfl⟩
          all_goals have HQ1 := HQ
          · rw [← HQ1.out] at h0 hL
            replace HL := Lib.hid hL
            replace H0 := Lib.hid h0
            clear hL h0 hK
            go_wp2
            go_roundw
            case rel => exact ⟨j + 1, by omega, by go_num, H0, HL, HK⟩
            case measure => simp [intOf]; omega
          · rw [← HQ1.out] at h0 ⊢
            refine ⟨rfl, WEnd.bad h0 (by rw [H4.out]; exact foldT_err _ _ _ _ h0), HK.out⟩
        · go_wp2
          go_end0
          obtain rfl : j = ds.length := by omega
          exact ⟨.inl ⟨by rw [H4.out]; exact H0.out, rfl, by rw [H4.out]; exact HL.out⟩, HK.out⟩
    · refine ⟨rfl, WEnd.bad h0 ?_, HK1.out⟩
      rw [H4.out, lay_num_eq]
      rw [lay_num_eq, ← foldT_zero shDone ds (layNum _ s)] at h0
      rw [foldT_err shDone ds 0 _ h0, foldT_zero]
  · have HE : Hid ((lay (.rows shDone) (.rows ds) s).2 = 2) := Lib.hid (by rw [lay_rows_big hz (by omega)]; simp [St.fail, hz])
    clear hR hs h hz
    go_enter Try.func132, Try.ntmps132
    go_wp2
    exact ⟨rfl, WEnd.bad (E := 2) (by decide) HE.out, Wrs.refl _ _⟩

set_option maxHeartbeats 1600000 in
theorem W_machine (base g : Nat) (ds : List Da) (vs : List Value) (s : St) (w : World) (h : WrAt w base g s.1) (hz : s.2 = 0) (hC : Cels w (· < base) shMachine ds vs) (hs : (lays shMachine ds s).1.length ≤ 1099511627776) :
    Calls Try.prog 65 #[.pointer (some ⟨g, 0, none⟩), .agg vs.toArray] w fun e w' => WEnd (lays shMachine ds s) w' base g e ∧ Wrs base w w' := by
  replace hC : Cels w (· < base) [.num, .num, .rows shSchema, .rows shTable, .rows [.text], .rows shMember, .rows shGrant, .rows shDone, .rows shLease, .num] ds vs := hC
  obtain ⟨_, _, _, _, rfl, rfl, c0, hC⟩ := hC.cons
  obtain ⟨_, _, _, _, rfl, rfl, c1, hC⟩ := hC.cons
  obtain ⟨_, _, _, _, rfl, rfl, c2, hC⟩ := hC.cons
  obtain ⟨_, _, _, _, rfl, rfl, c3, hC⟩ := hC.cons
  obtain ⟨_, _, _, _, rfl, rfl, c4, hC⟩ := hC.cons
  obtain ⟨_, _, _, _, rfl, rfl, c5, hC⟩ := hC.cons
  obtain ⟨_, _, _, _, rfl, rfl, c6, hC⟩ := hC.cons
  obtain ⟨_, _, _, _, rfl, rfl, c7, hC⟩ := hC.cons
  obtain ⟨_, _, _, _, rfl, rfl, c8, hC⟩ := hC.cons
  obtain ⟨_, _, _, _, rfl, rfl, c9, hC⟩ := hC.cons
  obtain ⟨rfl, rfl⟩ := hC.nil
  obtain ⟨n0, rfl, rfl⟩ := c0.num
  obtain ⟨n1, rfl, rfl⟩ := c1.num
  obtain ⟨r2, A2, k2, rfl, rfl, R2⟩ := c2.rows
  replace R2 := Lib.hid R2
  obtain ⟨r3, A3, k3, rfl, rfl, R3⟩ := c3.rows
  replace R3 := Lib.hid R3
  obtain ⟨r4, A4, k4, rfl, rfl, R4⟩ := c4.rows
  replace R4 := Lib.hid R4
  obtain ⟨r5, A5, k5, rfl, rfl, R5⟩ := c5.rows
  replace R5 := Lib.hid R5
  obtain ⟨r6, A6, k6, rfl, rfl, R6⟩ := c6.rows
  replace R6 := Lib.hid R6
  obtain ⟨r7, A7, k7, rfl, rfl, R7⟩ := c7.rows
  replace R7 := Lib.hid R7
  obtain ⟨r8, A8, k8, rfl, rfl, R8⟩ := c8.rows
  replace R8 := Lib.hid R8
  obtain ⟨n9, rfl, rfl⟩ := c9.num
  simp only [shMachine, lays] at hs ⊢
  have q10 := Lib.hid hs
  have q9 := Lib.hid (lay_le q10.out)
  have q8 := Lib.hid (lay_le q9.out)
  have q7 := Lib.hid (lay_le q8.out)
  have q6 := Lib.hid (lay_le q7.out)
  have q5 := Lib.hid (lay_le q6.out)
  have q4 := Lib.hid (lay_le q5.out)
  have q3 := Lib.hid (lay_le q4.out)
  have q2 := Lib.hid (lay_le q3.out)
  have q1 := Lib.hid (lay_le q2.out)
  have q0 := Lib.hid (lay_le q1.out)
  clear hs
  have hlt := h.lt
  have HA : Hid (Wrs base w (w.alloc (.cells #[.int .i64 n0, .int .i64 n1, .slice A2 r2.length k2, .slice A3 r3.length k3, .slice A4 r4.length k4, .slice A5 r5.length k5, .slice A6 r6.length k6, .slice A7 r7.length k7, .slice A8 r8.length k8, .int .i64 n9] 82))) := Lib.hid (Wrs.alloc hlt _)
  have HX : Hid (Blk (w.alloc (.cells #[.int .i64 n0, .int .i64 n1, .slice A2 r2.length k2, .slice A3 r3.length k3, .slice A4 r4.length k4, .slice A5 r5.length k5, .slice A6 r6.length k6, .slice A7 r7.length k7, .slice A8 r8.length k8, .int .i64 n9] 82)) w.heap.size 82 [.int .i64 n0, .int .i64 n1, .slice A2 r2.length k2, .slice A3 r3.length k3, .slice A4 r4.length k4, .slice A5 r5.length k5, .slice A6 r6.length k6, .slice A7 r7.length k7, .slice A8 r8.length k8, .int .i64 n9]) := Lib.hid (Blk.new w _ _)
  have HL := Lib.hid (h.alloc (.cells #[.int .i64 n0, .int .i64 n1, .slice A2 r2.length k2, .slice A3 r3.length k3, .slice A4 r4.length k4, .slice A5 r5.length k5, .slice A6 r6.length k6, .slice A7 r7.length k7, .slice A8 r8.length k8, .int .i64 n9] 82))
  have HK : Hid (Wrs base (w.alloc (.cells #[.int .i64 n0, .int .i64 n1, .slice A2 r2.length k2, .slice A3 r3.length k3, .slice A4 r4.length k4, .slice A5 r5.length k5, .slice A6 r6.length k6, .slice A7 r7.length k7, .slice A8 r8.length k8, .int .i64 n9] 82)) (w.alloc (.cells #[.int .i64 n0, .int .i64 n1, .slice A2 r2.length k2, .slice A3 r3.length k3, .slice A4 r4.length k4, .slice A5 r5.length k5, .slice A6 r6.length k6, .slice A7 r7.length k7, .slice A8 r8.length k8, .int .i64 n9] 82))) := Lib.hid (Wrs.refl _ _)
  have HZ := Lib.hid hz
  clear h hz
  go_enter Try.func65, Try.ntmps65
  go_wp2_with fail
  refine (W_catalog base g _ _ _ _ HL.out HZ.out (Cels.mk (Cel.mk_num n0) (Cels.mk (Cel.mk_num n1) (Cels.mk (Cel.mk_rows k2 (R2.out.below (HA.out.trans HK.out).below)) (Cels.mk (Cel.mk_rows k3 (R3.out.below (HA.out.trans HK.out).below)) (Cels.mk (Cel.mk_rows k4 (R4.out.below (HA.out.trans HK.out).below)) (Cels.mk (Cel.mk_rows k5 (R5.out.below (HA.out.trans HK.out).below)) (Cels.mk (Cel.mk_rows k6 (R6.out.below (HA.out.trans HK.out).below)) Cels.mk0))))))) (by simp only [shCatalog, lays]; exact q7.out)).mono ?_
  rintro e w1 ⟨hE, hK⟩
  simp only [shCatalog, lays] at hE
  replace HK := Lib.hid (HK.out.trans hK)
  rcases hE with ⟨h0, rfl, hL⟩ | ⟨h0, rfl⟩
  rotate_left
  · have he := lays_err [.rows shDone, .rows shLease, .num] [.rows r7, .rows r8, .int n9] _ h0
    simp only [lays] at he
    exact ⟨rfl, WEnd.bad h0 he, HA.out.trans HK.out⟩
  replace HL := Lib.hid hL
  replace HZ := Lib.hid h0
  have HB1 := Lib.hid (HX.out.keeps HK.out.keeps (by decide))
  have hc1_0 : w1.cell? ⟨w.heap.size, 7, none⟩ = some (.slice A7 r7.length k7) := HB1.out.cell 7
  clear hL hK h0
  go_wp2_with fail
  refine (W_many_Done base g r7 A7 k7 _ _ HL.out HZ.out (R7.out.below (HA.out.trans HK.out).below) q8.out).mono ?_
  rintro e w2 ⟨hE, hK⟩
  replace HK := Lib.hid (HK.out.trans hK)
  rcases hE with ⟨h0, rfl, hL⟩ | ⟨h0, rfl⟩
  rotate_left
  · have he := lays_err [.rows shLease, .num] [.rows r8, .int n9] _ h0
    simp only [lays] at he
    exact ⟨rfl, WEnd.bad h0 he, HA.out.trans HK.out⟩
  replace HL := Lib.hid hL
  replace HZ := Lib.hid h0
  have HB2 := Lib.hid (HX.out.keeps HK.out.keeps (by decide))
  have hc2_0 : w2.cell? ⟨w.heap.size, 8, none⟩ = some (.slice A8 r8.length k8) := HB2.out.cell 8
  clear hL hK h0
  go_wp2_with fail
  refine (W_many_Lease base g r8 A8 k8 _ _ HL.out HZ.out (R8.out.below (HA.out.trans HK.out).below) q9.out).mono ?_
  rintro e w3 ⟨hE, hK⟩
  replace HK := Lib.hid (HK.out.trans hK)
  rcases hE with ⟨h0, rfl, hL⟩ | ⟨h0, rfl⟩
  rotate_left
  · have he := lays_err [.num] [.int n9] _ h0
    simp only [lays] at he
    exact ⟨rfl, WEnd.bad h0 he, HA.out.trans HK.out⟩
  replace HL := Lib.hid hL
  replace HZ := Lib.hid h0
  have HB3 := Lib.hid (HX.out.keeps HK.out.keeps (by decide))
  have hc3_0 : w3.cell? ⟨w.heap.size, 9, none⟩ = some (.int .i64 n9) := HB3.out.cell 9
  clear hL hK h0
  go_wp2_with fail
  refine (W_num base g n9 _ _ HL.out HZ.out q10.out).mono ?_
  rintro e w4 ⟨hE, hK⟩
  replace HK := Lib.hid (HK.out.trans hK)
  rcases hE with ⟨h0, rfl, hL⟩ | ⟨h0, rfl⟩
  rotate_left
  · exact ⟨rfl, WEnd.bad h0 rfl, HA.out.trans HK.out⟩
  replace HL := Lib.hid hL
  replace HZ := Lib.hid h0
  clear hL hK h0
  go_wp2
  go_end0
  exact ⟨.inl ⟨HZ.out, rfl, HL.out⟩, HA.out.trans HK.out⟩

end Go.Proofs.Yteohhgkehkmgcaa
