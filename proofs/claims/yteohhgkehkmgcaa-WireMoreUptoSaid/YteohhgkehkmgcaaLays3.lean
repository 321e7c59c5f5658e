/- The walks of the reference that lays: structs whose lists are laid in place. Printed by mklays3.py. -/
import Derived.Test.YteohhgkehkmgcaaLays1
import Derived.Test.YteohhgkehkmgcaaRe3
namespace Go.Proofs.Yteohhgkehkmgcaa
open Go.RowKit Le
set_option maxRecDepth 100000
set_option linter.unusedVariables false
set_option linter.unusedSimpArgs false

theorem LayAt.below_ {w w' : World} {base g : Nat} {s : St} (h : LayAt w base g s) (hb : Below w.heap.size w w') : LayAt w' base g s := by
  obtain ⟨A, n, c, hB, hO, hbg⟩ := h
  exact ⟨A, n, c, hB.below hb hB.lt, hO.below_ hb, hbg⟩
theorem Lays.of_below {w w' : World} {base : Nat} (hb : Below w.heap.size w w') (h : base ≤ w.heap.size) : Lays base w w' := ⟨hb.mono h, Keeps.of_below hb (Nat.le_refl _)⟩
theorem rows_no_err {l : List Sh} {ds : List (List Da)} {s : St} (h : ¬ (s.2 = 0 ∧ ds.length ≤ 4096)) : (lay (.rows l) (.rows ds) s).2 ≠ 0 := by
  by_cases h1 : s.2 = 0
  · rw [lay_rows_big h1 (by omega)]
    simp [St.fail, h1]
  · rw [lay_rows_err h1]
    exact h1

set_option maxHeartbeats 1600000 in
theorem L_table (base g : Nat) (ds : List Da) (vs : List Value) (s : St) (w : World) (h : LayAt w base g s) (hC : Cels w (· < base) shTable ds vs) (hs : (lays shTable ds s).1.length ≤ 1099511627776) :
    Calls Try.prog 157 #[.pointer (some ⟨g, 0, none⟩), .agg vs.toArray] w fun e w' => e = .returned (.tuple #[]) ∧ LayAt w' base g (lays shTable ds s) ∧ Lays base w w' := by
  replace hC : Cels w (· < base) [.text, .text, .text, .rows shColumn, .rows shRule] ds vs := hC
  obtain ⟨_, _, _, _, rfl, rfl, c0, hC⟩ := hC.cons
  obtain ⟨_, _, _, _, rfl, rfl, c1, hC⟩ := hC.cons
  obtain ⟨_, _, _, _, rfl, rfl, c2, hC⟩ := hC.cons
  obtain ⟨_, _, _, _, rfl, rfl, c3, hC⟩ := hC.cons
  obtain ⟨_, _, _, _, rfl, rfl, c4, hC⟩ := hC.cons
  obtain ⟨rfl, rfl⟩ := hC.nil
  obtain ⟨b0, rfl, rfl⟩ := c0.txt
  obtain ⟨b1, rfl, rfl⟩ := c1.txt
  obtain ⟨b2, rfl, rfl⟩ := c2.txt
  obtain ⟨r3, A3, k3, rfl, rfl, R3⟩ := c3.rows
  replace R3 := Lib.hid R3
  obtain ⟨r4, A4, k4, rfl, rfl, R4⟩ := c4.rows
  replace R4 := Lib.hid R4
  simp only [shTable, lays] at hs ⊢
  have q5 := Lib.hid hs
  have q4 := Lib.hid (lay_le q5.out)
  have q3 := Lib.hid (lay_le q4.out)
  have q2 := Lib.hid (lay_le q3.out)
  have q1 := Lib.hid (lay_le q2.out)
  have q0 := Lib.hid (lay_le q1.out)
  clear hs
  have hlt := h.lt
  have HA : Hid (Lays base w (w.alloc (.cells #[.string (text b0), .string (text b1), .string (text b2), .slice A3 r3.length k3, .slice A4 r4.length k4] 175))) := Lib.hid (Lays.alloc hlt _)
  have HX : Hid (Blk (w.alloc (.cells #[.string (text b0), .string (text b1), .string (text b2), .slice A3 r3.length k3, .slice A4 r4.length k4] 175)) w.heap.size 175 [.string (text b0), .string (text b1), .string (text b2), .slice A3 r3.length k3, .slice A4 r4.length k4]) := Lib.hid (Blk.new w _ _)
  have HL := Lib.hid (h.alloc (.cells #[.string (text b0), .string (text b1), .string (text b2), .slice A3 r3.length k3, .slice A4 r4.length k4] 175))
  have HK : Hid (Lays base (w.alloc (.cells #[.string (text b0), .string (text b1), .string (text b2), .slice A3 r3.length k3, .slice A4 r4.length k4] 175)) (w.alloc (.cells #[.string (text b0), .string (text b1), .string (text b2), .slice A3 r3.length k3, .slice A4 r4.length k4] 175))) := Lib.hid (Lays.refl _ _)
  clear h
  go_enter Try.func157, Try.ntmps157
  go_wp2_with fail
  refine (L_text base g b0 _ _ HL.out q1.out).mono ?_
  rintro e w1 ⟨rfl, hL, hK⟩
  replace HL := Lib.hid hL
  replace HK := Lib.hid (HK.out.trans hK)
  have HBxw1 := Lib.hid (HX.out.keeps HK.out.keeps (by decide))
  have hcxw1_0 : w1.cell? ⟨w.heap.size, 1, none⟩ = some (.string (text b1)) := HBxw1.out.cell 1
  clear hL hK
  go_wp2_with fail
  refine (L_text base g b1 _ _ HL.out q2.out).mono ?_
  rintro e w2 ⟨rfl, hL, hK⟩
  replace HL := Lib.hid hL
  replace HK := Lib.hid (HK.out.trans hK)
  have HBxw2 := Lib.hid (HX.out.keeps HK.out.keeps (by decide))
  have hcxw2_0 : w2.cell? ⟨w.heap.size, 2, none⟩ = some (.string (text b2)) := HBxw2.out.cell 2
  clear hL hK
  go_wp2_with fail
  refine (L_text base g b2 _ _ HL.out q3.out).mono ?_
  rintro e w3 ⟨rfl, hL, hK⟩
  replace HL := Lib.hid hL
  replace HK := Lib.hid (HK.out.trans hK)
  have HBxw3 := Lib.hid (HX.out.keeps HK.out.keeps (by decide))
  have hcxw3_0 : w3.cell? ⟨w.heap.size, 3, none⟩ = some (.slice A3 r3.length k3) := HBxw3.out.cell 3
  clear hL hK
  go_wp2_with fail
  refine (L_columns base g r3 A3 k3 _ _ HL.out (R3.out.below (HA.out.trans HK.out).below) q4.out).mono ?_
  rintro e w4 ⟨rfl, hL, hK⟩
  replace HL := Lib.hid hL
  replace HK := Lib.hid (HK.out.trans hK)
  have HBxw4 := Lib.hid (HX.out.keeps HK.out.keeps (by decide))
  have hcxw4_0 : w4.cell? ⟨w.heap.size, 4, none⟩ = some (.slice A4 r4.length k4) := HBxw4.out.cell 4
  clear hL hK
  go_wp2_with fail
  by_cases h0 : (lay (.rows shColumn) (.rows r3) (lay (.text) (.text b2) (lay (.text) (.text b1) (lay (.text) (.text b0) s)))).2 = 0 ∧ r4.length ≤ 4096
  rotate_left
  · refine (L_many_no base g shRule r4 _ _ HL.out h0).mono ?_
    rintro e wn ⟨rfl, hL, hK⟩
    have herr := Lib.hid (rows_no_err (l := shRule) h0)
    have HLn := Lib.hid hL
    clear hL h0
    go_wp2
    refine bodyPost_ret (results_none rfl _ _ _) rfl ?_
    exact ⟨rfl, HLn.out, HA.out.trans (HK.out.trans hK)⟩
  refine (L_many_ok base g r4.length _ _ HL.out h0.1 (by omega) (lay_le q5.out)).mono ?_
  rintro e wm4 ⟨rfl, hL, hK⟩
  have H04 := Lib.hid h0
  replace HL := Lib.hid hL
  replace HK := Lib.hid (HK.out.trans hK)
  clear hL hK h0
  have hn44 := H04.out.2
  go_wp2
  go_loopw [4] (fun i wr => ∃ j : Nat, j ≤ r4.length ∧ i = .int .i64 j ∧ Hid (LayAt wr base g (foldT shRule r4 j (layNum r4.length (lay (.rows shColumn) (.rows r3) (lay (.text) (.text b2) (lay (.text) (.text b1) (lay (.text) (.text b0) s))))))) ∧ Hid (Lays base (w.alloc (.cells #[.string (text b0), .string (text b1), .string (text b2), .slice A3 r3.length k3, .slice A4 r4.length k4] 175)) wr)) (fun i _ => r4.length - (intOf i).toNat)
  case atStart => exact ⟨0, Nat.zero_le _, rfl, Lib.hid (by rw [foldT_zero]; exact HL.out), HK⟩
  case round =>
    clear HL HK
    obtain ⟨j, hj, rfl, HL, HK⟩ := hrel
    have HBr := Lib.hid (HX.out.keeps HK.out.keeps (by decide))
    have hcr : wr.cell? ⟨w.heap.size, 4, none⟩ = some (.slice A4 r4.length k4) := HBr.out.cell 4
    by_cases hlt : j < r4.length
    · have HQ := Lib.hid (foldT_succ shRule r4 j (layNum r4.length (lay (.rows shColumn) (.rows r3) (lay (.text) (.text b2) (lay (.text) (.text b1) (lay (.text) (.text b0) s))))) hlt)
      have q := foldT_le_lay (l := shRule) H04.out.1 H04.out.2 (j + 1)
      rw [HQ.out] at q
      obtain ⟨ad, vs, rfl, hC, hcell⟩ := (R4.out.below (HA.out.trans HK.out).below).at_ hlt
      have had : ∀ {i : Nat}, (ad.add i).block < base := fun {i} => by rw [block_of_add]; exact R4.out.block (by omega)
      obtain ⟨dd, hdd⟩ : ∃ dd, dd = r4[j] := ⟨_, rfl⟩
      rw [← hdd] at hC HQ q
      clear hdd
      replace hC : Cels wr (· < base) [.text, .num, .rows [.text], .whole, .whole, .text, .text, .text] dd vs := hC
      obtain ⟨_, _, _, _, rfl, rfl, ce4_0, hC⟩ := hC.cons
      obtain ⟨_, _, _, _, rfl, rfl, ce4_1, hC⟩ := hC.cons
      obtain ⟨_, _, _, _, rfl, rfl, ce4_2, hC⟩ := hC.cons
      obtain ⟨_, _, _, _, rfl, rfl, ce4_3, hC⟩ := hC.cons
      obtain ⟨_, _, _, _, rfl, rfl, ce4_4, hC⟩ := hC.cons
      obtain ⟨_, _, _, _, rfl, rfl, ce4_5, hC⟩ := hC.cons
      obtain ⟨_, _, _, _, rfl, rfl, ce4_6, hC⟩ := hC.cons
      obtain ⟨_, _, _, _, rfl, rfl, ce4_7, hC⟩ := hC.cons
      obtain ⟨rfl, rfl⟩ := hC.nil
      obtain ⟨be4_0, rfl, rfl⟩ := ce4_0.txt
      obtain ⟨ne4_1, rfl, rfl⟩ := ce4_1.num
      obtain ⟨re4_2, Ae4_2, ke4_2, rfl, rfl, Re4_2⟩ := ce4_2.rows
      replace Re4_2 := Lib.hid Re4_2
      obtain ⟨ne4_3, rfl, rfl, HWe4_3⟩ := ce4_3.whole
      replace HWe4_3 := Lib.hid HWe4_3
      obtain ⟨ne4_4, rfl, rfl, HWe4_4⟩ := ce4_4.whole
      replace HWe4_4 := Lib.hid HWe4_4
      obtain ⟨be4_5, rfl, rfl⟩ := ce4_5.txt
      obtain ⟨be4_6, rfl, rfl⟩ := ce4_6.txt
      obtain ⟨be4_7, rfl, rfl⟩ := ce4_7.txt
      have hc0_0 : wr.cell? (ad.add (j * 8)) = some (.string (text be4_0)) := hcell 0 _ rfl
      have hc0_1 : wr.cell? ⟨(ad.add (j * 8)).block, (ad.add (j * 8)).off + 1, none⟩ = some (.int .i64 ne4_1) := by rw [← add_field ad (j * 8) 1 (by decide)]; exact hcell 1 _ rfl
      have hc0_2 : wr.cell? ⟨(ad.add (j * 8)).block, (ad.add (j * 8)).off + 2, none⟩ = some (.slice Ae4_2 re4_2.length ke4_2) := by rw [← add_field ad (j * 8) 2 (by decide)]; exact hcell 2 _ rfl
      have hc0_3 : wr.cell? ⟨(ad.add (j * 8)).block, (ad.add (j * 8)).off + 3, none⟩ = some (.int .i64 ne4_3) := by rw [← add_field ad (j * 8) 3 (by decide)]; exact hcell 3 _ rfl
      have hc0_4 : wr.cell? ⟨(ad.add (j * 8)).block, (ad.add (j * 8)).off + 4, none⟩ = some (.int .i64 ne4_4) := by rw [← add_field ad (j * 8) 4 (by decide)]; exact hcell 4 _ rfl
      have hc0_5 : wr.cell? ⟨(ad.add (j * 8)).block, (ad.add (j * 8)).off + 5, none⟩ = some (.string (text be4_5)) := by rw [← add_field ad (j * 8) 5 (by decide)]; exact hcell 5 _ rfl
      have hc0_6 : wr.cell? ⟨(ad.add (j * 8)).block, (ad.add (j * 8)).off + 6, none⟩ = some (.string (text be4_6)) := by rw [← add_field ad (j * 8) 6 (by decide)]; exact hcell 6 _ rfl
      have hc0_7 : wr.cell? ⟨(ad.add (j * 8)).block, (ad.add (j * 8)).off + 7, none⟩ = some (.string (text be4_7)) := by rw [← add_field ad (j * 8) 7 (by decide)]; exact hcell 7 _ rfl
      replace q := Nat.le_trans q q5.out
      have HQ4 := Lib.hid q
      have HKb : Hid (Lays base wr wr) := Lib.hid (Lays.refl _ _)
      clear q hcell
      go_wp2_with fail
      refine (L_rule base g _ _ _ _ HL.out (Cels.mk (Cel.mk_text be4_0) (Cels.mk (Cel.mk_num ne4_1) (Cels.mk (Cel.mk_rows ke4_2 (Re4_2.out.below HKb.out.below)) (Cels.mk (Cel.mk_whole HWe4_3.out) (Cels.mk (Cel.mk_whole HWe4_4.out) (Cels.mk (Cel.mk_text be4_5) (Cels.mk (Cel.mk_text be4_6) (Cels.mk (Cel.mk_text be4_7) Cels.mk0)))))))) HQ4.out).mono ?_
      rintro e wb ⟨rfl, hL, hK⟩
      have HLe := Lib.hid hL
      have HKe := Lib.hid (HK.out.trans hK)
      clear hL hK
      go_wp2
      go_roundw
      case rel => exact ⟨j + 1, by omega, by go_num, Lib.hid (by rw [HQ.out]; exact HLe.out), HKe⟩
      case measure => simp [intOf]; omega
    obtain rfl : j = r4.length := by omega
    replace HL : Hid (LayAt wr base g (lay (.rows shRule) (.rows r4) (lay (.rows shColumn) (.rows r3) (lay (.text) (.text b2) (lay (.text) (.text b1) (lay (.text) (.text b0) s)))))) := Lib.hid (by rw [lay_rows_ok H04.out.1 H04.out.2]; exact HL.out)
    go_wp2
    go_end0
    exact ⟨rfl, HL.out, HA.out.trans HK.out⟩

set_option maxHeartbeats 1600000 in
theorem L_objects (base g : Nat) (ds : List Da) (vs : List Value) (s : St) (w : World) (h : LayAt w base g s) (hC : Cels w (· < base) shObjects ds vs) (hs : (lays shObjects ds s).1.length ≤ 1099511627776) :
    Calls Try.prog 105 #[.pointer (some ⟨g, 0, none⟩), .agg vs.toArray] w fun e w' => e = .returned (.tuple #[]) ∧ LayAt w' base g (lays shObjects ds s) ∧ Lays base w w' := by
  replace hC : Cels w (· < base) [.rows shSchema, .rows shTable] ds vs := hC
  obtain ⟨_, _, _, _, rfl, rfl, c0, hC⟩ := hC.cons
  obtain ⟨_, _, _, _, rfl, rfl, c1, hC⟩ := hC.cons
  obtain ⟨rfl, rfl⟩ := hC.nil
  obtain ⟨r0, A0, k0, rfl, rfl, R0⟩ := c0.rows
  replace R0 := Lib.hid R0
  obtain ⟨r1, A1, k1, rfl, rfl, R1⟩ := c1.rows
  replace R1 := Lib.hid R1
  simp only [shObjects, lays] at hs ⊢
  have q2 := Lib.hid hs
  have q1 := Lib.hid (lay_le q2.out)
  have q0 := Lib.hid (lay_le q1.out)
  clear hs
  have hlt := h.lt
  have HA : Hid (Lays base w (w.alloc (.cells #[.slice A0 r0.length k0, .slice A1 r1.length k1] 68))) := Lib.hid (Lays.alloc hlt _)
  have HX : Hid (Blk (w.alloc (.cells #[.slice A0 r0.length k0, .slice A1 r1.length k1] 68)) w.heap.size 68 [.slice A0 r0.length k0, .slice A1 r1.length k1]) := Lib.hid (Blk.new w _ _)
  have HL := Lib.hid (h.alloc (.cells #[.slice A0 r0.length k0, .slice A1 r1.length k1] 68))
  have HK : Hid (Lays base (w.alloc (.cells #[.slice A0 r0.length k0, .slice A1 r1.length k1] 68)) (w.alloc (.cells #[.slice A0 r0.length k0, .slice A1 r1.length k1] 68))) := Lib.hid (Lays.refl _ _)
  clear h
  go_enter Try.func105, Try.ntmps105
  go_wp2_with fail
  by_cases h0 : s.2 = 0 ∧ r0.length ≤ 4096
  rotate_left
  · refine (L_many_no base g shSchema r0 _ _ HL.out h0).mono ?_
    rintro e wn ⟨rfl, hL, hK⟩
    have herr := Lib.hid (rows_no_err (l := shSchema) h0)
    have HLn := Lib.hid hL
    clear hL h0
    go_wp2
    refine bodyPost_ret (results_none rfl _ _ _) rfl ?_
    rw [lay_rows_err herr.out]
    exact ⟨rfl, HLn.out, HA.out.trans (HK.out.trans hK)⟩
  refine (L_many_ok base g r0.length _ _ HL.out h0.1 (by omega) (lay_le q1.out)).mono ?_
  rintro e wm0 ⟨rfl, hL, hK⟩
  have H00 := Lib.hid h0
  replace HL := Lib.hid hL
  replace HK := Lib.hid (HK.out.trans hK)
  clear hL hK h0
  have hn40 := H00.out.2
  go_wp2
  go_loopw [4] (fun i wr => ∃ j : Nat, j ≤ r0.length ∧ i = .int .i64 j ∧ Hid (LayAt wr base g (foldT shSchema r0 j (layNum r0.length s))) ∧ Hid (Lays base (w.alloc (.cells #[.slice A0 r0.length k0, .slice A1 r1.length k1] 68)) wr)) (fun i _ => r0.length - (intOf i).toNat)
  case atStart => exact ⟨0, Nat.zero_le _, rfl, Lib.hid (by rw [foldT_zero]; exact HL.out), HK⟩
  case round =>
    clear HL HK
    obtain ⟨j, hj, rfl, HL, HK⟩ := hrel
    have HBr := Lib.hid (HX.out.keeps HK.out.keeps (by decide))
    have hcr : wr.cell? ⟨w.heap.size, 0, none⟩ = some (.slice A0 r0.length k0) := HBr.out.cell 0
    by_cases hlt : j < r0.length
    · have HQ := Lib.hid (foldT_succ shSchema r0 j (layNum r0.length s) hlt)
      have q := foldT_le_lay (l := shSchema) H00.out.1 H00.out.2 (j + 1)
      rw [HQ.out] at q
      obtain ⟨ad, vs, rfl, hC, hcell⟩ := (R0.out.below (HA.out.trans HK.out).below).at_ hlt
      have had : ∀ {i : Nat}, (ad.add i).block < base := fun {i} => by rw [block_of_add]; exact R0.out.block (by omega)
      obtain ⟨dd, hdd⟩ : ∃ dd, dd = r0[j] := ⟨_, rfl⟩
      rw [← hdd] at hC HQ q
      clear hdd
      replace hC : Cels wr (· < base) [.text, .text] dd vs := hC
      obtain ⟨_, _, _, _, rfl, rfl, ce0_0, hC⟩ := hC.cons
      obtain ⟨_, _, _, _, rfl, rfl, ce0_1, hC⟩ := hC.cons
      obtain ⟨rfl, rfl⟩ := hC.nil
      obtain ⟨be0_0, rfl, rfl⟩ := ce0_0.txt
      obtain ⟨be0_1, rfl, rfl⟩ := ce0_1.txt
      have hc0_0 : wr.cell? (ad.add (j * 2)) = some (.string (text be0_0)) := hcell 0 _ rfl
      have hc0_1 : wr.cell? ⟨(ad.add (j * 2)).block, (ad.add (j * 2)).off + 1, none⟩ = some (.string (text be0_1)) := by rw [← add_field ad (j * 2) 1 (by decide)]; exact hcell 1 _ rfl
      replace q := Nat.le_trans q q1.out
      replace q : (lays [.text, .text] _ _).1.length ≤ _ := q
      simp only [lays] at q
      have p2 := Lib.hid q
      have p1 := Lib.hid (lay_le p2.out)
      have p0 := Lib.hid (lay_le p1.out)
      clear q hcell
      have HLe := HL
      have HKe := HK
      go_wp2_with fail
      refine (L_text base g be0_0 _ _ HLe.out p1.out).mono ?_
      rintro e wb0 ⟨rfl, hL, hK⟩
      replace HLe := Lib.hid hL
      replace HKe := Lib.hid (HKe.out.trans hK)
      have HQK0 := Lib.hid hK.below
      have hcy0 : wb0.cell? ⟨(ad.add (j * 2)).block, (ad.add (j * 2)).off + 1, none⟩ = some (.string (text be0_1)) := (HQK0.out.cell (by exact had)).trans hc0_1
      have hcz0 : wb0.cell? ⟨w.heap.size, 0, none⟩ = some (.slice (some ad) r0.length k0) := (HX.out.keeps HKe.out.keeps (by decide)).cell 0
      clear hL hK
      go_wp2_with fail
      refine (L_text base g be0_1 _ _ HLe.out p2.out).mono ?_
      rintro e wb1 ⟨rfl, hL, hK⟩
      replace HLe := Lib.hid hL
      replace HKe := Lib.hid (HKe.out.trans hK)
      clear hL hK
      go_wp2
      go_roundw
      case rel => exact ⟨j + 1, by omega, by go_num, Lib.hid (by rw [HQ.out]; show LayAt _ _ _ (lays [.text, .text] _ _); simp only [lays]; exact HLe.out), HKe⟩
      case measure => simp [intOf]; omega
    obtain rfl : j = r0.length := by omega
    replace HL : Hid (LayAt wr base g (lay (.rows shSchema) (.rows r0) s)) := Lib.hid (by rw [lay_rows_ok H00.out.1 H00.out.2]; exact HL.out)
    have hcr2_0 : wr.cell? ⟨w.heap.size, 1, none⟩ = some (.slice A1 r1.length k1) := HBr.out.cell 1
    go_wp2_with fail
    by_cases h0 : (lay (.rows shSchema) (.rows r0) s).2 = 0 ∧ r1.length ≤ 4096
    rotate_left
    · refine (L_many_no base g shTable r1 _ _ HL.out h0).mono ?_
      rintro e wn ⟨rfl, hL, hK⟩
      have herr := Lib.hid (rows_no_err (l := shTable) h0)
      have HLn := Lib.hid hL
      clear hL h0
      go_wp2
      refine bodyPost_ret (results_none rfl _ _ _) rfl ?_
      exact ⟨rfl, HLn.out, HA.out.trans (HK.out.trans hK)⟩
    refine (L_many_ok base g r1.length _ _ HL.out h0.1 (by omega) (lay_le q2.out)).mono ?_
    rintro e wm1 ⟨rfl, hL, hK⟩
    have H01 := Lib.hid h0
    replace HL := Lib.hid hL
    replace HK := Lib.hid (HK.out.trans hK)
    clear hL hK h0
    have hn41 := H01.out.2
    go_wp2
    go_loopw [5] (fun i wr => ∃ j : Nat, j ≤ r1.length ∧ i = .int .i64 j ∧ Hid (LayAt wr base g (foldT shTable r1 j (layNum r1.length (lay (.rows shSchema) (.rows r0) s)))) ∧ Hid (Lays base (w.alloc (.cells #[.slice A0 r0.length k0, .slice A1 r1.length k1] 68)) wr)) (fun i _ => r1.length - (intOf i).toNat)
    case atStart => exact ⟨0, Nat.zero_le _, rfl, Lib.hid (by rw [foldT_zero]; exact HL.out), HK⟩
    case round =>
      clear HL HK
      obtain ⟨j, hj, rfl, HL, HK⟩ := hrel
      have HBr := Lib.hid (HX.out.keeps HK.out.keeps (by decide))
      have hcr : wr.cell? ⟨w.heap.size, 1, none⟩ = some (.slice A1 r1.length k1) := HBr.out.cell 1
      by_cases hlt : j < r1.length
      · have HQ := Lib.hid (foldT_succ shTable r1 j (layNum r1.length (lay (.rows shSchema) (.rows r0) s)) hlt)
        have q := foldT_le_lay (l := shTable) H01.out.1 H01.out.2 (j + 1)
        rw [HQ.out] at q
        obtain ⟨ad, vs, rfl, hC, hcell⟩ := (R1.out.below (HA.out.trans HK.out).below).at_ hlt
        have had : ∀ {i : Nat}, (ad.add i).block < base := fun {i} => by rw [block_of_add]; exact R1.out.block (by omega)
        obtain ⟨dd, hdd⟩ : ∃ dd, dd = r1[j] := ⟨_, rfl⟩
        rw [← hdd] at hC HQ q
        clear hdd
        replace hC : Cels wr (· < base) [.text, .text, .text, .rows shColumn, .rows shRule] dd vs := hC
        obtain ⟨_, _, _, _, rfl, rfl, ce1_0, hC⟩ := hC.cons
        obtain ⟨_, _, _, _, rfl, rfl, ce1_1, hC⟩ := hC.cons
        obtain ⟨_, _, _, _, rfl, rfl, ce1_2, hC⟩ := hC.cons
        obtain ⟨_, _, _, _, rfl, rfl, ce1_3, hC⟩ := hC.cons
        obtain ⟨_, _, _, _, rfl, rfl, ce1_4, hC⟩ := hC.cons
        obtain ⟨rfl, rfl⟩ := hC.nil
        obtain ⟨be1_0, rfl, rfl⟩ := ce1_0.txt
        obtain ⟨be1_1, rfl, rfl⟩ := ce1_1.txt
        obtain ⟨be1_2, rfl, rfl⟩ := ce1_2.txt
        obtain ⟨re1_3, Ae1_3, ke1_3, rfl, rfl, Re1_3⟩ := ce1_3.rows
        replace Re1_3 := Lib.hid Re1_3
        obtain ⟨re1_4, Ae1_4, ke1_4, rfl, rfl, Re1_4⟩ := ce1_4.rows
        replace Re1_4 := Lib.hid Re1_4
        have hc0_0 : wr.cell? (ad.add (j * 5)) = some (.string (text be1_0)) := hcell 0 _ rfl
        have hc0_1 : wr.cell? ⟨(ad.add (j * 5)).block, (ad.add (j * 5)).off + 1, none⟩ = some (.string (text be1_1)) := by rw [← add_field ad (j * 5) 1 (by decide)]; exact hcell 1 _ rfl
        have hc0_2 : wr.cell? ⟨(ad.add (j * 5)).block, (ad.add (j * 5)).off + 2, none⟩ = some (.string (text be1_2)) := by rw [← add_field ad (j * 5) 2 (by decide)]; exact hcell 2 _ rfl
        have hc0_3 : wr.cell? ⟨(ad.add (j * 5)).block, (ad.add (j * 5)).off + 3, none⟩ = some (.slice Ae1_3 re1_3.length ke1_3) := by rw [← add_field ad (j * 5) 3 (by decide)]; exact hcell 3 _ rfl
        have hc0_4 : wr.cell? ⟨(ad.add (j * 5)).block, (ad.add (j * 5)).off + 4, none⟩ = some (.slice Ae1_4 re1_4.length ke1_4) := by rw [← add_field ad (j * 5) 4 (by decide)]; exact hcell 4 _ rfl
        replace q := Nat.le_trans q q2.out
        have HQ4 := Lib.hid q
        have HKb : Hid (Lays base wr wr) := Lib.hid (Lays.refl _ _)
        clear q hcell
        go_wp2_with fail
        refine (L_table base g _ _ _ _ HL.out (Cels.mk (Cel.mk_text be1_0) (Cels.mk (Cel.mk_text be1_1) (Cels.mk (Cel.mk_text be1_2) (Cels.mk (Cel.mk_rows ke1_3 (Re1_3.out.below HKb.out.below)) (Cels.mk (Cel.mk_rows ke1_4 (Re1_4.out.below HKb.out.below)) Cels.mk0))))) HQ4.out).mono ?_
        rintro e wb ⟨rfl, hL, hK⟩
        have HLe := Lib.hid hL
        have HKe := Lib.hid (HK.out.trans hK)
        clear hL hK
        go_wp2
        go_roundw
        case rel => exact ⟨j + 1, by omega, by go_num, Lib.hid (by rw [HQ.out]; exact HLe.out), HKe⟩
        case measure => simp [intOf]; omega
      obtain rfl : j = r1.length := by omega
      replace HL : Hid (LayAt wr base g (lay (.rows shTable) (.rows r1) (lay (.rows shSchema) (.rows r0) s))) := Lib.hid (by rw [lay_rows_ok H01.out.1 H01.out.2]; exact HL.out)
      go_wp2
      go_end0
      exact ⟨rfl, HL.out, HA.out.trans HK.out⟩

end Go.Proofs.Yteohhgkehkmgcaa
