/- The walks of the reference that lays: structs whose lists are laid in place. Printed by mklays3.py. -/
import Derived.Test.YteohhgkehkmgcaaLays3
namespace Go.Proofs.Yteohhgkehkmgcaa
open Go.RowKit Le
set_option maxRecDepth 100000
set_option linter.unusedVariables false
set_option linter.unusedSimpArgs false

set_option maxHeartbeats 1600000 in
theorem L_Catalog (base g : Nat) (ds : List Da) (vs : List Value) (s : St) (w : World) (h : LayAt w base g s) (hC : Cels w (· < base) shCatalog ds vs) (hs : (lays shCatalog ds s).1.length ≤ 1099511627776) :
    Calls Try.prog 57 #[.pointer (some ⟨g, 0, none⟩), .agg vs.toArray] w fun e w' => e = .returned (.tuple #[]) ∧ LayAt w' base g (lays shCatalog ds s) ∧ Lays base w w' := by
  replace hC : Cels w (· < base) [.num, .num, .rows shSchema, .rows shTable, .rows [.text], .rows shMember, .rows shGrant] ds vs := hC
  obtain ⟨_, _, _, _, rfl, rfl, c0, hC⟩ := hC.cons
  obtain ⟨_, _, _, _, rfl, rfl, c1, hC⟩ := hC.cons
  obtain ⟨_, _, _, _, rfl, rfl, c2, hC⟩ := hC.cons
  obtain ⟨_, _, _, _, rfl, rfl, c3, hC⟩ := hC.cons
  obtain ⟨_, _, _, _, rfl, rfl, c4, hC⟩ := hC.cons
  obtain ⟨_, _, _, _, rfl, rfl, c5, hC⟩ := hC.cons
  obtain ⟨_, _, _, _, rfl, rfl, c6, hC⟩ := hC.cons
  obtain ⟨rfl, rfl⟩ := hC.nil
  obtain ⟨n0, rfl, rfl⟩ := c0.num
  obtain ⟨n1, rfl, rfl⟩ := c1.num
  obtain ⟨r2, A2, k2, rfl, rfl, R2⟩ := c2.rows
  replace R2 := Lib.hid R2
  obtain ⟨r3, A3, k3, rfl, rfl, R3⟩ := c3.rows
  replace R3 := Lib.hid R3
  obtain ⟨r4, A4, k4, rfl, rfl, R4⟩ := c4.rows
  replace R4 := Lib.hid R4
  obtain ⟨r5, A5, k5, rfl, rfl, R5⟩ := c5.rows
  replace R5 := Lib.hid R5
  obtain ⟨r6, A6, k6, rfl, rfl, R6⟩ := c6.rows
  replace R6 := Lib.hid R6
  simp only [shCatalog, lays] at hs ⊢
  have q7 := Lib.hid hs
  have q6 := Lib.hid (lay_le q7.out)
  have q5 := Lib.hid (lay_le q6.out)
  have q4 := Lib.hid (lay_le q5.out)
  have q3 := Lib.hid (lay_le q4.out)
  have q2 := Lib.hid (lay_le q3.out)
  have q1 := Lib.hid (lay_le q2.out)
  have q0 := Lib.hid (lay_le q1.out)
  clear hs
  have hlt := h.lt
  have HA : Hid (Lays base w (w.alloc (.cells #[.int .i64 n0, .int .i64 n1, .slice A2 r2.length k2, .slice A3 r3.length k3, .slice A4 r4.length k4, .slice A5 r5.length k5, .slice A6 r6.length k6] 74))) := Lib.hid (Lays.alloc hlt _)
  have HX : Hid (Blk (w.alloc (.cells #[.int .i64 n0, .int .i64 n1, .slice A2 r2.length k2, .slice A3 r3.length k3, .slice A4 r4.length k4, .slice A5 r5.length k5, .slice A6 r6.length k6] 74)) w.heap.size 74 [.int .i64 n0, .int .i64 n1, .slice A2 r2.length k2, .slice A3 r3.length k3, .slice A4 r4.length k4, .slice A5 r5.length k5, .slice A6 r6.length k6]) := Lib.hid (Blk.new w _ _)
  have HL := Lib.hid (h.alloc (.cells #[.int .i64 n0, .int .i64 n1, .slice A2 r2.length k2, .slice A3 r3.length k3, .slice A4 r4.length k4, .slice A5 r5.length k5, .slice A6 r6.length k6] 74))
  have HK : Hid (Lays base (w.alloc (.cells #[.int .i64 n0, .int .i64 n1, .slice A2 r2.length k2, .slice A3 r3.length k3, .slice A4 r4.length k4, .slice A5 r5.length k5, .slice A6 r6.length k6] 74)) (w.alloc (.cells #[.int .i64 n0, .int .i64 n1, .slice A2 r2.length k2, .slice A3 r3.length k3, .slice A4 r4.length k4, .slice A5 r5.length k5, .slice A6 r6.length k6] 74))) := Lib.hid (Lays.refl _ _)
  clear h
  go_enter Try.func57, Try.ntmps57
  go_wp2_with fail
  refine (L_num base g n0 _ _ HL.out q1.out).mono ?_
  rintro e w1 ⟨rfl, hL, hK⟩
  replace HL := Lib.hid hL
  replace HK := Lib.hid (HK.out.trans hK)
  have HBxw1 := Lib.hid (HX.out.keeps HK.out.keeps (by decide))
  have hcxw1_0 : w1.cell? ⟨w.heap.size, 1, none⟩ = some (.int .i64 n1) := HBxw1.out.cell 1
  clear hL hK
  go_wp2_with fail
  refine (L_num base g n1 _ _ HL.out q2.out).mono ?_
  rintro e w2 ⟨rfl, hL, hK⟩
  replace HL := Lib.hid hL
  replace HK := Lib.hid (HK.out.trans hK)
  have HBxw2 := Lib.hid (HX.out.keeps HK.out.keeps (by decide))
  have hcxw2_0 : w2.cell? ⟨w.heap.size, 2, none⟩ = some (.slice A2 r2.length k2) := HBxw2.out.cell 2
  have hcxw2_1 : w2.cell? ⟨w.heap.size, 3, none⟩ = some (.slice A3 r3.length k3) := HBxw2.out.cell 3
  clear hL hK
  go_wp2_with fail
  refine (L_objects base g _ _ _ _ HL.out (Cels.mk (Cel.mk_rows k2 (R2.out.below (HA.out.trans HK.out).below)) (Cels.mk (Cel.mk_rows k3 (R3.out.below (HA.out.trans HK.out).below)) Cels.mk0)) (by simp only [shObjects, lays]; exact q4.out)).mono ?_
  rintro e w3 ⟨rfl, hL, hK⟩
  simp only [shObjects, lays] at hL
  replace HL := Lib.hid hL
  replace HK := Lib.hid (HK.out.trans hK)
  have HBxw3 := Lib.hid (HX.out.keeps HK.out.keeps (by decide))
  have hcxw3_0 : w3.cell? ⟨w.heap.size, 4, none⟩ = some (.slice A4 r4.length k4) := HBxw3.out.cell 4
  clear hL hK
  go_wp2_with fail
  refine (L_texts base g r4 A4 k4 _ _ HL.out (R4.out.below (HA.out.trans HK.out).below) q5.out).mono ?_
  rintro e w4 ⟨rfl, hL, hK⟩
  replace HL := Lib.hid hL
  replace HK := Lib.hid (HK.out.trans hK)
  have HBxw4 := Lib.hid (HX.out.keeps HK.out.keeps (by decide))
  have hcxw4_0 : w4.cell? ⟨w.heap.size, 5, none⟩ = some (.slice A5 r5.length k5) := HBxw4.out.cell 5
  clear hL hK
  go_wp2_with fail
  by_cases h0 : (lay (.rows [.text]) (.rows r4) (lay (.rows shTable) (.rows r3) (lay (.rows shSchema) (.rows r2) (lay (.num) (.int n1) (lay (.num) (.int n0) s))))).2 = 0 ∧ r5.length ≤ 4096
  rotate_left
  · refine (L_many_no base g shMember r5 _ _ HL.out h0).mono ?_
    rintro e wn ⟨rfl, hL, hK⟩
    have herr := Lib.hid (rows_no_err (l := shMember) h0)
    have HLn := Lib.hid hL
    clear hL h0
    go_wp2
    refine bodyPost_ret (results_none rfl _ _ _) rfl ?_
    rw [lay_rows_err herr.out]
    exact ⟨rfl, HLn.out, HA.out.trans (HK.out.trans hK)⟩
  refine (L_many_ok base g r5.length _ _ HL.out h0.1 (by omega) (lay_le q6.out)).mono ?_
  rintro e wm5 ⟨rfl, hL, hK⟩
  have H05 := Lib.hid h0
  replace HL := Lib.hid hL
  replace HK := Lib.hid (HK.out.trans hK)
  clear hL hK h0
  have hn45 := H05.out.2
  go_wp2
  go_loopw [4] (fun i wr => ∃ j : Nat, j ≤ r5.length ∧ i = .int .i64 j ∧ Hid (LayAt wr base g (foldT shMember r5 j (layNum r5.length (lay (.rows [.text]) (.rows r4) (lay (.rows shTable) (.rows r3) (lay (.rows shSchema) (.rows r2) (lay (.num) (.int n1) (lay (.num) (.int n0) s)))))))) ∧ Hid (Lays base (w.alloc (.cells #[.int .i64 n0, .int .i64 n1, .slice A2 r2.length k2, .slice A3 r3.length k3, .slice A4 r4.length k4, .slice A5 r5.length k5, .slice A6 r6.length k6] 74)) wr)) (fun i _ => r5.length - (intOf i).toNat)
  case atStart => exact ⟨0, Nat.zero_le _, rfl, Lib.hid (by rw [foldT_zero]; exact HL.out), HK⟩
  case round =>
    clear HL HK
    obtain ⟨j, hj, rfl, HL, HK⟩ := hrel
    have HBr := Lib.hid (HX.out.keeps HK.out.keeps (by decide))
    have hcr : wr.cell? ⟨w.heap.size, 5, none⟩ = some (.slice A5 r5.length k5) := HBr.out.cell 5
    by_cases hlt : j < r5.length
    · have HQ := Lib.hid (foldT_succ shMember r5 j (layNum r5.length (lay (.rows [.text]) (.rows r4) (lay (.rows shTable) (.rows r3) (lay (.rows shSchema) (.rows r2) (lay (.num) (.int n1) (lay (.num) (.int n0) s)))))) hlt)
      have q := foldT_le_lay (l := shMember) H05.out.1 H05.out.2 (j + 1)
      rw [HQ.out] at q
      obtain ⟨ad, vs, rfl, hC, hcell⟩ := (R5.out.below (HA.out.trans HK.out).below).at_ hlt
      have had : ∀ {i : Nat}, (ad.add i).block < base := fun {i} => by rw [block_of_add]; exact R5.out.block (by omega)
      obtain ⟨dd, hdd⟩ : ∃ dd, dd = r5[j] := ⟨_, rfl⟩
      rw [← hdd] at hC HQ q
      clear hdd
      replace hC : Cels wr (· < base) [.text, .text] dd vs := hC
      obtain ⟨_, _, _, _, rfl, rfl, ce5_0, hC⟩ := hC.cons
      obtain ⟨_, _, _, _, rfl, rfl, ce5_1, hC⟩ := hC.cons
      obtain ⟨rfl, rfl⟩ := hC.nil
      obtain ⟨be5_0, rfl, rfl⟩ := ce5_0.txt
      obtain ⟨be5_1, rfl, rfl⟩ := ce5_1.txt
      have hc0_0 : wr.cell? (ad.add (j * 2)) = some (.string (text be5_0)) := hcell 0 _ rfl
      have hc0_1 : wr.cell? ⟨(ad.add (j * 2)).block, (ad.add (j * 2)).off + 1, none⟩ = some (.string (text be5_1)) := by rw [← add_field ad (j * 2) 1 (by decide)]; exact hcell 1 _ rfl
      replace q := Nat.le_trans q q6.out
      replace q : (lays [.text, .text] _ _).1.length ≤ _ := q
      simp only [lays] at q
      have p2 := Lib.hid q
      have p1 := Lib.hid (lay_le p2.out)
      have p0 := Lib.hid (lay_le p1.out)
      clear q hcell
      have HLe := HL
      have HKe := HK
      go_wp2_with fail
      refine (L_text base g be5_0 _ _ HLe.out p1.out).mono ?_
      rintro e wb0 ⟨rfl, hL, hK⟩
      replace HLe := Lib.hid hL
      replace HKe := Lib.hid (HKe.out.trans hK)
      have HQK0 := Lib.hid hK.below
      have hcy0 : wb0.cell? ⟨(ad.add (j * 2)).block, (ad.add (j * 2)).off + 1, none⟩ = some (.string (text be5_1)) := (HQK0.out.cell (by exact had)).trans hc0_1
      have hcz0 : wb0.cell? ⟨w.heap.size, 5, none⟩ = some (.slice (some ad) r5.length k5) := (HX.out.keeps HKe.out.keeps (by decide)).cell 5
      clear hL hK
      go_wp2_with fail
      refine (L_text base g be5_1 _ _ HLe.out p2.out).mono ?_
      rintro e wb1 ⟨rfl, hL, hK⟩
      replace HLe := Lib.hid hL
      replace HKe := Lib.hid (HKe.out.trans hK)
      clear hL hK
      go_wp2
      go_roundw
      case rel => exact ⟨j + 1, by omega, by go_num, Lib.hid (by rw [HQ.out]; show LayAt _ _ _ (lays [.text, .text] _ _); simp only [lays]; exact HLe.out), HKe⟩
      case measure => simp [intOf]; omega
    obtain rfl : j = r5.length := by omega
    replace HL : Hid (LayAt wr base g (lay (.rows shMember) (.rows r5) (lay (.rows [.text]) (.rows r4) (lay (.rows shTable) (.rows r3) (lay (.rows shSchema) (.rows r2) (lay (.num) (.int n1) (lay (.num) (.int n0) s))))))) := Lib.hid (by rw [lay_rows_ok H05.out.1 H05.out.2]; exact HL.out)
    have hcr2_0 : wr.cell? ⟨w.heap.size, 6, none⟩ = some (.slice A6 r6.length k6) := HBr.out.cell 6
    go_wp2_with fail
    by_cases h0 : (lay (.rows shMember) (.rows r5) (lay (.rows [.text]) (.rows r4) (lay (.rows shTable) (.rows r3) (lay (.rows shSchema) (.rows r2) (lay (.num) (.int n1) (lay (.num) (.int n0) s)))))).2 = 0 ∧ r6.length ≤ 4096
    rotate_left
    · refine (L_many_no base g shGrant r6 _ _ HL.out h0).mono ?_
      rintro e wn ⟨rfl, hL, hK⟩
      have herr := Lib.hid (rows_no_err (l := shGrant) h0)
      have HLn := Lib.hid hL
      clear hL h0
      go_wp2
      refine bodyPost_ret (results_none rfl _ _ _) rfl ?_
      exact ⟨rfl, HLn.out, HA.out.trans (HK.out.trans hK)⟩
    refine (L_many_ok base g r6.length _ _ HL.out h0.1 (by omega) (lay_le q7.out)).mono ?_
    rintro e wm6 ⟨rfl, hL, hK⟩
    have H06 := Lib.hid h0
    replace HL := Lib.hid hL
    replace HK := Lib.hid (HK.out.trans hK)
    clear hL hK h0
    have hn46 := H06.out.2
    go_wp2
    go_loopw [5] (fun i wr => ∃ j : Nat, j ≤ r6.length ∧ i = .int .i64 j ∧ Hid (LayAt wr base g (foldT shGrant r6 j (layNum r6.length (lay (.rows shMember) (.rows r5) (lay (.rows [.text]) (.rows r4) (lay (.rows shTable) (.rows r3) (lay (.rows shSchema) (.rows r2) (lay (.num) (.int n1) (lay (.num) (.int n0) s))))))))) ∧ Hid (Lays base (w.alloc (.cells #[.int .i64 n0, .int .i64 n1, .slice A2 r2.length k2, .slice A3 r3.length k3, .slice A4 r4.length k4, .slice A5 r5.length k5, .slice A6 r6.length k6] 74)) wr)) (fun i _ => r6.length - (intOf i).toNat)
    case atStart => exact ⟨0, Nat.zero_le _, rfl, Lib.hid (by rw [foldT_zero]; exact HL.out), HK⟩
    case round =>
      clear HL HK
      obtain ⟨j, hj, rfl, HL, HK⟩ := hrel
      have HBr := Lib.hid (HX.out.keeps HK.out.keeps (by decide))
      have hcr : wr.cell? ⟨w.heap.size, 6, none⟩ = some (.slice A6 r6.length k6) := HBr.out.cell 6
      by_cases hlt : j < r6.length
      · have HQ := Lib.hid (foldT_succ shGrant r6 j (layNum r6.length (lay (.rows shMember) (.rows r5) (lay (.rows [.text]) (.rows r4) (lay (.rows shTable) (.rows r3) (lay (.rows shSchema) (.rows r2) (lay (.num) (.int n1) (lay (.num) (.int n0) s))))))) hlt)
        have q := foldT_le_lay (l := shGrant) H06.out.1 H06.out.2 (j + 1)
        rw [HQ.out] at q
        obtain ⟨ad, vs, rfl, hC, hcell⟩ := (R6.out.below (HA.out.trans HK.out).below).at_ hlt
        have had : ∀ {i : Nat}, (ad.add i).block < base := fun {i} => by rw [block_of_add]; exact R6.out.block (by omega)
        obtain ⟨dd, hdd⟩ : ∃ dd, dd = r6[j] := ⟨_, rfl⟩
        rw [← hdd] at hC HQ q
        clear hdd
        replace hC : Cels wr (· < base) [.text, .text, .num, .text, .text, .flag] dd vs := hC
        obtain ⟨_, _, _, _, rfl, rfl, ce6_0, hC⟩ := hC.cons
        obtain ⟨_, _, _, _, rfl, rfl, ce6_1, hC⟩ := hC.cons
        obtain ⟨_, _, _, _, rfl, rfl, ce6_2, hC⟩ := hC.cons
        obtain ⟨_, _, _, _, rfl, rfl, ce6_3, hC⟩ := hC.cons
        obtain ⟨_, _, _, _, rfl, rfl, ce6_4, hC⟩ := hC.cons
        obtain ⟨_, _, _, _, rfl, rfl, ce6_5, hC⟩ := hC.cons
        obtain ⟨rfl, rfl⟩ := hC.nil
        obtain ⟨be6_0, rfl, rfl⟩ := ce6_0.txt
        obtain ⟨be6_1, rfl, rfl⟩ := ce6_1.txt
        obtain ⟨ne6_2, rfl, rfl⟩ := ce6_2.num
        obtain ⟨be6_3, rfl, rfl⟩ := ce6_3.txt
        obtain ⟨be6_4, rfl, rfl⟩ := ce6_4.txt
        obtain ⟨fe6_5, rfl, rfl⟩ := ce6_5.flag
        have hc0_0 : wr.cell? (ad.add (j * 6)) = some (.string (text be6_0)) := hcell 0 _ rfl
        have hc0_1 : wr.cell? ⟨(ad.add (j * 6)).block, (ad.add (j * 6)).off + 1, none⟩ = some (.string (text be6_1)) := by rw [← add_field ad (j * 6) 1 (by decide)]; exact hcell 1 _ rfl
        have hc0_2 : wr.cell? ⟨(ad.add (j * 6)).block, (ad.add (j * 6)).off + 2, none⟩ = some (.int .i64 ne6_2) := by rw [← add_field ad (j * 6) 2 (by decide)]; exact hcell 2 _ rfl
        have hc0_3 : wr.cell? ⟨(ad.add (j * 6)).block, (ad.add (j * 6)).off + 3, none⟩ = some (.string (text be6_3)) := by rw [← add_field ad (j * 6) 3 (by decide)]; exact hcell 3 _ rfl
        have hc0_4 : wr.cell? ⟨(ad.add (j * 6)).block, (ad.add (j * 6)).off + 4, none⟩ = some (.string (text be6_4)) := by rw [← add_field ad (j * 6) 4 (by decide)]; exact hcell 4 _ rfl
        have hc0_5 : wr.cell? ⟨(ad.add (j * 6)).block, (ad.add (j * 6)).off + 5, none⟩ = some (.bool fe6_5) := by rw [← add_field ad (j * 6) 5 (by decide)]; exact hcell 5 _ rfl
        replace q := Nat.le_trans q q7.out
        replace q : (lays [.text, .text, .num, .text, .text, .flag] _ _).1.length ≤ _ := q
        simp only [lays] at q
        have p6 := Lib.hid q
        have p5 := Lib.hid (lay_le p6.out)
        have p4 := Lib.hid (lay_le p5.out)
        have p3 := Lib.hid (lay_le p4.out)
        have p2 := Lib.hid (lay_le p3.out)
        have p1 := Lib.hid (lay_le p2.out)
        have p0 := Lib.hid (lay_le p1.out)
        clear q hcell
        have HLe := HL
        have hbs := HL.out.lt
        have HXe : Hid (Blk (wr.alloc (.cells #[.string ⟨#[]⟩, .string ⟨#[]⟩, .int .i64 0, .string ⟨#[]⟩, .string ⟨#[]⟩, .bool false] 166)) wr.heap.size 166 [.string ⟨#[]⟩, .string ⟨#[]⟩, .int .i64 0, .string ⟨#[]⟩, .string ⟨#[]⟩, .bool false]) := Lib.hid (Blk.new wr 166 [.string ⟨#[]⟩, .string ⟨#[]⟩, .int .i64 0, .string ⟨#[]⟩, .string ⟨#[]⟩, .bool false])
        have HTZ : Hid (World.there (wr.alloc (.cells #[.string ⟨#[]⟩, .string ⟨#[]⟩, .int .i64 0, .string ⟨#[]⟩, .string ⟨#[]⟩, .bool false] 166)) wr.heap.size 0 (List.toArray ([.string (text be6_0), .string (text be6_1), .int .i64 ne6_2, .string (text be6_3), .string (text be6_4), .bool fe6_5] : List Value)).size) := Lib.hid (HXe.out.there 0 6 (by simp))
        have hsZ : Hid ((Try.prog.info? 166).map (·.size) = some (List.toArray ([.string (text be6_0), .string (text be6_1), .int .i64 ne6_2, .string (text be6_3), .string (text be6_4), .bool fe6_5] : List Value)).size) := Lib.hid (by kernel_rfl)
        have h1Z : Hid ((List.toArray ([.string (text be6_0), .string (text be6_1), .int .i64 ne6_2, .string (text be6_3), .string (text be6_4), .bool fe6_5] : List Value)).all (·.oneCell') = true) := Lib.hid (all_oneCell_toArray (by simp [Value.oneCell']))
        have hbw : Below wr.heap.size wr ((wr.alloc (.cells #[.string ⟨#[]⟩, .string ⟨#[]⟩, .int .i64 0, .string ⟨#[]⟩, .string ⟨#[]⟩, .bool false] 166)).setCells wr.heap.size 0 [.string (text be6_0), .string (text be6_1), .int .i64 ne6_2, .string (text be6_3), .string (text be6_4), .bool fe6_5]) := ((Below.refl _ _).alloc (Nat.le_refl _) _).trans (below_setCells_ (Nat.le_refl _) 0 [.string (text be6_0), .string (text be6_1), .int .i64 ne6_2, .string (text be6_3), .string (text be6_4), .bool fe6_5])
        replace HXe : Hid (Blk ((wr.alloc (.cells #[.string ⟨#[]⟩, .string ⟨#[]⟩, .int .i64 0, .string ⟨#[]⟩, .string ⟨#[]⟩, .bool false] 166)).setCells wr.heap.size 0 [.string (text be6_0), .string (text be6_1), .int .i64 ne6_2, .string (text be6_3), .string (text be6_4), .bool fe6_5]) wr.heap.size 166 [.string (text be6_0), .string (text be6_1), .int .i64 ne6_2, .string (text be6_3), .string (text be6_4), .bool fe6_5]) := Lib.hid (HXe.out.setCells0 [.string (text be6_0), .string (text be6_1), .int .i64 ne6_2, .string (text be6_3), .string (text be6_4), .bool fe6_5] rfl)
        replace HLe := Lib.hid (HL.out.below_ hbw)
        have HKe := Lib.hid (HK.out.trans (Lays.of_below hbw hbs))
        have HKc : Hid (Lays base ((wr.alloc (.cells #[.string ⟨#[]⟩, .string ⟨#[]⟩, .int .i64 0, .string ⟨#[]⟩, .string ⟨#[]⟩, .bool false] 166)).setCells wr.heap.size 0 [.string (text be6_0), .string (text be6_1), .int .i64 ne6_2, .string (text be6_3), .string (text be6_4), .bool fe6_5]) ((wr.alloc (.cells #[.string ⟨#[]⟩, .string ⟨#[]⟩, .int .i64 0, .string ⟨#[]⟩, .string ⟨#[]⟩, .bool false] 166)).setCells wr.heap.size 0 [.string (text be6_0), .string (text be6_1), .int .i64 ne6_2, .string (text be6_3), .string (text be6_4), .bool fe6_5])) := Lib.hid (Lays.refl _ _)
        have hcz_0 : ((wr.alloc (.cells #[.string ⟨#[]⟩, .string ⟨#[]⟩, .int .i64 0, .string ⟨#[]⟩, .string ⟨#[]⟩, .bool false] 166)).setCells wr.heap.size 0 [.string (text be6_0), .string (text be6_1), .int .i64 ne6_2, .string (text be6_3), .string (text be6_4), .bool fe6_5]).cell? ⟨wr.heap.size, 0, none⟩ = some (.string (text be6_0)) := HXe.out.cell 0
        have hcz_1 : ((wr.alloc (.cells #[.string ⟨#[]⟩, .string ⟨#[]⟩, .int .i64 0, .string ⟨#[]⟩, .string ⟨#[]⟩, .bool false] 166)).setCells wr.heap.size 0 [.string (text be6_0), .string (text be6_1), .int .i64 ne6_2, .string (text be6_3), .string (text be6_4), .bool fe6_5]).cell? ⟨wr.heap.size, 1, none⟩ = some (.string (text be6_1)) := HXe.out.cell 1
        have hcz_2 : ((wr.alloc (.cells #[.string ⟨#[]⟩, .string ⟨#[]⟩, .int .i64 0, .string ⟨#[]⟩, .string ⟨#[]⟩, .bool false] 166)).setCells wr.heap.size 0 [.string (text be6_0), .string (text be6_1), .int .i64 ne6_2, .string (text be6_3), .string (text be6_4), .bool fe6_5]).cell? ⟨wr.heap.size, 2, none⟩ = some (.int .i64 ne6_2) := HXe.out.cell 2
        have hcz_3 : ((wr.alloc (.cells #[.string ⟨#[]⟩, .string ⟨#[]⟩, .int .i64 0, .string ⟨#[]⟩, .string ⟨#[]⟩, .bool false] 166)).setCells wr.heap.size 0 [.string (text be6_0), .string (text be6_1), .int .i64 ne6_2, .string (text be6_3), .string (text be6_4), .bool fe6_5]).cell? ⟨wr.heap.size, 3, none⟩ = some (.string (text be6_3)) := HXe.out.cell 3
        have hcz_4 : ((wr.alloc (.cells #[.string ⟨#[]⟩, .string ⟨#[]⟩, .int .i64 0, .string ⟨#[]⟩, .string ⟨#[]⟩, .bool false] 166)).setCells wr.heap.size 0 [.string (text be6_0), .string (text be6_1), .int .i64 ne6_2, .string (text be6_3), .string (text be6_4), .bool fe6_5]).cell? ⟨wr.heap.size, 4, none⟩ = some (.string (text be6_4)) := HXe.out.cell 4
        have hcz_5 : ((wr.alloc (.cells #[.string ⟨#[]⟩, .string ⟨#[]⟩, .int .i64 0, .string ⟨#[]⟩, .string ⟨#[]⟩, .bool false] 166)).setCells wr.heap.size 0 [.string (text be6_0), .string (text be6_1), .int .i64 ne6_2, .string (text be6_3), .string (text be6_4), .bool fe6_5]).cell? ⟨wr.heap.size, 5, none⟩ = some (.bool fe6_5) := HXe.out.cell 5
        clear hbw
        go_wp2_with (with_reducible refine wpList_store_mid rfl 166 _ _ rfl wr.heap.size 0 (List.toArray ([.string (text be6_0), .string (text be6_1), .int .i64 ne6_2, .string (text be6_3), .string (text be6_4), .bool fe6_5] : List Value)) rfl rfl HTZ.out hsZ.out h1Z.out ?_)
        refine (L_text base g be6_0 _ _ HLe.out p1.out).mono ?_
        rintro e wb0 ⟨rfl, hL, hK⟩
        replace HLe := Lib.hid hL
        replace HKe := Lib.hid (HKe.out.trans hK)
        replace HKc := Lib.hid (HKc.out.trans hK)
        have hcy0 : wb0.cell? ⟨wr.heap.size, 1, none⟩ = some (.string (text be6_1)) := (HXe.out.keeps HKc.out.keeps (by decide)).cell 1
        clear hL hK
        go_wp2_with fail
        refine (L_text base g be6_1 _ _ HLe.out p2.out).mono ?_
        rintro e wb1 ⟨rfl, hL, hK⟩
        replace HLe := Lib.hid hL
        replace HKe := Lib.hid (HKe.out.trans hK)
        replace HKc := Lib.hid (HKc.out.trans hK)
        have hcy1 : wb1.cell? ⟨wr.heap.size, 2, none⟩ = some (.int .i64 ne6_2) := (HXe.out.keeps HKc.out.keeps (by decide)).cell 2
        clear hL hK
        go_wp2_with fail
        refine (L_num base g ne6_2 _ _ HLe.out p3.out).mono ?_
        rintro e wb2 ⟨rfl, hL, hK⟩
        replace HLe := Lib.hid hL
        replace HKe := Lib.hid (HKe.out.trans hK)
        replace HKc := Lib.hid (HKc.out.trans hK)
        have hcy2 : wb2.cell? ⟨wr.heap.size, 3, none⟩ = some (.string (text be6_3)) := (HXe.out.keeps HKc.out.keeps (by decide)).cell 3
        clear hL hK
        go_wp2_with fail
        refine (L_text base g be6_3 _ _ HLe.out p4.out).mono ?_
        rintro e wb3 ⟨rfl, hL, hK⟩
        replace HLe := Lib.hid hL
        replace HKe := Lib.hid (HKe.out.trans hK)
        replace HKc := Lib.hid (HKc.out.trans hK)
        have hcy3 : wb3.cell? ⟨wr.heap.size, 4, none⟩ = some (.string (text be6_4)) := (HXe.out.keeps HKc.out.keeps (by decide)).cell 4
        clear hL hK
        go_wp2_with fail
        refine (L_text base g be6_4 _ _ HLe.out p5.out).mono ?_
        rintro e wb4 ⟨rfl, hL, hK⟩
        replace HLe := Lib.hid hL
        replace HKe := Lib.hid (HKe.out.trans hK)
        replace HKc := Lib.hid (HKc.out.trans hK)
        have hcy4 : wb4.cell? ⟨wr.heap.size, 5, none⟩ = some (.bool fe6_5) := (HXe.out.keeps HKc.out.keeps (by decide)).cell 5
        clear hL hK
        go_wp2_with fail
        refine (L_flag base g fe6_5 _ _ HLe.out p6.out).mono ?_
        rintro e wb5 ⟨rfl, hL, hK⟩
        replace HLe := Lib.hid hL
        replace HKe := Lib.hid (HKe.out.trans hK)
        clear hL hK
        go_wp2
        go_roundw
        case rel => exact ⟨j + 1, by omega, by go_num, Lib.hid (by rw [HQ.out]; show LayAt _ _ _ (lays [.text, .text, .num, .text, .text, .flag] _ _); simp only [lays]; exact HLe.out), HKe⟩
        case measure => simp [intOf]; omega
      obtain rfl : j = r6.length := by omega
      replace HL : Hid (LayAt wr base g (lay (.rows shGrant) (.rows r6) (lay (.rows shMember) (.rows r5) (lay (.rows [.text]) (.rows r4) (lay (.rows shTable) (.rows r3) (lay (.rows shSchema) (.rows r2) (lay (.num) (.int n1) (lay (.num) (.int n0) s)))))))) := Lib.hid (by rw [lay_rows_ok H06.out.1 H06.out.2]; exact HL.out)
      go_wp2
      go_end0
      exact ⟨rfl, HL.out, HA.out.trans HK.out⟩

set_option maxHeartbeats 1600000 in
theorem L_Machine (base g : Nat) (ds : List Da) (vs : List Value) (s : St) (w : World) (h : LayAt w base g s) (hC : Cels w (· < base) shMachine ds vs) (hs : (lays shMachine ds s).1.length ≤ 1099511627776) :
    Calls Try.prog 63 #[.pointer (some ⟨g, 0, none⟩), .agg vs.toArray] w fun e w' => e = .returned (.tuple #[]) ∧ (∃ s', LayAt w' base g s' ∧ s'.2 = (lays shMachine ds s).2 ∧ (s'.2 = 0 → s' = lays shMachine ds s)) ∧ Lays base w w' := by
  replace hC : Cels w (· < base) [.num, .num, .rows shSchema, .rows shTable, .rows [.text], .rows shMember, .rows shGrant, .rows shDone, .rows shLease, .num] ds vs := hC
  obtain ⟨_, _, _, _, rfl, rfl, c0, hC⟩ := hC.cons
  obtain ⟨_, _, _, _, rfl, rfl, c1, hC⟩ := hC.cons
  obtain ⟨_, _, _, _, rfl, rfl, c2, hC⟩ := hC.cons
  obtain ⟨_, _, _, _, rfl, rfl, c3, hC⟩ := hC.cons
  obtain ⟨_, _, _, _, rfl, rfl, c4, hC⟩ := hC.cons
  obtain ⟨_, _, _, _, rfl, rfl, c5, hC⟩ := hC.cons
  obtain ⟨_, _, _, _, rfl, rfl, c6, hC⟩ := hC.cons
  obtain ⟨_, _, _, _, rfl, rfl, c7, hC⟩ := hC.cons
  obtain ⟨_, _, _, _, rfl, rfl, c8, hC⟩ := hC.cons
  obtain ⟨_, _, _, _, rfl, rfl, c9, hC⟩ := hC.cons
  obtain ⟨rfl, rfl⟩ := hC.nil
  obtain ⟨n0, rfl, rfl⟩ := c0.num
  obtain ⟨n1, rfl, rfl⟩ := c1.num
  obtain ⟨r2, A2, k2, rfl, rfl, R2⟩ := c2.rows
  replace R2 := Lib.hid R2
  obtain ⟨r3, A3, k3, rfl, rfl, R3⟩ := c3.rows
  replace R3 := Lib.hid R3
  obtain ⟨r4, A4, k4, rfl, rfl, R4⟩ := c4.rows
  replace R4 := Lib.hid R4
  obtain ⟨r5, A5, k5, rfl, rfl, R5⟩ := c5.rows
  replace R5 := Lib.hid R5
  obtain ⟨r6, A6, k6, rfl, rfl, R6⟩ := c6.rows
  replace R6 := Lib.hid R6
  obtain ⟨r7, A7, k7, rfl, rfl, R7⟩ := c7.rows
  replace R7 := Lib.hid R7
  obtain ⟨r8, A8, k8, rfl, rfl, R8⟩ := c8.rows
  replace R8 := Lib.hid R8
  obtain ⟨n9, rfl, rfl⟩ := c9.num
  simp only [shMachine, lays] at hs ⊢
  have q10 := Lib.hid hs
  have q9 := Lib.hid (lay_le q10.out)
  have q8 := Lib.hid (lay_le q9.out)
  have q7 := Lib.hid (lay_le q8.out)
  have q6 := Lib.hid (lay_le q7.out)
  have q5 := Lib.hid (lay_le q6.out)
  have q4 := Lib.hid (lay_le q5.out)
  have q3 := Lib.hid (lay_le q4.out)
  have q2 := Lib.hid (lay_le q3.out)
  have q1 := Lib.hid (lay_le q2.out)
  have q0 := Lib.hid (lay_le q1.out)
  clear hs
  have hlt := h.lt
  have HA : Hid (Lays base w (w.alloc (.cells #[.int .i64 n0, .int .i64 n1, .slice A2 r2.length k2, .slice A3 r3.length k3, .slice A4 r4.length k4, .slice A5 r5.length k5, .slice A6 r6.length k6, .slice A7 r7.length k7, .slice A8 r8.length k8, .int .i64 n9] 82))) := Lib.hid (Lays.alloc hlt _)
  have HX : Hid (Blk (w.alloc (.cells #[.int .i64 n0, .int .i64 n1, .slice A2 r2.length k2, .slice A3 r3.length k3, .slice A4 r4.length k4, .slice A5 r5.length k5, .slice A6 r6.length k6, .slice A7 r7.length k7, .slice A8 r8.length k8, .int .i64 n9] 82)) w.heap.size 82 [.int .i64 n0, .int .i64 n1, .slice A2 r2.length k2, .slice A3 r3.length k3, .slice A4 r4.length k4, .slice A5 r5.length k5, .slice A6 r6.length k6, .slice A7 r7.length k7, .slice A8 r8.length k8, .int .i64 n9]) := Lib.hid (Blk.new w _ _)
  have HL := Lib.hid (h.alloc (.cells #[.int .i64 n0, .int .i64 n1, .slice A2 r2.length k2, .slice A3 r3.length k3, .slice A4 r4.length k4, .slice A5 r5.length k5, .slice A6 r6.length k6, .slice A7 r7.length k7, .slice A8 r8.length k8, .int .i64 n9] 82))
  have HK : Hid (Lays base (w.alloc (.cells #[.int .i64 n0, .int .i64 n1, .slice A2 r2.length k2, .slice A3 r3.length k3, .slice A4 r4.length k4, .slice A5 r5.length k5, .slice A6 r6.length k6, .slice A7 r7.length k7, .slice A8 r8.length k8, .int .i64 n9] 82)) (w.alloc (.cells #[.int .i64 n0, .int .i64 n1, .slice A2 r2.length k2, .slice A3 r3.length k3, .slice A4 r4.length k4, .slice A5 r5.length k5, .slice A6 r6.length k6, .slice A7 r7.length k7, .slice A8 r8.length k8, .int .i64 n9] 82))) := Lib.hid (Lays.refl _ _)
  clear h
  go_enter Try.func63, Try.ntmps63
  go_wp2_with fail
  refine (L_Catalog base g _ _ _ _ HL.out (Cels.mk (Cel.mk_num n0) (Cels.mk (Cel.mk_num n1) (Cels.mk (Cel.mk_rows k2 (R2.out.below (HA.out.trans HK.out).below)) (Cels.mk (Cel.mk_rows k3 (R3.out.below (HA.out.trans HK.out).below)) (Cels.mk (Cel.mk_rows k4 (R4.out.below (HA.out.trans HK.out).below)) (Cels.mk (Cel.mk_rows k5 (R5.out.below (HA.out.trans HK.out).below)) (Cels.mk (Cel.mk_rows k6 (R6.out.below (HA.out.trans HK.out).below)) Cels.mk0))))))) (by simp only [shCatalog, lays]; exact q7.out)).mono ?_
  rintro e w1 ⟨rfl, hL, hK⟩
  simp only [shCatalog, lays] at hL
  replace HL := Lib.hid hL
  replace HK := Lib.hid (HK.out.trans hK)
  have HBxw1 := Lib.hid (HX.out.keeps HK.out.keeps (by decide))
  have hcxw1_0 : w1.cell? ⟨w.heap.size, 7, none⟩ = some (.slice A7 r7.length k7) := HBxw1.out.cell 7
  clear hL hK
  go_wp2_with fail
  by_cases h0 : (lay (.rows shGrant) (.rows r6) (lay (.rows shMember) (.rows r5) (lay (.rows [.text]) (.rows r4) (lay (.rows shTable) (.rows r3) (lay (.rows shSchema) (.rows r2) (lay (.num) (.int n1) (lay (.num) (.int n0) s))))))).2 = 0 ∧ r7.length ≤ 4096
  rotate_left
  · refine (L_many_no base g shDone r7 _ _ HL.out h0).mono ?_
    rintro e wn ⟨rfl, hL, hK⟩
    have herr := Lib.hid (rows_no_err (l := shDone) h0)
    have HLn := Lib.hid hL
    clear hL h0
    go_wp2
    refine bodyPost_ret (results_none rfl _ _ _) rfl ?_
    refine ⟨rfl, ⟨_, HLn.out, ?_, fun h => absurd h herr.out⟩, HA.out.trans (HK.out.trans hK)⟩
    skip
    skip
    have he := lays_err [.rows shLease, .num] [.rows r8, .int n9] _ herr.out
    simp only [lays] at he
    exact he.symm
  refine (L_many_ok base g r7.length _ _ HL.out h0.1 (by omega) (lay_le q8.out)).mono ?_
  rintro e wm7 ⟨rfl, hL, hK⟩
  have H07 := Lib.hid h0
  replace HL := Lib.hid hL
  replace HK := Lib.hid (HK.out.trans hK)
  clear hL hK h0
  have hn47 := H07.out.2
  go_wp2
  go_loopw [4] (fun i wr => ∃ j : Nat, j ≤ r7.length ∧ i = .int .i64 j ∧ Hid (LayAt wr base g (foldT shDone r7 j (layNum r7.length (lay (.rows shGrant) (.rows r6) (lay (.rows shMember) (.rows r5) (lay (.rows [.text]) (.rows r4) (lay (.rows shTable) (.rows r3) (lay (.rows shSchema) (.rows r2) (lay (.num) (.int n1) (lay (.num) (.int n0) s)))))))))) ∧ Hid (Lays base (w.alloc (.cells #[.int .i64 n0, .int .i64 n1, .slice A2 r2.length k2, .slice A3 r3.length k3, .slice A4 r4.length k4, .slice A5 r5.length k5, .slice A6 r6.length k6, .slice A7 r7.length k7, .slice A8 r8.length k8, .int .i64 n9] 82)) wr)) (fun i _ => r7.length - (intOf i).toNat)
  case atStart => exact ⟨0, Nat.zero_le _, rfl, Lib.hid (by rw [foldT_zero]; exact HL.out), HK⟩
  case round =>
    clear HL HK
    obtain ⟨j, hj, rfl, HL, HK⟩ := hrel
    have HBr := Lib.hid (HX.out.keeps HK.out.keeps (by decide))
    have hcr : wr.cell? ⟨w.heap.size, 7, none⟩ = some (.slice A7 r7.length k7) := HBr.out.cell 7
    by_cases hlt : j < r7.length
    · have HQ := Lib.hid (foldT_succ shDone r7 j (layNum r7.length (lay (.rows shGrant) (.rows r6) (lay (.rows shMember) (.rows r5) (lay (.rows [.text]) (.rows r4) (lay (.rows shTable) (.rows r3) (lay (.rows shSchema) (.rows r2) (lay (.num) (.int n1) (lay (.num) (.int n0) s)))))))) hlt)
      have q := foldT_le_lay (l := shDone) H07.out.1 H07.out.2 (j + 1)
      rw [HQ.out] at q
      obtain ⟨ad, vs, rfl, hC, hcell⟩ := (R7.out.below (HA.out.trans HK.out).below).at_ hlt
      have had : ∀ {i : Nat}, (ad.add i).block < base := fun {i} => by rw [block_of_add]; exact R7.out.block (by omega)
      obtain ⟨dd, hdd⟩ : ∃ dd, dd = r7[j] := ⟨_, rfl⟩
      rw [← hdd] at hC HQ q
      clear hdd
      replace hC : Cels wr (· < base) [.num, .num, .num, .num, .num] dd vs := hC
      obtain ⟨_, _, _, _, rfl, rfl, ce7_0, hC⟩ := hC.cons
      obtain ⟨_, _, _, _, rfl, rfl, ce7_1, hC⟩ := hC.cons
      obtain ⟨_, _, _, _, rfl, rfl, ce7_2, hC⟩ := hC.cons
      obtain ⟨_, _, _, _, rfl, rfl, ce7_3, hC⟩ := hC.cons
      obtain ⟨_, _, _, _, rfl, rfl, ce7_4, hC⟩ := hC.cons
      obtain ⟨rfl, rfl⟩ := hC.nil
      obtain ⟨ne7_0, rfl, rfl⟩ := ce7_0.num
      obtain ⟨ne7_1, rfl, rfl⟩ := ce7_1.num
      obtain ⟨ne7_2, rfl, rfl⟩ := ce7_2.num
      obtain ⟨ne7_3, rfl, rfl⟩ := ce7_3.num
      obtain ⟨ne7_4, rfl, rfl⟩ := ce7_4.num
      have hc0_0 : wr.cell? (ad.add (j * 5)) = some (.int .i64 ne7_0) := hcell 0 _ rfl
      have hc0_1 : wr.cell? ⟨(ad.add (j * 5)).block, (ad.add (j * 5)).off + 1, none⟩ = some (.int .i64 ne7_1) := by rw [← add_field ad (j * 5) 1 (by decide)]; exact hcell 1 _ rfl
      have hc0_2 : wr.cell? ⟨(ad.add (j * 5)).block, (ad.add (j * 5)).off + 2, none⟩ = some (.int .i64 ne7_2) := by rw [← add_field ad (j * 5) 2 (by decide)]; exact hcell 2 _ rfl
      have hc0_3 : wr.cell? ⟨(ad.add (j * 5)).block, (ad.add (j * 5)).off + 3, none⟩ = some (.int .i64 ne7_3) := by rw [← add_field ad (j * 5) 3 (by decide)]; exact hcell 3 _ rfl
      have hc0_4 : wr.cell? ⟨(ad.add (j * 5)).block, (ad.add (j * 5)).off + 4, none⟩ = some (.int .i64 ne7_4) := by rw [← add_field ad (j * 5) 4 (by decide)]; exact hcell 4 _ rfl
      replace q := Nat.le_trans q q8.out
      replace q : (lays [.num, .num, .num, .num, .num] _ _).1.length ≤ _ := q
      simp only [lays] at q
      have p5 := Lib.hid q
      have p4 := Lib.hid (lay_le p5.out)
      have p3 := Lib.hid (lay_le p4.out)
      have p2 := Lib.hid (lay_le p3.out)
      have p1 := Lib.hid (lay_le p2.out)
      have p0 := Lib.hid (lay_le p1.out)
      clear q hcell
      have HLe := HL
      have hbs := HL.out.lt
      have HXe : Hid (Blk (wr.alloc (.cells #[.int .i64 0, .int .i64 0, .int .i64 0, .int .i64 0, .int .i64 0] 203)) wr.heap.size 203 [.int .i64 0, .int .i64 0, .int .i64 0, .int .i64 0, .int .i64 0]) := Lib.hid (Blk.new wr 203 [.int .i64 0, .int .i64 0, .int .i64 0, .int .i64 0, .int .i64 0])
      have HTZ : Hid (World.there (wr.alloc (.cells #[.int .i64 0, .int .i64 0, .int .i64 0, .int .i64 0, .int .i64 0] 203)) wr.heap.size 0 (List.toArray ([.int .i64 ne7_0, .int .i64 ne7_1, .int .i64 ne7_2, .int .i64 ne7_3, .int .i64 ne7_4] : List Value)).size) := Lib.hid (HXe.out.there 0 5 (by simp))
      have hsZ : Hid ((Try.prog.info? 203).map (·.size) = some (List.toArray ([.int .i64 ne7_0, .int .i64 ne7_1, .int .i64 ne7_2, .int .i64 ne7_3, .int .i64 ne7_4] : List Value)).size) := Lib.hid (by kernel_rfl)
      have h1Z : Hid ((List.toArray ([.int .i64 ne7_0, .int .i64 ne7_1, .int .i64 ne7_2, .int .i64 ne7_3, .int .i64 ne7_4] : List Value)).all (·.oneCell') = true) := Lib.hid (all_oneCell_toArray (by simp [Value.oneCell']))
      have hbw : Below wr.heap.size wr ((wr.alloc (.cells #[.int .i64 0, .int .i64 0, .int .i64 0, .int .i64 0, .int .i64 0] 203)).setCells wr.heap.size 0 [.int .i64 ne7_0, .int .i64 ne7_1, .int .i64 ne7_2, .int .i64 ne7_3, .int .i64 ne7_4]) := ((Below.refl _ _).alloc (Nat.le_refl _) _).trans (below_setCells_ (Nat.le_refl _) 0 [.int .i64 ne7_0, .int .i64 ne7_1, .int .i64 ne7_2, .int .i64 ne7_3, .int .i64 ne7_4])
      replace HXe : Hid (Blk ((wr.alloc (.cells #[.int .i64 0, .int .i64 0, .int .i64 0, .int .i64 0, .int .i64 0] 203)).setCells wr.heap.size 0 [.int .i64 ne7_0, .int .i64 ne7_1, .int .i64 ne7_2, .int .i64 ne7_3, .int .i64 ne7_4]) wr.heap.size 203 [.int .i64 ne7_0, .int .i64 ne7_1, .int .i64 ne7_2, .int .i64 ne7_3, .int .i64 ne7_4]) := Lib.hid (HXe.out.setCells0 [.int .i64 ne7_0, .int .i64 ne7_1, .int .i64 ne7_2, .int .i64 ne7_3, .int .i64 ne7_4] rfl)
      replace HLe := Lib.hid (HL.out.below_ hbw)
      have HKe := Lib.hid (HK.out.trans (Lays.of_below hbw hbs))
      have HKc : Hid (Lays base ((wr.alloc (.cells #[.int .i64 0, .int .i64 0, .int .i64 0, .int .i64 0, .int .i64 0] 203)).setCells wr.heap.size 0 [.int .i64 ne7_0, .int .i64 ne7_1, .int .i64 ne7_2, .int .i64 ne7_3, .int .i64 ne7_4]) ((wr.alloc (.cells #[.int .i64 0, .int .i64 0, .int .i64 0, .int .i64 0, .int .i64 0] 203)).setCells wr.heap.size 0 [.int .i64 ne7_0, .int .i64 ne7_1, .int .i64 ne7_2, .int .i64 ne7_3, .int .i64 ne7_4])) := Lib.hid (Lays.refl _ _)
      have hcz_0 : ((wr.alloc (.cells #[.int .i64 0, .int .i64 0, .int .i64 0, .int .i64 0, .int .i64 0] 203)).setCells wr.heap.size 0 [.int .i64 ne7_0, .int .i64 ne7_1, .int .i64 ne7_2, .int .i64 ne7_3, .int .i64 ne7_4]).cell? ⟨wr.heap.size, 0, none⟩ = some (.int .i64 ne7_0) := HXe.out.cell 0
      have hcz_1 : ((wr.alloc (.cells #[.int .i64 0, .int .i64 0, .int .i64 0, .int .i64 0, .int .i64 0] 203)).setCells wr.heap.size 0 [.int .i64 ne7_0, .int .i64 ne7_1, .int .i64 ne7_2, .int .i64 ne7_3, .int .i64 ne7_4]).cell? ⟨wr.heap.size, 1, none⟩ = some (.int .i64 ne7_1) := HXe.out.cell 1
      have hcz_2 : ((wr.alloc (.cells #[.int .i64 0, .int .i64 0, .int .i64 0, .int .i64 0, .int .i64 0] 203)).setCells wr.heap.size 0 [.int .i64 ne7_0, .int .i64 ne7_1, .int .i64 ne7_2, .int .i64 ne7_3, .int .i64 ne7_4]).cell? ⟨wr.heap.size, 2, none⟩ = some (.int .i64 ne7_2) := HXe.out.cell 2
      have hcz_3 : ((wr.alloc (.cells #[.int .i64 0, .int .i64 0, .int .i64 0, .int .i64 0, .int .i64 0] 203)).setCells wr.heap.size 0 [.int .i64 ne7_0, .int .i64 ne7_1, .int .i64 ne7_2, .int .i64 ne7_3, .int .i64 ne7_4]).cell? ⟨wr.heap.size, 3, none⟩ = some (.int .i64 ne7_3) := HXe.out.cell 3
      have hcz_4 : ((wr.alloc (.cells #[.int .i64 0, .int .i64 0, .int .i64 0, .int .i64 0, .int .i64 0] 203)).setCells wr.heap.size 0 [.int .i64 ne7_0, .int .i64 ne7_1, .int .i64 ne7_2, .int .i64 ne7_3, .int .i64 ne7_4]).cell? ⟨wr.heap.size, 4, none⟩ = some (.int .i64 ne7_4) := HXe.out.cell 4
      clear hbw
      go_wp2_with (with_reducible refine wpList_store_mid rfl 203 _ _ rfl wr.heap.size 0 (List.toArray ([.int .i64 ne7_0, .int .i64 ne7_1, .int .i64 ne7_2, .int .i64 ne7_3, .int .i64 ne7_4] : List Value)) rfl rfl HTZ.out hsZ.out h1Z.out ?_)
      refine (L_num base g ne7_0 _ _ HLe.out p1.out).mono ?_
      rintro e wb0 ⟨rfl, hL, hK⟩
      replace HLe := Lib.hid hL
      replace HKe := Lib.hid (HKe.out.trans hK)
      replace HKc := Lib.hid (HKc.out.trans hK)
      have hcy0 : wb0.cell? ⟨wr.heap.size, 1, none⟩ = some (.int .i64 ne7_1) := (HXe.out.keeps HKc.out.keeps (by decide)).cell 1
      clear hL hK
      go_wp2_with fail
      refine (L_num base g ne7_1 _ _ HLe.out p2.out).mono ?_
      rintro e wb1 ⟨rfl, hL, hK⟩
      replace HLe := Lib.hid hL
      replace HKe := Lib.hid (HKe.out.trans hK)
      replace HKc := Lib.hid (HKc.out.trans hK)
      have hcy1 : wb1.cell? ⟨wr.heap.size, 2, none⟩ = some (.int .i64 ne7_2) := (HXe.out.keeps HKc.out.keeps (by decide)).cell 2
      clear hL hK
      go_wp2_with fail
      refine (L_num base g ne7_2 _ _ HLe.out p3.out).mono ?_
      rintro e wb2 ⟨rfl, hL, hK⟩
      replace HLe := Lib.hid hL
      replace HKe := Lib.hid (HKe.out.trans hK)
      replace HKc := Lib.hid (HKc.out.trans hK)
      have hcy2 : wb2.cell? ⟨wr.heap.size, 3, none⟩ = some (.int .i64 ne7_3) := (HXe.out.keeps HKc.out.keeps (by decide)).cell 3
      clear hL hK
      go_wp2_with fail
      refine (L_num base g ne7_3 _ _ HLe.out p4.out).mono ?_
      rintro e wb3 ⟨rfl, hL, hK⟩
      replace HLe := Lib.hid hL
      replace HKe := Lib.hid (HKe.out.trans hK)
      replace HKc := Lib.hid (HKc.out.trans hK)
      have hcy3 : wb3.cell? ⟨wr.heap.size, 4, none⟩ = some (.int .i64 ne7_4) := (HXe.out.keeps HKc.out.keeps (by decide)).cell 4
      clear hL hK
      go_wp2_with fail
      refine (L_num base g ne7_4 _ _ HLe.out p5.out).mono ?_
      rintro e wb4 ⟨rfl, hL, hK⟩
      replace HLe := Lib.hid hL
      replace HKe := Lib.hid (HKe.out.trans hK)
      clear hL hK
      go_wp2
      go_roundw
      case rel => exact ⟨j + 1, by omega, by go_num, Lib.hid (by rw [HQ.out]; show LayAt _ _ _ (lays [.num, .num, .num, .num, .num] _ _); simp only [lays]; exact HLe.out), HKe⟩
      case measure => simp [intOf]; omega
    obtain rfl : j = r7.length := by omega
    replace HL : Hid (LayAt wr base g (lay (.rows shDone) (.rows r7) (lay (.rows shGrant) (.rows r6) (lay (.rows shMember) (.rows r5) (lay (.rows [.text]) (.rows r4) (lay (.rows shTable) (.rows r3) (lay (.rows shSchema) (.rows r2) (lay (.num) (.int n1) (lay (.num) (.int n0) s))))))))) := Lib.hid (by rw [lay_rows_ok H07.out.1 H07.out.2]; exact HL.out)
    have hcr2_0 : wr.cell? ⟨w.heap.size, 8, none⟩ = some (.slice A8 r8.length k8) := HBr.out.cell 8
    go_wp2_with fail
    by_cases h0 : (lay (.rows shDone) (.rows r7) (lay (.rows shGrant) (.rows r6) (lay (.rows shMember) (.rows r5) (lay (.rows [.text]) (.rows r4) (lay (.rows shTable) (.rows r3) (lay (.rows shSchema) (.rows r2) (lay (.num) (.int n1) (lay (.num) (.int n0) s)))))))).2 = 0 ∧ r8.length ≤ 4096
    rotate_left
    · refine (L_many_no base g shLease r8 _ _ HL.out h0).mono ?_
      rintro e wn ⟨rfl, hL, hK⟩
      have herr := Lib.hid (rows_no_err (l := shLease) h0)
      have HLn := Lib.hid hL
      clear hL h0
      go_wp2
      refine bodyPost_ret (results_none rfl _ _ _) rfl ?_
      refine ⟨rfl, ⟨_, HLn.out, ?_, fun h => absurd h herr.out⟩, HA.out.trans (HK.out.trans hK)⟩
      skip
      have he := lays_err [.num] [.int n9] _ herr.out
      simp only [lays] at he
      exact he.symm
    refine (L_many_ok base g r8.length _ _ HL.out h0.1 (by omega) (lay_le q9.out)).mono ?_
    rintro e wm8 ⟨rfl, hL, hK⟩
    have H08 := Lib.hid h0
    replace HL := Lib.hid hL
    replace HK := Lib.hid (HK.out.trans hK)
    clear hL hK h0
    have hn48 := H08.out.2
    go_wp2
    go_loopw [6] (fun i wr => ∃ j : Nat, j ≤ r8.length ∧ i = .int .i64 j ∧ Hid (LayAt wr base g (foldT shLease r8 j (layNum r8.length (lay (.rows shDone) (.rows r7) (lay (.rows shGrant) (.rows r6) (lay (.rows shMember) (.rows r5) (lay (.rows [.text]) (.rows r4) (lay (.rows shTable) (.rows r3) (lay (.rows shSchema) (.rows r2) (lay (.num) (.int n1) (lay (.num) (.int n0) s))))))))))) ∧ Hid (Lays base (w.alloc (.cells #[.int .i64 n0, .int .i64 n1, .slice A2 r2.length k2, .slice A3 r3.length k3, .slice A4 r4.length k4, .slice A5 r5.length k5, .slice A6 r6.length k6, .slice A7 r7.length k7, .slice A8 r8.length k8, .int .i64 n9] 82)) wr)) (fun i _ => r8.length - (intOf i).toNat)
    case atStart => exact ⟨0, Nat.zero_le _, rfl, Lib.hid (by rw [foldT_zero]; exact HL.out), HK⟩
    case round =>
      clear HL HK
      obtain ⟨j, hj, rfl, HL, HK⟩ := hrel
      have HBr := Lib.hid (HX.out.keeps HK.out.keeps (by decide))
      have hcr : wr.cell? ⟨w.heap.size, 8, none⟩ = some (.slice A8 r8.length k8) := HBr.out.cell 8
      by_cases hlt : j < r8.length
      · have HQ := Lib.hid (foldT_succ shLease r8 j (layNum r8.length (lay (.rows shDone) (.rows r7) (lay (.rows shGrant) (.rows r6) (lay (.rows shMember) (.rows r5) (lay (.rows [.text]) (.rows r4) (lay (.rows shTable) (.rows r3) (lay (.rows shSchema) (.rows r2) (lay (.num) (.int n1) (lay (.num) (.int n0) s))))))))) hlt)
        have q := foldT_le_lay (l := shLease) H08.out.1 H08.out.2 (j + 1)
        rw [HQ.out] at q
        obtain ⟨ad, vs, rfl, hC, hcell⟩ := (R8.out.below (HA.out.trans HK.out).below).at_ hlt
        have had : ∀ {i : Nat}, (ad.add i).block < base := fun {i} => by rw [block_of_add]; exact R8.out.block (by omega)
        obtain ⟨dd, hdd⟩ : ∃ dd, dd = r8[j] := ⟨_, rfl⟩
        rw [← hdd] at hC HQ q
        clear hdd
        replace hC : Cels wr (· < base) [.num, .num, .num, .num] dd vs := hC
        obtain ⟨_, _, _, _, rfl, rfl, ce8_0, hC⟩ := hC.cons
        obtain ⟨_, _, _, _, rfl, rfl, ce8_1, hC⟩ := hC.cons
        obtain ⟨_, _, _, _, rfl, rfl, ce8_2, hC⟩ := hC.cons
        obtain ⟨_, _, _, _, rfl, rfl, ce8_3, hC⟩ := hC.cons
        obtain ⟨rfl, rfl⟩ := hC.nil
        obtain ⟨ne8_0, rfl, rfl⟩ := ce8_0.num
        obtain ⟨ne8_1, rfl, rfl⟩ := ce8_1.num
        obtain ⟨ne8_2, rfl, rfl⟩ := ce8_2.num
        obtain ⟨ne8_3, rfl, rfl⟩ := ce8_3.num
        have hc0_0 : wr.cell? (ad.add (j * 4)) = some (.int .i64 ne8_0) := hcell 0 _ rfl
        have hc0_1 : wr.cell? ⟨(ad.add (j * 4)).block, (ad.add (j * 4)).off + 1, none⟩ = some (.int .i64 ne8_1) := by rw [← add_field ad (j * 4) 1 (by decide)]; exact hcell 1 _ rfl
        have hc0_2 : wr.cell? ⟨(ad.add (j * 4)).block, (ad.add (j * 4)).off + 2, none⟩ = some (.int .i64 ne8_2) := by rw [← add_field ad (j * 4) 2 (by decide)]; exact hcell 2 _ rfl
        have hc0_3 : wr.cell? ⟨(ad.add (j * 4)).block, (ad.add (j * 4)).off + 3, none⟩ = some (.int .i64 ne8_3) := by rw [← add_field ad (j * 4) 3 (by decide)]; exact hcell 3 _ rfl
        replace q := Nat.le_trans q q9.out
        replace q : (lays [.num, .num, .num, .num] _ _).1.length ≤ _ := q
        simp only [lays] at q
        have p4 := Lib.hid q
        have p3 := Lib.hid (lay_le p4.out)
        have p2 := Lib.hid (lay_le p3.out)
        have p1 := Lib.hid (lay_le p2.out)
        have p0 := Lib.hid (lay_le p1.out)
        clear q hcell
        have HLe := HL
        have hbs := HL.out.lt
        have HXe : Hid (Blk (wr.alloc (.cells #[.int .i64 0, .int .i64 0, .int .i64 0, .int .i64 0] 205)) wr.heap.size 205 [.int .i64 0, .int .i64 0, .int .i64 0, .int .i64 0]) := Lib.hid (Blk.new wr 205 [.int .i64 0, .int .i64 0, .int .i64 0, .int .i64 0])
        have HTZ : Hid (World.there (wr.alloc (.cells #[.int .i64 0, .int .i64 0, .int .i64 0, .int .i64 0] 205)) wr.heap.size 0 (List.toArray ([.int .i64 ne8_0, .int .i64 ne8_1, .int .i64 ne8_2, .int .i64 ne8_3] : List Value)).size) := Lib.hid (HXe.out.there 0 4 (by simp))
        have hsZ : Hid ((Try.prog.info? 205).map (·.size) = some (List.toArray ([.int .i64 ne8_0, .int .i64 ne8_1, .int .i64 ne8_2, .int .i64 ne8_3] : List Value)).size) := Lib.hid (by kernel_rfl)
        have h1Z : Hid ((List.toArray ([.int .i64 ne8_0, .int .i64 ne8_1, .int .i64 ne8_2, .int .i64 ne8_3] : List Value)).all (·.oneCell') = true) := Lib.hid (all_oneCell_toArray (by simp [Value.oneCell']))
        have hbw : Below wr.heap.size wr ((wr.alloc (.cells #[.int .i64 0, .int .i64 0, .int .i64 0, .int .i64 0] 205)).setCells wr.heap.size 0 [.int .i64 ne8_0, .int .i64 ne8_1, .int .i64 ne8_2, .int .i64 ne8_3]) := ((Below.refl _ _).alloc (Nat.le_refl _) _).trans (below_setCells_ (Nat.le_refl _) 0 [.int .i64 ne8_0, .int .i64 ne8_1, .int .i64 ne8_2, .int .i64 ne8_3])
        replace HXe : Hid (Blk ((wr.alloc (.cells #[.int .i64 0, .int .i64 0, .int .i64 0, .int .i64 0] 205)).setCells wr.heap.size 0 [.int .i64 ne8_0, .int .i64 ne8_1, .int .i64 ne8_2, .int .i64 ne8_3]) wr.heap.size 205 [.int .i64 ne8_0, .int .i64 ne8_1, .int .i64 ne8_2, .int .i64 ne8_3]) := Lib.hid (HXe.out.setCells0 [.int .i64 ne8_0, .int .i64 ne8_1, .int .i64 ne8_2, .int .i64 ne8_3] rfl)
        replace HLe := Lib.hid (HL.out.below_ hbw)
        have HKe := Lib.hid (HK.out.trans (Lays.of_below hbw hbs))
        have HKc : Hid (Lays base ((wr.alloc (.cells #[.int .i64 0, .int .i64 0, .int .i64 0, .int .i64 0] 205)).setCells wr.heap.size 0 [.int .i64 ne8_0, .int .i64 ne8_1, .int .i64 ne8_2, .int .i64 ne8_3]) ((wr.alloc (.cells #[.int .i64 0, .int .i64 0, .int .i64 0, .int .i64 0] 205)).setCells wr.heap.size 0 [.int .i64 ne8_0, .int .i64 ne8_1, .int .i64 ne8_2, .int .i64 ne8_3])) := Lib.hid (Lays.refl _ _)
        have hcz_0 : ((wr.alloc (.cells #[.int .i64 0, .int .i64 0, .int .i64 0, .int .i64 0] 205)).setCells wr.heap.size 0 [.int .i64 ne8_0, .int .i64 ne8_1, .int .i64 ne8_2, .int .i64 ne8_3]).cell? ⟨wr.heap.size, 0, none⟩ = some (.int .i64 ne8_0) := HXe.out.cell 0
        have hcz_1 : ((wr.alloc (.cells #[.int .i64 0, .int .i64 0, .int .i64 0, .int .i64 0] 205)).setCells wr.heap.size 0 [.int .i64 ne8_0, .int .i64 ne8_1, .int .i64 ne8_2, .int .i64 ne8_3]).cell? ⟨wr.heap.size, 1, none⟩ = some (.int .i64 ne8_1) := HXe.out.cell 1
        have hcz_2 : ((wr.alloc (.cells #[.int .i64 0, .int .i64 0, .int .i64 0, .int .i64 0] 205)).setCells wr.heap.size 0 [.int .i64 ne8_0, .int .i64 ne8_1, .int .i64 ne8_2, .int .i64 ne8_3]).cell? ⟨wr.heap.size, 2, none⟩ = some (.int .i64 ne8_2) := HXe.out.cell 2
        have hcz_3 : ((wr.alloc (.cells #[.int .i64 0, .int .i64 0, .int .i64 0, .int .i64 0] 205)).setCells wr.heap.size 0 [.int .i64 ne8_0, .int .i64 ne8_1, .int .i64 ne8_2, .int .i64 ne8_3]).cell? ⟨wr.heap.size, 3, none⟩ = some (.int .i64 ne8_3) := HXe.out.cell 3
        clear hbw
        go_wp2_with (with_reducible refine wpList_store_mid rfl 205 _ _ rfl wr.heap.size 0 (List.toArray ([.int .i64 ne8_0, .int .i64 ne8_1, .int .i64 ne8_2, .int .i64 ne8_3] : List Value)) rfl rfl HTZ.out hsZ.out h1Z.out ?_)
        refine (L_num base g ne8_0 _ _ HLe.out p1.out).mono ?_
        rintro e wb0 ⟨rfl, hL, hK⟩
        replace HLe := Lib.hid hL
        replace HKe := Lib.hid (HKe.out.trans hK)
        replace HKc := Lib.hid (HKc.out.trans hK)
        have hcy0 : wb0.cell? ⟨wr.heap.size, 1, none⟩ = some (.int .i64 ne8_1) := (HXe.out.keeps HKc.out.keeps (by decide)).cell 1
        clear hL hK
        go_wp2_with fail
        refine (L_num base g ne8_1 _ _ HLe.out p2.out).mono ?_
        rintro e wb1 ⟨rfl, hL, hK⟩
        replace HLe := Lib.hid hL
        replace HKe := Lib.hid (HKe.out.trans hK)
        replace HKc := Lib.hid (HKc.out.trans hK)
        have hcy1 : wb1.cell? ⟨wr.heap.size, 2, none⟩ = some (.int .i64 ne8_2) := (HXe.out.keeps HKc.out.keeps (by decide)).cell 2
        clear hL hK
        go_wp2_with fail
        refine (L_num base g ne8_2 _ _ HLe.out p3.out).mono ?_
        rintro e wb2 ⟨rfl, hL, hK⟩
        replace HLe := Lib.hid hL
        replace HKe := Lib.hid (HKe.out.trans hK)
        replace HKc := Lib.hid (HKc.out.trans hK)
        have hcy2 : wb2.cell? ⟨wr.heap.size, 3, none⟩ = some (.int .i64 ne8_3) := (HXe.out.keeps HKc.out.keeps (by decide)).cell 3
        clear hL hK
        go_wp2_with fail
        refine (L_num base g ne8_3 _ _ HLe.out p4.out).mono ?_
        rintro e wb3 ⟨rfl, hL, hK⟩
        replace HLe := Lib.hid hL
        replace HKe := Lib.hid (HKe.out.trans hK)
        clear hL hK
        go_wp2
        go_roundw
        case rel => exact ⟨j + 1, by omega, by go_num, Lib.hid (by rw [HQ.out]; show LayAt _ _ _ (lays [.num, .num, .num, .num] _ _); simp only [lays]; exact HLe.out), HKe⟩
        case measure => simp [intOf]; omega
      obtain rfl : j = r8.length := by omega
      replace HL : Hid (LayAt wr base g (lay (.rows shLease) (.rows r8) (lay (.rows shDone) (.rows r7) (lay (.rows shGrant) (.rows r6) (lay (.rows shMember) (.rows r5) (lay (.rows [.text]) (.rows r4) (lay (.rows shTable) (.rows r3) (lay (.rows shSchema) (.rows r2) (lay (.num) (.int n1) (lay (.num) (.int n0) s)))))))))) := Lib.hid (by rw [lay_rows_ok H08.out.1 H08.out.2]; exact HL.out)
      have hcr2_0 : wr.cell? ⟨w.heap.size, 9, none⟩ = some (.int .i64 n9) := HBr.out.cell 9
      go_wp2_with fail
      refine (L_num base g n9 _ _ HL.out q10.out).mono ?_
      rintro e w2 ⟨rfl, hL, hK⟩
      replace HL := Lib.hid hL
      replace HK := Lib.hid (HK.out.trans hK)
      clear hL hK
      go_wp2
      go_end0
      exact ⟨rfl, ⟨_, HL.out, rfl, fun _ => rfl⟩, HA.out.trans HK.out⟩

end Go.Proofs.Yteohhgkehkmgcaa
