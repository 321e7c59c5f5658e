/- The walks of the program's reader: lists and structs. Printed by mkre.py. -/
import Derived.Test.YteohhgkehkmgcaaRe5
namespace Go.Proofs.Yteohhgkehkmgcaa
open Go.RowKit Le
set_option maxRecDepth 100000
set_option linter.unusedVariables false
set_option linter.unusedSimpArgs false

set_option maxHeartbeats 1600000 in
theorem R_command (base g : Nat) (l : List UInt8) (w : World) (h : RdAt w base g l) :
    Calls Try.prog 52 #[.pointer (some ⟨g, 0, none⟩)] w fun e w' => SEnd shCommand l [150, 9] w' base g e ∧ Rds base w w' := by
  have hi : (Try.prog.info? 49).map (·.size) = some 17 := by kernel_rfl
  replace hi := Lib.hid hi
  have hlt := h.lt
  have HR := Lib.hid (h.below_ ((Below.refl _ _).alloc (Nat.le_refl _) (.cells #[.int .i64 0, .string ⟨#[]⟩, .string ⟨#[]⟩, .string ⟨#[]⟩, .string ⟨#[]⟩, .string ⟨#[]⟩, .slice none 0 0, .string ⟨#[]⟩, .int .i64 0, .slice none 0 0, .int .i64 0, .int .i64 0, .string ⟨#[]⟩, .string ⟨#[]⟩, .string ⟨#[]⟩, .int .i64 0, .bool false] 49)))
  have HX := Lib.hid (Blk.new w 49 [.int .i64 0, .string ⟨#[]⟩, .string ⟨#[]⟩, .string ⟨#[]⟩, .string ⟨#[]⟩, .string ⟨#[]⟩, .slice none 0 0, .string ⟨#[]⟩, .int .i64 0, .slice none 0 0, .int .i64 0, .int .i64 0, .string ⟨#[]⟩, .string ⟨#[]⟩, .string ⟨#[]⟩, .int .i64 0, .bool false])
  have HB : Hid (Below base w (w.alloc (.cells #[.int .i64 0, .string ⟨#[]⟩, .string ⟨#[]⟩, .string ⟨#[]⟩, .string ⟨#[]⟩, .string ⟨#[]⟩, .slice none 0 0, .string ⟨#[]⟩, .int .i64 0, .slice none 0 0, .int .i64 0, .int .i64 0, .string ⟨#[]⟩, .string ⟨#[]⟩, .string ⟨#[]⟩, .int .i64 0, .bool false] 49))) := Lib.hid ((Below.refl _ _).alloc hlt _)
  have HK : Hid (Keeps [137, 229] w (w.alloc (.cells #[.int .i64 0, .string ⟨#[]⟩, .string ⟨#[]⟩, .string ⟨#[]⟩, .string ⟨#[]⟩, .string ⟨#[]⟩, .slice none 0 0, .string ⟨#[]⟩, .int .i64 0, .slice none 0 0, .int .i64 0, .int .i64 0, .string ⟨#[]⟩, .string ⟨#[]⟩, .string ⟨#[]⟩, .int .i64 0, .bool false] 49))) := Lib.hid (Keeps.alloc _ _)
  clear h
  go_enter Try.func52, Try.ntmps52
  go_wp2_with fail
  refine (R_num base g l _ HR.out).mono ?_
  rintro e w0 ⟨hE, hK⟩
  rcases hE with ⟨d0, l0, v0, hd, rfl, hv, hR⟩ | ⟨hd, rfl⟩
  rotate_left
  · refine ⟨rfl, .inr ⟨?_, rfl⟩, HB.out.trans hK.below, HK.out.trans hK.keeps⟩
    rw [shCommand, rds_none hd]
  replace HB := Lib.hid (HB.out.trans hK.below)
  replace HK := Lib.hid (HK.out.trans hK.keeps)
  replace HX := Lib.hid (HX.out.keeps hK.keeps (by decide))
  have hd0 := Lib.hid hd
  obtain ⟨n0, rfl, rfl⟩ := hv.num
  replace HR := Lib.hid hR
  have hsz0 := HK.out.size
  have hfz0 : w0.frozen? ⟨w.heap.size, 0, none⟩ = false := HX.out.frozen 0
  have hcx0_0 : w0.cell? ⟨w.heap.size, 0, none⟩ = some (.int .i64 0) := HX.out.cell 0
  clear hd hR hK hv
  have HY : Hid (Blk (w0.setCell ⟨w.heap.size, 0, none⟩ (.int .i64 n0)) w.heap.size 49 [.int .i64 n0, .string ⟨#[]⟩, .string ⟨#[]⟩, .string ⟨#[]⟩, .string ⟨#[]⟩, .string ⟨#[]⟩, .slice none 0 0, .string ⟨#[]⟩, .int .i64 0, .slice none 0 0, .int .i64 0, .int .i64 0, .string ⟨#[]⟩, .string ⟨#[]⟩, .string ⟨#[]⟩, .int .i64 0, .bool false]) := Lib.hid (HX.out.set_ 0 (.int .i64 n0))
  have HKA : Hid (Keeps [49] w0 (w0.setCell ⟨w.heap.size, 0, none⟩ (.int .i64 n0))) := Lib.hid ((Keeps.refl _ _).trans (Keeps.set_ HX.out.typ (by simp) (.int .i64 n0)))
  have HBA : Hid (Below w.heap.size w0 (w0.setCell ⟨w.heap.size, 0, none⟩ (.int .i64 n0))) := Lib.hid ((Below.refl w.heap.size w0).setCell (Nat.le_refl _) _)
  replace HX := HY
  replace HR := Lib.hid (HR.out.keeps HKA.out (HBA.out.mono hlt) (by decide) (by decide) (by decide))
  replace HB := Lib.hid (HB.out.trans (HBA.out.mono hlt))
  replace HK := Lib.hid (HK.out.below_new HBA.out)
  clear HY HKA HBA
  go_wp2_with fail
  refine (R_text base g l0 _ HR.out).mono ?_
  rintro e w1 ⟨hE, hK⟩
  rcases hE with ⟨d1, l1, v1, hd, rfl, hv, hR⟩ | ⟨hd, rfl⟩
  rotate_left
  · refine ⟨rfl, .inr ⟨?_, rfl⟩, HB.out.trans hK.below, HK.out.trans hK.keeps⟩
    rw [shCommand, rds_some hd0.out, rds_none hd]
    rfl
  replace HB := Lib.hid (HB.out.trans hK.below)
  replace HK := Lib.hid (HK.out.trans hK.keeps)
  replace HX := Lib.hid (HX.out.keeps hK.keeps (by decide))
  have hd1 := Lib.hid hd
  obtain ⟨b1, rfl, rfl⟩ := hv.txt
  replace HR := Lib.hid hR
  have hsz1 := HK.out.size
  have hfz1 : w1.frozen? ⟨w.heap.size, 1, none⟩ = false := HX.out.frozen 1
  have hcx1_0 : w1.cell? ⟨w.heap.size, 1, none⟩ = some (.string ⟨#[]⟩) := HX.out.cell 1
  clear hd hR hK hv
  have HY : Hid (Blk (w1.setCell ⟨w.heap.size, 1, none⟩ (.string (text b1))) w.heap.size 49 [.int .i64 n0, .string (text b1), .string ⟨#[]⟩, .string ⟨#[]⟩, .string ⟨#[]⟩, .string ⟨#[]⟩, .slice none 0 0, .string ⟨#[]⟩, .int .i64 0, .slice none 0 0, .int .i64 0, .int .i64 0, .string ⟨#[]⟩, .string ⟨#[]⟩, .string ⟨#[]⟩, .int .i64 0, .bool false]) := Lib.hid (HX.out.set_ 1 (.string (text b1)))
  have HKA : Hid (Keeps [49] w1 (w1.setCell ⟨w.heap.size, 1, none⟩ (.string (text b1)))) := Lib.hid ((Keeps.refl _ _).trans (Keeps.set_ HX.out.typ (by simp) (.string (text b1))))
  have HBA : Hid (Below w.heap.size w1 (w1.setCell ⟨w.heap.size, 1, none⟩ (.string (text b1)))) := Lib.hid ((Below.refl w.heap.size w1).setCell (Nat.le_refl _) _)
  replace HX := HY
  replace HR := Lib.hid (HR.out.keeps HKA.out (HBA.out.mono hlt) (by decide) (by decide) (by decide))
  replace HB := Lib.hid (HB.out.trans (HBA.out.mono hlt))
  replace HK := Lib.hid (HK.out.below_new HBA.out)
  clear HY HKA HBA
  go_wp2_with fail
  refine (R_text base g l1 _ HR.out).mono ?_
  rintro e w2 ⟨hE, hK⟩
  rcases hE with ⟨d2, l2, v2, hd, rfl, hv, hR⟩ | ⟨hd, rfl⟩
  rotate_left
  · refine ⟨rfl, .inr ⟨?_, rfl⟩, HB.out.trans hK.below, HK.out.trans hK.keeps⟩
    rw [shCommand, rds_some hd0.out, rds_some hd1.out, rds_none hd]
    rfl
  replace HB := Lib.hid (HB.out.trans hK.below)
  replace HK := Lib.hid (HK.out.trans hK.keeps)
  replace HX := Lib.hid (HX.out.keeps hK.keeps (by decide))
  have hd2 := Lib.hid hd
  obtain ⟨b2, rfl, rfl⟩ := hv.txt
  replace HR := Lib.hid hR
  have hsz2 := HK.out.size
  have hfz2 : w2.frozen? ⟨w.heap.size, 2, none⟩ = false := HX.out.frozen 2
  have hcx2_0 : w2.cell? ⟨w.heap.size, 2, none⟩ = some (.string ⟨#[]⟩) := HX.out.cell 2
  clear hd hR hK hv
  have HY : Hid (Blk (w2.setCell ⟨w.heap.size, 2, none⟩ (.string (text b2))) w.heap.size 49 [.int .i64 n0, .string (text b1), .string (text b2), .string ⟨#[]⟩, .string ⟨#[]⟩, .string ⟨#[]⟩, .slice none 0 0, .string ⟨#[]⟩, .int .i64 0, .slice none 0 0, .int .i64 0, .int .i64 0, .string ⟨#[]⟩, .string ⟨#[]⟩, .string ⟨#[]⟩, .int .i64 0, .bool false]) := Lib.hid (HX.out.set_ 2 (.string (text b2)))
  have HKA : Hid (Keeps [49] w2 (w2.setCell ⟨w.heap.size, 2, none⟩ (.string (text b2)))) := Lib.hid ((Keeps.refl _ _).trans (Keeps.set_ HX.out.typ (by simp) (.string (text b2))))
  have HBA : Hid (Below w.heap.size w2 (w2.setCell ⟨w.heap.size, 2, none⟩ (.string (text b2)))) := Lib.hid ((Below.refl w.heap.size w2).setCell (Nat.le_refl _) _)
  replace HX := HY
  replace HR := Lib.hid (HR.out.keeps HKA.out (HBA.out.mono hlt) (by decide) (by decide) (by decide))
  replace HB := Lib.hid (HB.out.trans (HBA.out.mono hlt))
  replace HK := Lib.hid (HK.out.below_new HBA.out)
  clear HY HKA HBA
  go_wp2_with fail
  refine (R_text base g l2 _ HR.out).mono ?_
  rintro e w3 ⟨hE, hK⟩
  rcases hE with ⟨d3, l3, v3, hd, rfl, hv, hR⟩ | ⟨hd, rfl⟩
  rotate_left
  · refine ⟨rfl, .inr ⟨?_, rfl⟩, HB.out.trans hK.below, HK.out.trans hK.keeps⟩
    rw [shCommand, rds_some hd0.out, rds_some hd1.out, rds_some hd2.out, rds_none hd]
    rfl
  replace HB := Lib.hid (HB.out.trans hK.below)
  replace HK := Lib.hid (HK.out.trans hK.keeps)
  replace HX := Lib.hid (HX.out.keeps hK.keeps (by decide))
  have hd3 := Lib.hid hd
  obtain ⟨b3, rfl, rfl⟩ := hv.txt
  replace HR := Lib.hid hR
  have hsz3 := HK.out.size
  have hfz3 : w3.frozen? ⟨w.heap.size, 3, none⟩ = false := HX.out.frozen 3
  have hcx3_0 : w3.cell? ⟨w.heap.size, 3, none⟩ = some (.string ⟨#[]⟩) := HX.out.cell 3
  clear hd hR hK hv
  have HY : Hid (Blk (w3.setCell ⟨w.heap.size, 3, none⟩ (.string (text b3))) w.heap.size 49 [.int .i64 n0, .string (text b1), .string (text b2), .string (text b3), .string ⟨#[]⟩, .string ⟨#[]⟩, .slice none 0 0, .string ⟨#[]⟩, .int .i64 0, .slice none 0 0, .int .i64 0, .int .i64 0, .string ⟨#[]⟩, .string ⟨#[]⟩, .string ⟨#[]⟩, .int .i64 0, .bool false]) := Lib.hid (HX.out.set_ 3 (.string (text b3)))
  have HKA : Hid (Keeps [49] w3 (w3.setCell ⟨w.heap.size, 3, none⟩ (.string (text b3)))) := Lib.hid ((Keeps.refl _ _).trans (Keeps.set_ HX.out.typ (by simp) (.string (text b3))))
  have HBA : Hid (Below w.heap.size w3 (w3.setCell ⟨w.heap.size, 3, none⟩ (.string (text b3)))) := Lib.hid ((Below.refl w.heap.size w3).setCell (Nat.le_refl _) _)
  replace HX := HY
  replace HR := Lib.hid (HR.out.keeps HKA.out (HBA.out.mono hlt) (by decide) (by decide) (by decide))
  replace HB := Lib.hid (HB.out.trans (HBA.out.mono hlt))
  replace HK := Lib.hid (HK.out.below_new HBA.out)
  clear HY HKA HBA
  go_wp2_with fail
  refine (R_text base g l3 _ HR.out).mono ?_
  rintro e w4 ⟨hE, hK⟩
  rcases hE with ⟨d4, l4, v4, hd, rfl, hv, hR⟩ | ⟨hd, rfl⟩
  rotate_left
  · refine ⟨rfl, .inr ⟨?_, rfl⟩, HB.out.trans hK.below, HK.out.trans hK.keeps⟩
    rw [shCommand, rds_some hd0.out, rds_some hd1.out, rds_some hd2.out, rds_some hd3.out, rds_none hd]
    rfl
  replace HB := Lib.hid (HB.out.trans hK.below)
  replace HK := Lib.hid (HK.out.trans hK.keeps)
  replace HX := Lib.hid (HX.out.keeps hK.keeps (by decide))
  have hd4 := Lib.hid hd
  obtain ⟨b4, rfl, rfl⟩ := hv.txt
  replace HR := Lib.hid hR
  have hsz4 := HK.out.size
  have hfz4 : w4.frozen? ⟨w.heap.size, 4, none⟩ = false := HX.out.frozen 4
  have hcx4_0 : w4.cell? ⟨w.heap.size, 4, none⟩ = some (.string ⟨#[]⟩) := HX.out.cell 4
  clear hd hR hK hv
  have HY : Hid (Blk (w4.setCell ⟨w.heap.size, 4, none⟩ (.string (text b4))) w.heap.size 49 [.int .i64 n0, .string (text b1), .string (text b2), .string (text b3), .string (text b4), .string ⟨#[]⟩, .slice none 0 0, .string ⟨#[]⟩, .int .i64 0, .slice none 0 0, .int .i64 0, .int .i64 0, .string ⟨#[]⟩, .string ⟨#[]⟩, .string ⟨#[]⟩, .int .i64 0, .bool false]) := Lib.hid (HX.out.set_ 4 (.string (text b4)))
  have HKA : Hid (Keeps [49] w4 (w4.setCell ⟨w.heap.size, 4, none⟩ (.string (text b4)))) := Lib.hid ((Keeps.refl _ _).trans (Keeps.set_ HX.out.typ (by simp) (.string (text b4))))
  have HBA : Hid (Below w.heap.size w4 (w4.setCell ⟨w.heap.size, 4, none⟩ (.string (text b4)))) := Lib.hid ((Below.refl w.heap.size w4).setCell (Nat.le_refl _) _)
  replace HX := HY
  replace HR := Lib.hid (HR.out.keeps HKA.out (HBA.out.mono hlt) (by decide) (by decide) (by decide))
  replace HB := Lib.hid (HB.out.trans (HBA.out.mono hlt))
  replace HK := Lib.hid (HK.out.below_new HBA.out)
  clear HY HKA HBA
  go_wp2_with fail
  refine (R_text base g l4 _ HR.out).mono ?_
  rintro e w5 ⟨hE, hK⟩
  rcases hE with ⟨d5, l5, v5, hd, rfl, hv, hR⟩ | ⟨hd, rfl⟩
  rotate_left
  · refine ⟨rfl, .inr ⟨?_, rfl⟩, HB.out.trans hK.below, HK.out.trans hK.keeps⟩
    rw [shCommand, rds_some hd0.out, rds_some hd1.out, rds_some hd2.out, rds_some hd3.out, rds_some hd4.out, rds_none hd]
    rfl
  replace HB := Lib.hid (HB.out.trans hK.below)
  replace HK := Lib.hid (HK.out.trans hK.keeps)
  replace HX := Lib.hid (HX.out.keeps hK.keeps (by decide))
  have hd5 := Lib.hid hd
  obtain ⟨b5, rfl, rfl⟩ := hv.txt
  replace HR := Lib.hid hR
  have hsz5 := HK.out.size
  have hfz5 : w5.frozen? ⟨w.heap.size, 5, none⟩ = false := HX.out.frozen 5
  have hcx5_0 : w5.cell? ⟨w.heap.size, 5, none⟩ = some (.string ⟨#[]⟩) := HX.out.cell 5
  clear hd hR hK hv
  have HY : Hid (Blk (w5.setCell ⟨w.heap.size, 5, none⟩ (.string (text b5))) w.heap.size 49 [.int .i64 n0, .string (text b1), .string (text b2), .string (text b3), .string (text b4), .string (text b5), .slice none 0 0, .string ⟨#[]⟩, .int .i64 0, .slice none 0 0, .int .i64 0, .int .i64 0, .string ⟨#[]⟩, .string ⟨#[]⟩, .string ⟨#[]⟩, .int .i64 0, .bool false]) := Lib.hid (HX.out.set_ 5 (.string (text b5)))
  have HKA : Hid (Keeps [49] w5 (w5.setCell ⟨w.heap.size, 5, none⟩ (.string (text b5)))) := Lib.hid ((Keeps.refl _ _).trans (Keeps.set_ HX.out.typ (by simp) (.string (text b5))))
  have HBA : Hid (Below w.heap.size w5 (w5.setCell ⟨w.heap.size, 5, none⟩ (.string (text b5)))) := Lib.hid ((Below.refl w.heap.size w5).setCell (Nat.le_refl _) _)
  replace HX := HY
  replace HR := Lib.hid (HR.out.keeps HKA.out (HBA.out.mono hlt) (by decide) (by decide) (by decide))
  replace HB := Lib.hid (HB.out.trans (HBA.out.mono hlt))
  replace HK := Lib.hid (HK.out.below_new HBA.out)
  clear HY HKA HBA
  go_wp2_with fail
  refine (R_few_Column base g l5 _ HR.out).mono ?_
  rintro e w6 ⟨hE, hK⟩
  rcases hE with ⟨d6, l6, v6, hd, rfl, hv, hR⟩ | ⟨hd, rfl⟩
  rotate_left
  · refine ⟨rfl, .inr ⟨?_, rfl⟩, HB.out.trans hK.below, HK.out.trans hK.keeps⟩
    rw [shCommand, rds_some hd0.out, rds_some hd1.out, rds_some hd2.out, rds_some hd3.out, rds_some hd4.out, rds_some hd5.out, rds_none hd]
    rfl
  replace HB := Lib.hid (HB.out.trans hK.below)
  replace HK := Lib.hid (HK.out.trans hK.keeps)
  replace HX := Lib.hid (HX.out.keeps hK.keeps (by decide))
  have hd6 := Lib.hid hd
  obtain ⟨r6, A6, k6, rfl, rfl, R6⟩ := hv.rows
  replace R6 := Lib.hid R6
  replace HR := Lib.hid hR
  have hsz6 := HK.out.size
  have hfz6 : w6.frozen? ⟨w.heap.size, 6, none⟩ = false := HX.out.frozen 6
  have hcx6_0 : w6.cell? ⟨w.heap.size, 6, none⟩ = some (.slice none 0 0) := HX.out.cell 6
  clear hd hR hK hv
  have HY : Hid (Blk (w6.setCell ⟨w.heap.size, 6, none⟩ (.slice A6 r6.length k6)) w.heap.size 49 [.int .i64 n0, .string (text b1), .string (text b2), .string (text b3), .string (text b4), .string (text b5), .slice A6 r6.length k6, .string ⟨#[]⟩, .int .i64 0, .slice none 0 0, .int .i64 0, .int .i64 0, .string ⟨#[]⟩, .string ⟨#[]⟩, .string ⟨#[]⟩, .int .i64 0, .bool false]) := Lib.hid (HX.out.set_ 6 (.slice A6 r6.length k6))
  have HKA : Hid (Keeps [49] w6 (w6.setCell ⟨w.heap.size, 6, none⟩ (.slice A6 r6.length k6))) := Lib.hid ((Keeps.refl _ _).trans (Keeps.set_ HX.out.typ (by simp) (.slice A6 r6.length k6)))
  have HBA : Hid (Below w.heap.size w6 (w6.setCell ⟨w.heap.size, 6, none⟩ (.slice A6 r6.length k6))) := Lib.hid ((Below.refl w.heap.size w6).setCell (Nat.le_refl _) _)
  replace HX := HY
  replace HR := Lib.hid (HR.out.keeps HKA.out (HBA.out.mono hlt) (by decide) (by decide) (by decide))
  replace R6 := Lib.hid (rows_keeps R6.out HKA.out (by decide))
  replace HB := Lib.hid (HB.out.trans (HBA.out.mono hlt))
  replace HK := Lib.hid (HK.out.below_new HBA.out)
  clear HY HKA HBA
  go_wp2_with fail
  refine (R_rule base g l6 _ HR.out).mono ?_
  rintro e w7 ⟨hE, hK⟩
  rcases hE with ⟨ds7, l7, vs7, hd, rfl, hv, hR⟩ | ⟨hd, rfl⟩
  rotate_left
  · refine ⟨rfl, .inr ⟨?_, rfl⟩, HB.out.trans hK.below, HK.out.trans hK.keeps⟩
    rw [shCommand, rds_some hd0.out, rds_some hd1.out, rds_some hd2.out, rds_some hd3.out, rds_some hd4.out, rds_some hd5.out, rds_some hd6.out]
    have hn := rds_append_none [.num, .flag] hd
    replace hn : rds [.text, .num, .rows [.text], .whole, .whole, .text, .text, .text, .num, .flag] l6 = none := hn
    rw [hn]
    rfl
  replace HB := Lib.hid (HB.out.trans hK.below)
  replace HK := Lib.hid (HK.out.trans hK.keeps)
  replace HX := Lib.hid (HX.out.keeps hK.keeps (by decide))
  replace R6 := Lib.hid (rows_keeps R6.out hK.keeps (by decide))
  replace hv : Cels _ _ [.text, .num, .rows [.text], .whole, .whole, .text, .text, .text] ds7 vs7 := hv
  obtain ⟨_, _, _, _, rfl, rfl, c7, hv⟩ := hv.cons
  obtain ⟨_, _, _, _, rfl, rfl, c8, hv⟩ := hv.cons
  obtain ⟨_, _, _, _, rfl, rfl, c9, hv⟩ := hv.cons
  obtain ⟨_, _, _, _, rfl, rfl, c10, hv⟩ := hv.cons
  obtain ⟨_, _, _, _, rfl, rfl, c11, hv⟩ := hv.cons
  obtain ⟨_, _, _, _, rfl, rfl, c12, hv⟩ := hv.cons
  obtain ⟨_, _, _, _, rfl, rfl, c13, hv⟩ := hv.cons
  obtain ⟨_, _, _, _, rfl, rfl, c14, hv⟩ := hv.cons
  obtain ⟨rfl, rfl⟩ := hv.nil
  obtain ⟨b7, rfl, rfl⟩ := c7.txt
  obtain ⟨n8, rfl, rfl⟩ := c8.num
  obtain ⟨r9, A9, k9, rfl, rfl, R9⟩ := c9.rows
  replace R9 := Lib.hid R9
  obtain ⟨n10, rfl, rfl, HW10⟩ := c10.whole
  replace HW10 := Lib.hid HW10
  obtain ⟨n11, rfl, rfl, HW11⟩ := c11.whole
  replace HW11 := Lib.hid HW11
  obtain ⟨b12, rfl, rfl⟩ := c12.txt
  obtain ⟨b13, rfl, rfl⟩ := c13.txt
  obtain ⟨b14, rfl, rfl⟩ := c14.txt
  have hs7 := rds_append_some [.num, .flag] hd
  have hd7 : Hid (rds [.text, .num, .rows [.text], .whole, .whole, .text, .text, .text, .num, .flag] l6 = _) := Lib.hid hs7
  clear hs7
  replace HR := Lib.hid hR
  have hsz7 := HK.out.size
  have hfz7 : w7.frozen? ⟨w.heap.size, 7, none⟩ = false := HX.out.frozen 7
  have hcx7_0 : w7.cell? ⟨w.heap.size, 7, none⟩ = some (.string ⟨#[]⟩) := HX.out.cell 7
  have hcx7_1 : w7.cell? ⟨w.heap.size, 8, none⟩ = some (.int .i64 0) := HX.out.cell 8
  have hfz7_1 : w7.frozen? ⟨w.heap.size, 8, none⟩ = false := HX.out.frozen 8
  have hcx7_2 : w7.cell? ⟨w.heap.size, 9, none⟩ = some (.slice none 0 0) := HX.out.cell 9
  have hfz7_2 : w7.frozen? ⟨w.heap.size, 9, none⟩ = false := HX.out.frozen 9
  have hcx7_3 : w7.cell? ⟨w.heap.size, 10, none⟩ = some (.int .i64 0) := HX.out.cell 10
  have hfz7_3 : w7.frozen? ⟨w.heap.size, 10, none⟩ = false := HX.out.frozen 10
  have hcx7_4 : w7.cell? ⟨w.heap.size, 11, none⟩ = some (.int .i64 0) := HX.out.cell 11
  have hfz7_4 : w7.frozen? ⟨w.heap.size, 11, none⟩ = false := HX.out.frozen 11
  have hcx7_5 : w7.cell? ⟨w.heap.size, 12, none⟩ = some (.string ⟨#[]⟩) := HX.out.cell 12
  have hfz7_5 : w7.frozen? ⟨w.heap.size, 12, none⟩ = false := HX.out.frozen 12
  have hcx7_6 : w7.cell? ⟨w.heap.size, 13, none⟩ = some (.string ⟨#[]⟩) := HX.out.cell 13
  have hfz7_6 : w7.frozen? ⟨w.heap.size, 13, none⟩ = false := HX.out.frozen 13
  have hcx7_7 : w7.cell? ⟨w.heap.size, 14, none⟩ = some (.string ⟨#[]⟩) := HX.out.cell 14
  have hfz7_7 : w7.frozen? ⟨w.heap.size, 14, none⟩ = false := HX.out.frozen 14
  clear hd hR hK 
  have HY : Hid (Blk ((((((((w7.setCell ⟨w.heap.size, 7, none⟩ (.string (text b7))).setCell ⟨w.heap.size, 8, none⟩ (.int .i64 n8)).setCell ⟨w.heap.size, 9, none⟩ (.slice A9 r9.length k9)).setCell ⟨w.heap.size, 10, none⟩ (.int .i64 n10)).setCell ⟨w.heap.size, 11, none⟩ (.int .i64 n11)).setCell ⟨w.heap.size, 12, none⟩ (.string (text b12))).setCell ⟨w.heap.size, 13, none⟩ (.string (text b13))).setCell ⟨w.heap.size, 14, none⟩ (.string (text b14))) w.heap.size 49 [.int .i64 n0, .string (text b1), .string (text b2), .string (text b3), .string (text b4), .string (text b5), .slice A6 r6.length k6, .string (text b7), .int .i64 n8, .slice A9 r9.length k9, .int .i64 n10, .int .i64 n11, .string (text b12), .string (text b13), .string (text b14), .int .i64 0, .bool false]) := Lib.hid ((((((((HX.out.set_ 7 (.string (text b7))).set_ 8 (.int .i64 n8)).set_ 9 (.slice A9 r9.length k9)).set_ 10 (.int .i64 n10)).set_ 11 (.int .i64 n11)).set_ 12 (.string (text b12))).set_ 13 (.string (text b13))).set_ 14 (.string (text b14)))
  have HKA : Hid (Keeps [49] w7 ((((((((w7.setCell ⟨w.heap.size, 7, none⟩ (.string (text b7))).setCell ⟨w.heap.size, 8, none⟩ (.int .i64 n8)).setCell ⟨w.heap.size, 9, none⟩ (.slice A9 r9.length k9)).setCell ⟨w.heap.size, 10, none⟩ (.int .i64 n10)).setCell ⟨w.heap.size, 11, none⟩ (.int .i64 n11)).setCell ⟨w.heap.size, 12, none⟩ (.string (text b12))).setCell ⟨w.heap.size, 13, none⟩ (.string (text b13))).setCell ⟨w.heap.size, 14, none⟩ (.string (text b14)))) := Lib.hid (((((((((Keeps.refl _ _).trans (Keeps.set_ HX.out.typ (by simp) (.string (text b7)))).trans (Keeps.set_ (HX.out.set_ 7 (.string (text b7))).typ (by simp) (.int .i64 n8))).trans (Keeps.set_ ((HX.out.set_ 7 (.string (text b7))).set_ 8 (.int .i64 n8)).typ (by simp) (.slice A9 r9.length k9))).trans (Keeps.set_ (((HX.out.set_ 7 (.string (text b7))).set_ 8 (.int .i64 n8)).set_ 9 (.slice A9 r9.length k9)).typ (by simp) (.int .i64 n10))).trans (Keeps.set_ ((((HX.out.set_ 7 (.string (text b7))).set_ 8 (.int .i64 n8)).set_ 9 (.slice A9 r9.length k9)).set_ 10 (.int .i64 n10)).typ (by simp) (.int .i64 n11))).trans (Keeps.set_ (((((HX.out.set_ 7 (.string (text b7))).set_ 8 (.int .i64 n8)).set_ 9 (.slice A9 r9.length k9)).set_ 10 (.int .i64 n10)).set_ 11 (.int .i64 n11)).typ (by simp) (.string (text b12)))).trans (Keeps.set_ ((((((HX.out.set_ 7 (.string (text b7))).set_ 8 (.int .i64 n8)).set_ 9 (.slice A9 r9.length k9)).set_ 10 (.int .i64 n10)).set_ 11 (.int .i64 n11)).set_ 12 (.string (text b12))).typ (by simp) (.string (text b13)))).trans (Keeps.set_ (((((((HX.out.set_ 7 (.string (text b7))).set_ 8 (.int .i64 n8)).set_ 9 (.slice A9 r9.length k9)).set_ 10 (.int .i64 n10)).set_ 11 (.int .i64 n11)).set_ 12 (.string (text b12))).set_ 13 (.string (text b13))).typ (by simp) (.string (text b14))))
  have HBA : Hid (Below w.heap.size w7 ((((((((w7.setCell ⟨w.heap.size, 7, none⟩ (.string (text b7))).setCell ⟨w.heap.size, 8, none⟩ (.int .i64 n8)).setCell ⟨w.heap.size, 9, none⟩ (.slice A9 r9.length k9)).setCell ⟨w.heap.size, 10, none⟩ (.int .i64 n10)).setCell ⟨w.heap.size, 11, none⟩ (.int .i64 n11)).setCell ⟨w.heap.size, 12, none⟩ (.string (text b12))).setCell ⟨w.heap.size, 13, none⟩ (.string (text b13))).setCell ⟨w.heap.size, 14, none⟩ (.string (text b14)))) := Lib.hid (((((((((Below.refl w.heap.size w7).setCell (Nat.le_refl _) _).setCell (Nat.le_refl _) _).setCell (Nat.le_refl _) _).setCell (Nat.le_refl _) _).setCell (Nat.le_refl _) _).setCell (Nat.le_refl _) _).setCell (Nat.le_refl _) _).setCell (Nat.le_refl _) _)
  replace HX := HY
  replace HR := Lib.hid (HR.out.keeps HKA.out (HBA.out.mono hlt) (by decide) (by decide) (by decide))
  replace R6 := Lib.hid (rows_keeps R6.out HKA.out (by decide))
  replace R9 := Lib.hid (rows_keeps R9.out HKA.out (by decide))
  replace HB := Lib.hid (HB.out.trans (HBA.out.mono hlt))
  replace HK := Lib.hid (HK.out.below_new HBA.out)
  clear HY HKA HBA
  go_wp2_with fail
  refine (R_num base g l7 _ HR.out).mono ?_
  rintro e w8 ⟨hE, hK⟩
  rcases hE with ⟨d15, l8, v15, hd, rfl, hv, hR⟩ | ⟨hd, rfl⟩
  rotate_left
  · refine ⟨rfl, .inr ⟨?_, rfl⟩, HB.out.trans hK.below, HK.out.trans hK.keeps⟩
    rw [shCommand, rds_some hd0.out, rds_some hd1.out, rds_some hd2.out, rds_some hd3.out, rds_some hd4.out, rds_some hd5.out, rds_some hd6.out, hd7.out, rds_none hd]
    rfl
  replace HB := Lib.hid (HB.out.trans hK.below)
  replace HK := Lib.hid (HK.out.trans hK.keeps)
  replace HX := Lib.hid (HX.out.keeps hK.keeps (by decide))
  replace R6 := Lib.hid (rows_keeps R6.out hK.keeps (by decide))
  replace R9 := Lib.hid (rows_keeps R9.out hK.keeps (by decide))
  have hd8 := Lib.hid hd
  obtain ⟨n15, rfl, rfl⟩ := hv.num
  replace HR := Lib.hid hR
  have hsz8 := HK.out.size
  have hfz8 : w8.frozen? ⟨w.heap.size, 15, none⟩ = false := HX.out.frozen 15
  have hcx8_0 : w8.cell? ⟨w.heap.size, 15, none⟩ = some (.int .i64 0) := HX.out.cell 15
  clear hd hR hK hv
  have HY : Hid (Blk (w8.setCell ⟨w.heap.size, 15, none⟩ (.int .i64 n15)) w.heap.size 49 [.int .i64 n0, .string (text b1), .string (text b2), .string (text b3), .string (text b4), .string (text b5), .slice A6 r6.length k6, .string (text b7), .int .i64 n8, .slice A9 r9.length k9, .int .i64 n10, .int .i64 n11, .string (text b12), .string (text b13), .string (text b14), .int .i64 n15, .bool false]) := Lib.hid (HX.out.set_ 15 (.int .i64 n15))
  have HKA : Hid (Keeps [49] w8 (w8.setCell ⟨w.heap.size, 15, none⟩ (.int .i64 n15))) := Lib.hid ((Keeps.refl _ _).trans (Keeps.set_ HX.out.typ (by simp) (.int .i64 n15)))
  have HBA : Hid (Below w.heap.size w8 (w8.setCell ⟨w.heap.size, 15, none⟩ (.int .i64 n15))) := Lib.hid ((Below.refl w.heap.size w8).setCell (Nat.le_refl _) _)
  replace HX := HY
  replace HR := Lib.hid (HR.out.keeps HKA.out (HBA.out.mono hlt) (by decide) (by decide) (by decide))
  replace R6 := Lib.hid (rows_keeps R6.out HKA.out (by decide))
  replace R9 := Lib.hid (rows_keeps R9.out HKA.out (by decide))
  replace HB := Lib.hid (HB.out.trans (HBA.out.mono hlt))
  replace HK := Lib.hid (HK.out.below_new HBA.out)
  clear HY HKA HBA
  go_wp2_with fail
  refine (R_flag base g l8 _ HR.out).mono ?_
  rintro e w9 ⟨hE, hK⟩
  rcases hE with ⟨d16, l9, v16, hd, rfl, hv, hR⟩ | ⟨hd, rfl⟩
  rotate_left
  · refine ⟨rfl, .inr ⟨?_, rfl⟩, HB.out.trans hK.below, HK.out.trans hK.keeps⟩
    rw [shCommand, rds_some hd0.out, rds_some hd1.out, rds_some hd2.out, rds_some hd3.out, rds_some hd4.out, rds_some hd5.out, rds_some hd6.out, hd7.out, rds_some hd8.out, rds_none hd]
    rfl
  replace HB := Lib.hid (HB.out.trans hK.below)
  replace HK := Lib.hid (HK.out.trans hK.keeps)
  replace HX := Lib.hid (HX.out.keeps hK.keeps (by decide))
  replace R6 := Lib.hid (rows_keeps R6.out hK.keeps (by decide))
  replace R9 := Lib.hid (rows_keeps R9.out hK.keeps (by decide))
  have hd9 := Lib.hid hd
  obtain ⟨f16, rfl, rfl⟩ := hv.flag
  replace HR := Lib.hid hR
  have hsz9 := HK.out.size
  have hfz9 : w9.frozen? ⟨w.heap.size, 16, none⟩ = false := HX.out.frozen 16
  have hcx9_0 : w9.cell? ⟨w.heap.size, 16, none⟩ = some (.bool false) := HX.out.cell 16
  clear hd hR hK hv
  have HY : Hid (Blk (w9.setCell ⟨w.heap.size, 16, none⟩ (.bool f16)) w.heap.size 49 [.int .i64 n0, .string (text b1), .string (text b2), .string (text b3), .string (text b4), .string (text b5), .slice A6 r6.length k6, .string (text b7), .int .i64 n8, .slice A9 r9.length k9, .int .i64 n10, .int .i64 n11, .string (text b12), .string (text b13), .string (text b14), .int .i64 n15, .bool f16]) := Lib.hid (HX.out.set_ 16 (.bool f16))
  have HKA : Hid (Keeps [49] w9 (w9.setCell ⟨w.heap.size, 16, none⟩ (.bool f16))) := Lib.hid ((Keeps.refl _ _).trans (Keeps.set_ HX.out.typ (by simp) (.bool f16)))
  have HBA : Hid (Below w.heap.size w9 (w9.setCell ⟨w.heap.size, 16, none⟩ (.bool f16))) := Lib.hid ((Below.refl w.heap.size w9).setCell (Nat.le_refl _) _)
  replace HX := HY
  replace HR := Lib.hid (HR.out.keeps HKA.out (HBA.out.mono hlt) (by decide) (by decide) (by decide))
  replace R6 := Lib.hid (rows_keeps R6.out HKA.out (by decide))
  replace R9 := Lib.hid (rows_keeps R9.out HKA.out (by decide))
  replace HB := Lib.hid (HB.out.trans (HBA.out.mono hlt))
  replace HK := Lib.hid (HK.out.below_new HBA.out)
  clear HY HKA HBA
  have HRG := Lib.hid HX.out.range0
  have HTE : Hid (World.there _ w.heap.size 0 (List.toArray ([.int .i64 n0, .string (text b1), .string (text b2), .string (text b3), .string (text b4), .string (text b5), .slice A6 r6.length k6, .string (text b7), .int .i64 n8, .slice A9 r9.length k9, .int .i64 n10, .int .i64 n11, .string (text b12), .string (text b13), .string (text b14), .int .i64 n15, .bool f16] : List Value)).size) := Lib.hid (HX.out.there 0 17 (by simp))
  have hiV : Hid ((Try.prog.info? 49).map (·.size) = some (List.length ([.int .i64 n0, .string (text b1), .string (text b2), .string (text b3), .string (text b4), .string (text b5), .slice A6 r6.length k6, .string (text b7), .int .i64 n8, .slice A9 r9.length k9, .int .i64 n10, .int .i64 n11, .string (text b12), .string (text b13), .string (text b14), .int .i64 n15, .bool f16] : List Value))) := Lib.hid hi.out
  have hsV : Hid ((Try.prog.info? 49).map (·.size) = some (List.toArray ([.int .i64 n0, .string (text b1), .string (text b2), .string (text b3), .string (text b4), .string (text b5), .slice A6 r6.length k6, .string (text b7), .int .i64 n8, .slice A9 r9.length k9, .int .i64 n10, .int .i64 n11, .string (text b12), .string (text b13), .string (text b14), .int .i64 n15, .bool f16] : List Value)).size) := Lib.hid hi.out
  have h1V : Hid ((List.toArray ([.int .i64 n0, .string (text b1), .string (text b2), .string (text b3), .string (text b4), .string (text b5), .slice A6 r6.length k6, .string (text b7), .int .i64 n8, .slice A9 r9.length k9, .int .i64 n10, .int .i64 n11, .string (text b12), .string (text b13), .string (text b14), .int .i64 n15, .bool f16] : List Value)).all (·.oneCell') = true) := Lib.hid (all_oneCell_toArray (by simp [Value.oneCell']))
  go_wp2_with (first | (with_reducible refine wpList_load_mid rfl 49 _ rfl w.heap.size 0 rfl [.int .i64 n0, .string (text b1), .string (text b2), .string (text b3), .string (text b4), .string (text b5), .slice A6 r6.length k6, .string (text b7), .int .i64 n8, .slice A9 r9.length k9, .int .i64 n10, .int .i64 n11, .string (text b12), .string (text b13), .string (text b14), .int .i64 n15, .bool f16] _ HRG.out Try.underlying49 rfl hiV.out ?_) | (with_reducible refine wpList_store_mid rfl 49 _ _ rfl w.heap.size 0 (List.toArray ([.int .i64 n0, .string (text b1), .string (text b2), .string (text b3), .string (text b4), .string (text b5), .slice A6 r6.length k6, .string (text b7), .int .i64 n8, .slice A9 r9.length k9, .int .i64 n10, .int .i64 n11, .string (text b12), .string (text b13), .string (text b14), .int .i64 n15, .bool f16] : List Value)) rfl rfl HTE.out hsV.out h1V.out ?_))
  have HXE := Lib.hid (HX.out.setCells0 [.int .i64 n0, .string (text b1), .string (text b2), .string (text b3), .string (text b4), .string (text b5), .slice A6 r6.length k6, .string (text b7), .int .i64 n8, .slice A9 r9.length k9, .int .i64 n10, .int .i64 n11, .string (text b12), .string (text b13), .string (text b14), .int .i64 n15, .bool f16] rfl)
  have HKE := Lib.hid (Keeps.setCells (ts := [49]) (t := 49) (by simp) HX.out.typ 0 [.int .i64 n0, .string (text b1), .string (text b2), .string (text b3), .string (text b4), .string (text b5), .slice A6 r6.length k6, .string (text b7), .int .i64 n8, .slice A9 r9.length k9, .int .i64 n10, .int .i64 n11, .string (text b12), .string (text b13), .string (text b14), .int .i64 n15, .bool f16])
  refine bodyPost_ret (results_cell rfl _ _ w.heap.size rfl [.int .i64 n0, .string (text b1), .string (text b2), .string (text b3), .string (text b4), .string (text b5), .slice A6 r6.length k6, .string (text b7), .int .i64 n8, .slice A9 r9.length k9, .int .i64 n10, .int .i64 n11, .string (text b12), .string (text b13), .string (text b14), .int .i64 n15, .bool f16] _ HXE.out.range0 Try.underlying49 rfl hi.out) rfl ?_
  refine ⟨.inl ⟨[.int n0, .text b1, .text b2, .text b3, .text b4, .text b5, .rows r6, .text b7, .int n8, .rows r9, .int n10, .int n11, .text b12, .text b13, .text b14, .int n15, .flag f16], l9, [.int .i64 n0, .string (text b1), .string (text b2), .string (text b3), .string (text b4), .string (text b5), .slice A6 r6.length k6, .string (text b7), .int .i64 n8, .slice A9 r9.length k9, .int .i64 n10, .int .i64 n11, .string (text b12), .string (text b13), .string (text b14), .int .i64 n15, .bool f16], ?_, rfl, ?_, HR.out.keeps HKE.out (below_setCells_ hlt _ _) (by decide) (by decide) (by decide)⟩, HB.out.trans (below_setCells_ hlt _ _), HK.out.below_new (below_setCells_ (Nat.le_refl _) _ _)⟩
  · rw [shCommand, rds_some hd0.out, rds_some hd1.out, rds_some hd2.out, rds_some hd3.out, rds_some hd4.out, rds_some hd5.out, rds_some hd6.out, hd7.out, rds_some hd8.out, rds_some hd9.out, rds_nil]
    rfl
  · exact (Cels.mk (Cel.mk_num n0) (Cels.mk (Cel.mk_text b1) (Cels.mk (Cel.mk_text b2) (Cels.mk (Cel.mk_text b3) (Cels.mk (Cel.mk_text b4) (Cels.mk (Cel.mk_text b5) (Cels.mk (((Cel.mk_rows k6 R6.out).keeps HKE.out (by decide)).inT_more (by decide)) (Cels.mk (Cel.mk_text b7) (Cels.mk (Cel.mk_num n8) (Cels.mk (((Cel.mk_rows k9 R9.out).keeps HKE.out (by decide)).inT_more (by decide)) (Cels.mk (Cel.mk_whole HW10.out) (Cels.mk (Cel.mk_whole HW11.out) (Cels.mk (Cel.mk_text b12) (Cels.mk (Cel.mk_text b13) (Cels.mk (Cel.mk_text b14) (Cels.mk (Cel.mk_num n15) (Cels.mk (Cel.mk_flag f16) Cels.mk0)))))))))))))))))

end Go.Proofs.Yteohhgkehkmgcaa
