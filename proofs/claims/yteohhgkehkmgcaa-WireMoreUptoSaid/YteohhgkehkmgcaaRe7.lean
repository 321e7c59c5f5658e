/- The walks of the program's reader: lists and structs. Printed by mkre.py. -/
import Derived.Test.YteohhgkehkmgcaaRe6
namespace Go.Proofs.Yteohhgkehkmgcaa
open Go.RowKit Le
set_option maxRecDepth 100000
set_option linter.unusedVariables false
set_option linter.unusedSimpArgs false

set_option maxHeartbeats 1600000 in
theorem R_op (base g : Nat) (l : List UInt8) (w : World) (h : RdAt w base g l) :
    Calls Try.prog 44 #[.pointer (some ⟨g, 0, none⟩)] w fun e w' => SEnd shOp l [150, 9] w' base g e ∧ Rds base w w' := by
  have hi : (Try.prog.info? 51).map (·.size) = some 23 := by kernel_rfl
  replace hi := Lib.hid hi
  have hlt := h.lt
  have HR := Lib.hid (h.below_ ((Below.refl _ _).alloc (Nat.le_refl _) (.cells #[.int .i64 0, .int .i64 0, .int .i64 0, .int .i64 0, .string ⟨#[]⟩, .string ⟨#[]⟩, .string ⟨#[]⟩, .string ⟨#[]⟩, .string ⟨#[]⟩, .slice none 0 0, .string ⟨#[]⟩, .int .i64 0, .slice none 0 0, .int .i64 0, .int .i64 0, .string ⟨#[]⟩, .string ⟨#[]⟩, .string ⟨#[]⟩, .int .i64 0, .bool false, .int .i64 0, .int .i64 0, .int .i64 0] 51)))
  have HX := Lib.hid (Blk.new w 51 [.int .i64 0, .int .i64 0, .int .i64 0, .int .i64 0, .string ⟨#[]⟩, .string ⟨#[]⟩, .string ⟨#[]⟩, .string ⟨#[]⟩, .string ⟨#[]⟩, .slice none 0 0, .string ⟨#[]⟩, .int .i64 0, .slice none 0 0, .int .i64 0, .int .i64 0, .string ⟨#[]⟩, .string ⟨#[]⟩, .string ⟨#[]⟩, .int .i64 0, .bool false, .int .i64 0, .int .i64 0, .int .i64 0])
  have HB : Hid (Below base w (w.alloc (.cells #[.int .i64 0, .int .i64 0, .int .i64 0, .int .i64 0, .string ⟨#[]⟩, .string ⟨#[]⟩, .string ⟨#[]⟩, .string ⟨#[]⟩, .string ⟨#[]⟩, .slice none 0 0, .string ⟨#[]⟩, .int .i64 0, .slice none 0 0, .int .i64 0, .int .i64 0, .string ⟨#[]⟩, .string ⟨#[]⟩, .string ⟨#[]⟩, .int .i64 0, .bool false, .int .i64 0, .int .i64 0, .int .i64 0] 51))) := Lib.hid ((Below.refl _ _).alloc hlt _)
  have HK : Hid (Keeps [137, 229] w (w.alloc (.cells #[.int .i64 0, .int .i64 0, .int .i64 0, .int .i64 0, .string ⟨#[]⟩, .string ⟨#[]⟩, .string ⟨#[]⟩, .string ⟨#[]⟩, .string ⟨#[]⟩, .slice none 0 0, .string ⟨#[]⟩, .int .i64 0, .slice none 0 0, .int .i64 0, .int .i64 0, .string ⟨#[]⟩, .string ⟨#[]⟩, .string ⟨#[]⟩, .int .i64 0, .bool false, .int .i64 0, .int .i64 0, .int .i64 0] 51))) := Lib.hid (Keeps.alloc _ _)
  clear h
  go_enter Try.func44, Try.ntmps44
  go_wp2_with fail
  refine (R_num base g l _ HR.out).mono ?_
  rintro e w0 ⟨hE, hK⟩
  rcases hE with ⟨d0, l0, v0, hd, rfl, hv, hR⟩ | ⟨hd, rfl⟩
  rotate_left
  · refine ⟨rfl, .inr ⟨?_, rfl⟩, HB.out.trans hK.below, HK.out.trans hK.keeps⟩
    rw [shOp, rds_none hd]
  replace HB := Lib.hid (HB.out.trans hK.below)
  replace HK := Lib.hid (HK.out.trans hK.keeps)
  replace HX := Lib.hid (HX.out.keeps hK.keeps (by decide))
  have hd0 := Lib.hid hd
  obtain ⟨n0, rfl, rfl⟩ := hv.num
  replace HR := Lib.hid hR
  have hsz0 := HK.out.size
  have hfz0 : w0.frozen? ⟨w.heap.size, 0, none⟩ = false := HX.out.frozen 0
  have hcx0_0 : w0.cell? ⟨w.heap.size, 0, none⟩ = some (.int .i64 0) := HX.out.cell 0
  clear hd hR hK hv
  have HY : Hid (Blk (w0.setCell ⟨w.heap.size, 0, none⟩ (.int .i64 n0)) w.heap.size 51 [.int .i64 n0, .int .i64 0, .int .i64 0, .int .i64 0, .string ⟨#[]⟩, .string ⟨#[]⟩, .string ⟨#[]⟩, .string ⟨#[]⟩, .string ⟨#[]⟩, .slice none 0 0, .string ⟨#[]⟩, .int .i64 0, .slice none 0 0, .int .i64 0, .int .i64 0, .string ⟨#[]⟩, .string ⟨#[]⟩, .string ⟨#[]⟩, .int .i64 0, .bool false, .int .i64 0, .int .i64 0, .int .i64 0]) := Lib.hid (HX.out.set_ 0 (.int .i64 n0))
  have HKA : Hid (Keeps [51] w0 (w0.setCell ⟨w.heap.size, 0, none⟩ (.int .i64 n0))) := Lib.hid ((Keeps.refl _ _).trans (Keeps.set_ HX.out.typ (by simp) (.int .i64 n0)))
  have HBA : Hid (Below w.heap.size w0 (w0.setCell ⟨w.heap.size, 0, none⟩ (.int .i64 n0))) := Lib.hid ((Below.refl w.heap.size w0).setCell (Nat.le_refl _) _)
  replace HX := HY
  replace HR := Lib.hid (HR.out.keeps HKA.out (HBA.out.mono hlt) (by decide) (by decide) (by decide))
  replace HB := Lib.hid (HB.out.trans (HBA.out.mono hlt))
  replace HK := Lib.hid (HK.out.below_new HBA.out)
  clear HY HKA HBA
  go_wp2_with fail
  refine (R_num base g l0 _ HR.out).mono ?_
  rintro e w1 ⟨hE, hK⟩
  rcases hE with ⟨d1, l1, v1, hd, rfl, hv, hR⟩ | ⟨hd, rfl⟩
  rotate_left
  · refine ⟨rfl, .inr ⟨?_, rfl⟩, HB.out.trans hK.below, HK.out.trans hK.keeps⟩
    rw [shOp, rds_some hd0.out, rds_none hd]
    rfl
  replace HB := Lib.hid (HB.out.trans hK.below)
  replace HK := Lib.hid (HK.out.trans hK.keeps)
  replace HX := Lib.hid (HX.out.keeps hK.keeps (by decide))
  have hd1 := Lib.hid hd
  obtain ⟨n1, rfl, rfl⟩ := hv.num
  replace HR := Lib.hid hR
  have hsz1 := HK.out.size
  have hfz1 : w1.frozen? ⟨w.heap.size, 1, none⟩ = false := HX.out.frozen 1
  have hcx1_0 : w1.cell? ⟨w.heap.size, 1, none⟩ = some (.int .i64 0) := HX.out.cell 1
  clear hd hR hK hv
  have HY : Hid (Blk (w1.setCell ⟨w.heap.size, 1, none⟩ (.int .i64 n1)) w.heap.size 51 [.int .i64 n0, .int .i64 n1, .int .i64 0, .int .i64 0, .string ⟨#[]⟩, .string ⟨#[]⟩, .string ⟨#[]⟩, .string ⟨#[]⟩, .string ⟨#[]⟩, .slice none 0 0, .string ⟨#[]⟩, .int .i64 0, .slice none 0 0, .int .i64 0, .int .i64 0, .string ⟨#[]⟩, .string ⟨#[]⟩, .string ⟨#[]⟩, .int .i64 0, .bool false, .int .i64 0, .int .i64 0, .int .i64 0]) := Lib.hid (HX.out.set_ 1 (.int .i64 n1))
  have HKA : Hid (Keeps [51] w1 (w1.setCell ⟨w.heap.size, 1, none⟩ (.int .i64 n1))) := Lib.hid ((Keeps.refl _ _).trans (Keeps.set_ HX.out.typ (by simp) (.int .i64 n1)))
  have HBA : Hid (Below w.heap.size w1 (w1.setCell ⟨w.heap.size, 1, none⟩ (.int .i64 n1))) := Lib.hid ((Below.refl w.heap.size w1).setCell (Nat.le_refl _) _)
  replace HX := HY
  replace HR := Lib.hid (HR.out.keeps HKA.out (HBA.out.mono hlt) (by decide) (by decide) (by decide))
  replace HB := Lib.hid (HB.out.trans (HBA.out.mono hlt))
  replace HK := Lib.hid (HK.out.below_new HBA.out)
  clear HY HKA HBA
  go_wp2_with fail
  refine (R_num base g l1 _ HR.out).mono ?_
  rintro e w2 ⟨hE, hK⟩
  rcases hE with ⟨d2, l2, v2, hd, rfl, hv, hR⟩ | ⟨hd, rfl⟩
  rotate_left
  · refine ⟨rfl, .inr ⟨?_, rfl⟩, HB.out.trans hK.below, HK.out.trans hK.keeps⟩
    rw [shOp, rds_some hd0.out, rds_some hd1.out, rds_none hd]
    rfl
  replace HB := Lib.hid (HB.out.trans hK.below)
  replace HK := Lib.hid (HK.out.trans hK.keeps)
  replace HX := Lib.hid (HX.out.keeps hK.keeps (by decide))
  have hd2 := Lib.hid hd
  obtain ⟨n2, rfl, rfl⟩ := hv.num
  replace HR := Lib.hid hR
  have hsz2 := HK.out.size
  have hfz2 : w2.frozen? ⟨w.heap.size, 2, none⟩ = false := HX.out.frozen 2
  have hcx2_0 : w2.cell? ⟨w.heap.size, 2, none⟩ = some (.int .i64 0) := HX.out.cell 2
  clear hd hR hK hv
  have HY : Hid (Blk (w2.setCell ⟨w.heap.size, 2, none⟩ (.int .i64 n2)) w.heap.size 51 [.int .i64 n0, .int .i64 n1, .int .i64 n2, .int .i64 0, .string ⟨#[]⟩, .string ⟨#[]⟩, .string ⟨#[]⟩, .string ⟨#[]⟩, .string ⟨#[]⟩, .slice none 0 0, .string ⟨#[]⟩, .int .i64 0, .slice none 0 0, .int .i64 0, .int .i64 0, .string ⟨#[]⟩, .string ⟨#[]⟩, .string ⟨#[]⟩, .int .i64 0, .bool false, .int .i64 0, .int .i64 0, .int .i64 0]) := Lib.hid (HX.out.set_ 2 (.int .i64 n2))
  have HKA : Hid (Keeps [51] w2 (w2.setCell ⟨w.heap.size, 2, none⟩ (.int .i64 n2))) := Lib.hid ((Keeps.refl _ _).trans (Keeps.set_ HX.out.typ (by simp) (.int .i64 n2)))
  have HBA : Hid (Below w.heap.size w2 (w2.setCell ⟨w.heap.size, 2, none⟩ (.int .i64 n2))) := Lib.hid ((Below.refl w.heap.size w2).setCell (Nat.le_refl _) _)
  replace HX := HY
  replace HR := Lib.hid (HR.out.keeps HKA.out (HBA.out.mono hlt) (by decide) (by decide) (by decide))
  replace HB := Lib.hid (HB.out.trans (HBA.out.mono hlt))
  replace HK := Lib.hid (HK.out.below_new HBA.out)
  clear HY HKA HBA
  go_wp2_with fail
  refine (R_command base g l2 _ HR.out).mono ?_
  rintro e w3 ⟨hE, hK⟩
  rcases hE with ⟨ds3, l3, vs3, hd, rfl, hv, hR⟩ | ⟨hd, rfl⟩
  rotate_left
  · refine ⟨rfl, .inr ⟨?_, rfl⟩, HB.out.trans hK.below, HK.out.trans hK.keeps⟩
    rw [shOp, rds_some hd0.out, rds_some hd1.out, rds_some hd2.out]
    have hn := rds_append_none [.num, .num, .num] hd
    replace hn : rds [.num, .text, .text, .text, .text, .text, .rows shColumn, .text, .num, .rows [.text], .whole, .whole, .text, .text, .text, .num, .flag, .num, .num, .num] l2 = none := hn
    rw [hn]
    rfl
  replace HB := Lib.hid (HB.out.trans hK.below)
  replace HK := Lib.hid (HK.out.trans hK.keeps)
  replace HX := Lib.hid (HX.out.keeps hK.keeps (by decide))
  replace hv : Cels _ _ [.num, .text, .text, .text, .text, .text, .rows shColumn, .text, .num, .rows [.text], .whole, .whole, .text, .text, .text, .num, .flag] ds3 vs3 := hv
  obtain ⟨_, _, _, _, rfl, rfl, c3, hv⟩ := hv.cons
  obtain ⟨_, _, _, _, rfl, rfl, c4, hv⟩ := hv.cons
  obtain ⟨_, _, _, _, rfl, rfl, c5, hv⟩ := hv.cons
  obtain ⟨_, _, _, _, rfl, rfl, c6, hv⟩ := hv.cons
  obtain ⟨_, _, _, _, rfl, rfl, c7, hv⟩ := hv.cons
  obtain ⟨_, _, _, _, rfl, rfl, c8, hv⟩ := hv.cons
  obtain ⟨_, _, _, _, rfl, rfl, c9, hv⟩ := hv.cons
  obtain ⟨_, _, _, _, rfl, rfl, c10, hv⟩ := hv.cons
  obtain ⟨_, _, _, _, rfl, rfl, c11, hv⟩ := hv.cons
  obtain ⟨_, _, _, _, rfl, rfl, c12, hv⟩ := hv.cons
  obtain ⟨_, _, _, _, rfl, rfl, c13, hv⟩ := hv.cons
  obtain ⟨_, _, _, _, rfl, rfl, c14, hv⟩ := hv.cons
  obtain ⟨_, _, _, _, rfl, rfl, c15, hv⟩ := hv.cons
  obtain ⟨_, _, _, _, rfl, rfl, c16, hv⟩ := hv.cons
  obtain ⟨_, _, _, _, rfl, rfl, c17, hv⟩ := hv.cons
  obtain ⟨_, _, _, _, rfl, rfl, c18, hv⟩ := hv.cons
  obtain ⟨_, _, _, _, rfl, rfl, c19, hv⟩ := hv.cons
  obtain ⟨rfl, rfl⟩ := hv.nil
  obtain ⟨n3, rfl, rfl⟩ := c3.num
  obtain ⟨b4, rfl, rfl⟩ := c4.txt
  obtain ⟨b5, rfl, rfl⟩ := c5.txt
  obtain ⟨b6, rfl, rfl⟩ := c6.txt
  obtain ⟨b7, rfl, rfl⟩ := c7.txt
  obtain ⟨b8, rfl, rfl⟩ := c8.txt
  obtain ⟨r9, A9, k9, rfl, rfl, R9⟩ := c9.rows
  replace R9 := Lib.hid R9
  obtain ⟨b10, rfl, rfl⟩ := c10.txt
  obtain ⟨n11, rfl, rfl⟩ := c11.num
  obtain ⟨r12, A12, k12, rfl, rfl, R12⟩ := c12.rows
  replace R12 := Lib.hid R12
  obtain ⟨n13, rfl, rfl, HW13⟩ := c13.whole
  replace HW13 := Lib.hid HW13
  obtain ⟨n14, rfl, rfl, HW14⟩ := c14.whole
  replace HW14 := Lib.hid HW14
  obtain ⟨b15, rfl, rfl⟩ := c15.txt
  obtain ⟨b16, rfl, rfl⟩ := c16.txt
  obtain ⟨b17, rfl, rfl⟩ := c17.txt
  obtain ⟨n18, rfl, rfl⟩ := c18.num
  obtain ⟨f19, rfl, rfl⟩ := c19.flag
  have hs3 := rds_append_some [.num, .num, .num] hd
  have hd3 : Hid (rds [.num, .text, .text, .text, .text, .text, .rows shColumn, .text, .num, .rows [.text], .whole, .whole, .text, .text, .text, .num, .flag, .num, .num, .num] l2 = _) := Lib.hid hs3
  clear hs3
  replace HR := Lib.hid hR
  have hsz3 := HK.out.size
  have hfz3 : w3.frozen? ⟨w.heap.size, 3, none⟩ = false := HX.out.frozen 3
  clear hd hR hK 
  have HY : Hid (Blk (w3.setCells w.heap.size 3 [.int .i64 n3, .string (text b4), .string (text b5), .string (text b6), .string (text b7), .string (text b8), .slice A9 r9.length k9, .string (text b10), .int .i64 n11, .slice A12 r12.length k12, .int .i64 n13, .int .i64 n14, .string (text b15), .string (text b16), .string (text b17), .int .i64 n18, .bool f19]) w.heap.size 51 [.int .i64 n0, .int .i64 n1, .int .i64 n2, .int .i64 n3, .string (text b4), .string (text b5), .string (text b6), .string (text b7), .string (text b8), .slice A9 r9.length k9, .string (text b10), .int .i64 n11, .slice A12 r12.length k12, .int .i64 n13, .int .i64 n14, .string (text b15), .string (text b16), .string (text b17), .int .i64 n18, .bool f19, .int .i64 0, .int .i64 0, .int .i64 0]) := Lib.hid (HX.out.setCells 3 [.int .i64 n3, .string (text b4), .string (text b5), .string (text b6), .string (text b7), .string (text b8), .slice A9 r9.length k9, .string (text b10), .int .i64 n11, .slice A12 r12.length k12, .int .i64 n13, .int .i64 n14, .string (text b15), .string (text b16), .string (text b17), .int .i64 n18, .bool f19] [.int .i64 n0, .int .i64 n1, .int .i64 n2] [.int .i64 0, .string ⟨#[]⟩, .string ⟨#[]⟩, .string ⟨#[]⟩, .string ⟨#[]⟩, .string ⟨#[]⟩, .slice none 0 0, .string ⟨#[]⟩, .int .i64 0, .slice none 0 0, .int .i64 0, .int .i64 0, .string ⟨#[]⟩, .string ⟨#[]⟩, .string ⟨#[]⟩, .int .i64 0, .bool false] [.int .i64 0, .int .i64 0, .int .i64 0] rfl rfl rfl rfl)
  have HKA : Hid (Keeps [51] w3 (w3.setCells w.heap.size 3 [.int .i64 n3, .string (text b4), .string (text b5), .string (text b6), .string (text b7), .string (text b8), .slice A9 r9.length k9, .string (text b10), .int .i64 n11, .slice A12 r12.length k12, .int .i64 n13, .int .i64 n14, .string (text b15), .string (text b16), .string (text b17), .int .i64 n18, .bool f19])) := Lib.hid (Keeps.setCells (t := 51) (by simp) HX.out.typ 3 [.int .i64 n3, .string (text b4), .string (text b5), .string (text b6), .string (text b7), .string (text b8), .slice A9 r9.length k9, .string (text b10), .int .i64 n11, .slice A12 r12.length k12, .int .i64 n13, .int .i64 n14, .string (text b15), .string (text b16), .string (text b17), .int .i64 n18, .bool f19])
  have HBA : Hid (Below w.heap.size w3 (w3.setCells w.heap.size 3 [.int .i64 n3, .string (text b4), .string (text b5), .string (text b6), .string (text b7), .string (text b8), .slice A9 r9.length k9, .string (text b10), .int .i64 n11, .slice A12 r12.length k12, .int .i64 n13, .int .i64 n14, .string (text b15), .string (text b16), .string (text b17), .int .i64 n18, .bool f19])) := Lib.hid (below_setCells_ (Nat.le_refl _) 3 [.int .i64 n3, .string (text b4), .string (text b5), .string (text b6), .string (text b7), .string (text b8), .slice A9 r9.length k9, .string (text b10), .int .i64 n11, .slice A12 r12.length k12, .int .i64 n13, .int .i64 n14, .string (text b15), .string (text b16), .string (text b17), .int .i64 n18, .bool f19])
  have HTH : Hid (World.there w3 w.heap.size 3 (List.toArray ([.int .i64 n3, .string (text b4), .string (text b5), .string (text b6), .string (text b7), .string (text b8), .slice A9 r9.length k9, .string (text b10), .int .i64 n11, .slice A12 r12.length k12, .int .i64 n13, .int .i64 n14, .string (text b15), .string (text b16), .string (text b17), .int .i64 n18, .bool f19] : List Value)).size) := Lib.hid (HX.out.there 3 17 (by simp))
  have hsS : Hid ((Try.prog.info? 49).map (·.size) = some (List.toArray ([.int .i64 n3, .string (text b4), .string (text b5), .string (text b6), .string (text b7), .string (text b8), .slice A9 r9.length k9, .string (text b10), .int .i64 n11, .slice A12 r12.length k12, .int .i64 n13, .int .i64 n14, .string (text b15), .string (text b16), .string (text b17), .int .i64 n18, .bool f19] : List Value)).size) := Lib.hid (by kernel_rfl)
  have h1S : Hid ((List.toArray ([.int .i64 n3, .string (text b4), .string (text b5), .string (text b6), .string (text b7), .string (text b8), .slice A9 r9.length k9, .string (text b10), .int .i64 n11, .slice A12 r12.length k12, .int .i64 n13, .int .i64 n14, .string (text b15), .string (text b16), .string (text b17), .int .i64 n18, .bool f19] : List Value)).all (·.oneCell') = true) := Lib.hid (all_oneCell_toArray (by simp [Value.oneCell']))
  replace HX := HY
  replace HR := Lib.hid (HR.out.keeps HKA.out (HBA.out.mono hlt) (by decide) (by decide) (by decide))
  replace R9 := Lib.hid (rows_keeps R9.out HKA.out (by decide))
  replace R12 := Lib.hid (rows_keeps R12.out HKA.out (by decide))
  replace HB := Lib.hid (HB.out.trans (HBA.out.mono hlt))
  replace HK := Lib.hid (HK.out.below_new HBA.out)
  clear HY HKA HBA
  go_wp2_with (with_reducible refine wpList_store_mid rfl 49 _ _ rfl w.heap.size 3 (List.toArray ([.int .i64 n3, .string (text b4), .string (text b5), .string (text b6), .string (text b7), .string (text b8), .slice A9 r9.length k9, .string (text b10), .int .i64 n11, .slice A12 r12.length k12, .int .i64 n13, .int .i64 n14, .string (text b15), .string (text b16), .string (text b17), .int .i64 n18, .bool f19] : List Value)) rfl rfl HTH.out hsS.out h1S.out ?_)
  refine (R_num base g l3 _ HR.out).mono ?_
  rintro e w4 ⟨hE, hK⟩
  rcases hE with ⟨d20, l4, v20, hd, rfl, hv, hR⟩ | ⟨hd, rfl⟩
  rotate_left
  · refine ⟨rfl, .inr ⟨?_, rfl⟩, HB.out.trans hK.below, HK.out.trans hK.keeps⟩
    rw [shOp, rds_some hd0.out, rds_some hd1.out, rds_some hd2.out, hd3.out, rds_none hd]
    rfl
  replace HB := Lib.hid (HB.out.trans hK.below)
  replace HK := Lib.hid (HK.out.trans hK.keeps)
  replace HX := Lib.hid (HX.out.keeps hK.keeps (by decide))
  replace R9 := Lib.hid (rows_keeps R9.out hK.keeps (by decide))
  replace R12 := Lib.hid (rows_keeps R12.out hK.keeps (by decide))
  have hd4 := Lib.hid hd
  obtain ⟨n20, rfl, rfl⟩ := hv.num
  replace HR := Lib.hid hR
  have hsz4 := HK.out.size
  have hfz4 : w4.frozen? ⟨w.heap.size, 20, none⟩ = false := HX.out.frozen 20
  have hcx4_0 : w4.cell? ⟨w.heap.size, 20, none⟩ = some (.int .i64 0) := HX.out.cell 20
  clear hd hR hK hv
  have HY : Hid (Blk (w4.setCell ⟨w.heap.size, 20, none⟩ (.int .i64 n20)) w.heap.size 51 [.int .i64 n0, .int .i64 n1, .int .i64 n2, .int .i64 n3, .string (text b4), .string (text b5), .string (text b6), .string (text b7), .string (text b8), .slice A9 r9.length k9, .string (text b10), .int .i64 n11, .slice A12 r12.length k12, .int .i64 n13, .int .i64 n14, .string (text b15), .string (text b16), .string (text b17), .int .i64 n18, .bool f19, .int .i64 n20, .int .i64 0, .int .i64 0]) := Lib.hid (HX.out.set_ 20 (.int .i64 n20))
  have HKA : Hid (Keeps [51] w4 (w4.setCell ⟨w.heap.size, 20, none⟩ (.int .i64 n20))) := Lib.hid ((Keeps.refl _ _).trans (Keeps.set_ HX.out.typ (by simp) (.int .i64 n20)))
  have HBA : Hid (Below w.heap.size w4 (w4.setCell ⟨w.heap.size, 20, none⟩ (.int .i64 n20))) := Lib.hid ((Below.refl w.heap.size w4).setCell (Nat.le_refl _) _)
  replace HX := HY
  replace HR := Lib.hid (HR.out.keeps HKA.out (HBA.out.mono hlt) (by decide) (by decide) (by decide))
  replace R9 := Lib.hid (rows_keeps R9.out HKA.out (by decide))
  replace R12 := Lib.hid (rows_keeps R12.out HKA.out (by decide))
  replace HB := Lib.hid (HB.out.trans (HBA.out.mono hlt))
  replace HK := Lib.hid (HK.out.below_new HBA.out)
  clear HY HKA HBA
  go_wp2_with fail
  refine (R_num base g l4 _ HR.out).mono ?_
  rintro e w5 ⟨hE, hK⟩
  rcases hE with ⟨d21, l5, v21, hd, rfl, hv, hR⟩ | ⟨hd, rfl⟩
  rotate_left
  · refine ⟨rfl, .inr ⟨?_, rfl⟩, HB.out.trans hK.below, HK.out.trans hK.keeps⟩
    rw [shOp, rds_some hd0.out, rds_some hd1.out, rds_some hd2.out, hd3.out, rds_some hd4.out, rds_none hd]
    rfl
  replace HB := Lib.hid (HB.out.trans hK.below)
  replace HK := Lib.hid (HK.out.trans hK.keeps)
  replace HX := Lib.hid (HX.out.keeps hK.keeps (by decide))
  replace R9 := Lib.hid (rows_keeps R9.out hK.keeps (by decide))
  replace R12 := Lib.hid (rows_keeps R12.out hK.keeps (by decide))
  have hd5 := Lib.hid hd
  obtain ⟨n21, rfl, rfl⟩ := hv.num
  replace HR := Lib.hid hR
  have hsz5 := HK.out.size
  have hfz5 : w5.frozen? ⟨w.heap.size, 21, none⟩ = false := HX.out.frozen 21
  have hcx5_0 : w5.cell? ⟨w.heap.size, 21, none⟩ = some (.int .i64 0) := HX.out.cell 21
  clear hd hR hK hv
  have HY : Hid (Blk (w5.setCell ⟨w.heap.size, 21, none⟩ (.int .i64 n21)) w.heap.size 51 [.int .i64 n0, .int .i64 n1, .int .i64 n2, .int .i64 n3, .string (text b4), .string (text b5), .string (text b6), .string (text b7), .string (text b8), .slice A9 r9.length k9, .string (text b10), .int .i64 n11, .slice A12 r12.length k12, .int .i64 n13, .int .i64 n14, .string (text b15), .string (text b16), .string (text b17), .int .i64 n18, .bool f19, .int .i64 n20, .int .i64 n21, .int .i64 0]) := Lib.hid (HX.out.set_ 21 (.int .i64 n21))
  have HKA : Hid (Keeps [51] w5 (w5.setCell ⟨w.heap.size, 21, none⟩ (.int .i64 n21))) := Lib.hid ((Keeps.refl _ _).trans (Keeps.set_ HX.out.typ (by simp) (.int .i64 n21)))
  have HBA : Hid (Below w.heap.size w5 (w5.setCell ⟨w.heap.size, 21, none⟩ (.int .i64 n21))) := Lib.hid ((Below.refl w.heap.size w5).setCell (Nat.le_refl _) _)
  replace HX := HY
  replace HR := Lib.hid (HR.out.keeps HKA.out (HBA.out.mono hlt) (by decide) (by decide) (by decide))
  replace R9 := Lib.hid (rows_keeps R9.out HKA.out (by decide))
  replace R12 := Lib.hid (rows_keeps R12.out HKA.out (by decide))
  replace HB := Lib.hid (HB.out.trans (HBA.out.mono hlt))
  replace HK := Lib.hid (HK.out.below_new HBA.out)
  clear HY HKA HBA
  go_wp2_with fail
  refine (R_num base g l5 _ HR.out).mono ?_
  rintro e w6 ⟨hE, hK⟩
  rcases hE with ⟨d22, l6, v22, hd, rfl, hv, hR⟩ | ⟨hd, rfl⟩
  rotate_left
  · refine ⟨rfl, .inr ⟨?_, rfl⟩, HB.out.trans hK.below, HK.out.trans hK.keeps⟩
    rw [shOp, rds_some hd0.out, rds_some hd1.out, rds_some hd2.out, hd3.out, rds_some hd4.out, rds_some hd5.out, rds_none hd]
    rfl
  replace HB := Lib.hid (HB.out.trans hK.below)
  replace HK := Lib.hid (HK.out.trans hK.keeps)
  replace HX := Lib.hid (HX.out.keeps hK.keeps (by decide))
  replace R9 := Lib.hid (rows_keeps R9.out hK.keeps (by decide))
  replace R12 := Lib.hid (rows_keeps R12.out hK.keeps (by decide))
  have hd6 := Lib.hid hd
  obtain ⟨n22, rfl, rfl⟩ := hv.num
  replace HR := Lib.hid hR
  have hsz6 := HK.out.size
  have hfz6 : w6.frozen? ⟨w.heap.size, 22, none⟩ = false := HX.out.frozen 22
  have hcx6_0 : w6.cell? ⟨w.heap.size, 22, none⟩ = some (.int .i64 0) := HX.out.cell 22
  clear hd hR hK hv
  have HY : Hid (Blk (w6.setCell ⟨w.heap.size, 22, none⟩ (.int .i64 n22)) w.heap.size 51 [.int .i64 n0, .int .i64 n1, .int .i64 n2, .int .i64 n3, .string (text b4), .string (text b5), .string (text b6), .string (text b7), .string (text b8), .slice A9 r9.length k9, .string (text b10), .int .i64 n11, .slice A12 r12.length k12, .int .i64 n13, .int .i64 n14, .string (text b15), .string (text b16), .string (text b17), .int .i64 n18, .bool f19, .int .i64 n20, .int .i64 n21, .int .i64 n22]) := Lib.hid (HX.out.set_ 22 (.int .i64 n22))
  have HKA : Hid (Keeps [51] w6 (w6.setCell ⟨w.heap.size, 22, none⟩ (.int .i64 n22))) := Lib.hid ((Keeps.refl _ _).trans (Keeps.set_ HX.out.typ (by simp) (.int .i64 n22)))
  have HBA : Hid (Below w.heap.size w6 (w6.setCell ⟨w.heap.size, 22, none⟩ (.int .i64 n22))) := Lib.hid ((Below.refl w.heap.size w6).setCell (Nat.le_refl _) _)
  replace HX := HY
  replace HR := Lib.hid (HR.out.keeps HKA.out (HBA.out.mono hlt) (by decide) (by decide) (by decide))
  replace R9 := Lib.hid (rows_keeps R9.out HKA.out (by decide))
  replace R12 := Lib.hid (rows_keeps R12.out HKA.out (by decide))
  replace HB := Lib.hid (HB.out.trans (HBA.out.mono hlt))
  replace HK := Lib.hid (HK.out.below_new HBA.out)
  clear HY HKA HBA
  have HRG := Lib.hid HX.out.range0
  have HTE : Hid (World.there _ w.heap.size 0 (List.toArray ([.int .i64 n0, .int .i64 n1, .int .i64 n2, .int .i64 n3, .string (text b4), .string (text b5), .string (text b6), .string (text b7), .string (text b8), .slice A9 r9.length k9, .string (text b10), .int .i64 n11, .slice A12 r12.length k12, .int .i64 n13, .int .i64 n14, .string (text b15), .string (text b16), .string (text b17), .int .i64 n18, .bool f19, .int .i64 n20, .int .i64 n21, .int .i64 n22] : List Value)).size) := Lib.hid (HX.out.there 0 23 (by simp))
  have hiV : Hid ((Try.prog.info? 51).map (·.size) = some (List.length ([.int .i64 n0, .int .i64 n1, .int .i64 n2, .int .i64 n3, .string (text b4), .string (text b5), .string (text b6), .string (text b7), .string (text b8), .slice A9 r9.length k9, .string (text b10), .int .i64 n11, .slice A12 r12.length k12, .int .i64 n13, .int .i64 n14, .string (text b15), .string (text b16), .string (text b17), .int .i64 n18, .bool f19, .int .i64 n20, .int .i64 n21, .int .i64 n22] : List Value))) := Lib.hid hi.out
  have hsV : Hid ((Try.prog.info? 51).map (·.size) = some (List.toArray ([.int .i64 n0, .int .i64 n1, .int .i64 n2, .int .i64 n3, .string (text b4), .string (text b5), .string (text b6), .string (text b7), .string (text b8), .slice A9 r9.length k9, .string (text b10), .int .i64 n11, .slice A12 r12.length k12, .int .i64 n13, .int .i64 n14, .string (text b15), .string (text b16), .string (text b17), .int .i64 n18, .bool f19, .int .i64 n20, .int .i64 n21, .int .i64 n22] : List Value)).size) := Lib.hid hi.out
  have h1V : Hid ((List.toArray ([.int .i64 n0, .int .i64 n1, .int .i64 n2, .int .i64 n3, .string (text b4), .string (text b5), .string (text b6), .string (text b7), .string (text b8), .slice A9 r9.length k9, .string (text b10), .int .i64 n11, .slice A12 r12.length k12, .int .i64 n13, .int .i64 n14, .string (text b15), .string (text b16), .string (text b17), .int .i64 n18, .bool f19, .int .i64 n20, .int .i64 n21, .int .i64 n22] : List Value)).all (·.oneCell') = true) := Lib.hid (all_oneCell_toArray (by simp [Value.oneCell']))
  go_wp2_with (first | (with_reducible refine wpList_load_mid rfl 51 _ rfl w.heap.size 0 rfl [.int .i64 n0, .int .i64 n1, .int .i64 n2, .int .i64 n3, .string (text b4), .string (text b5), .string (text b6), .string (text b7), .string (text b8), .slice A9 r9.length k9, .string (text b10), .int .i64 n11, .slice A12 r12.length k12, .int .i64 n13, .int .i64 n14, .string (text b15), .string (text b16), .string (text b17), .int .i64 n18, .bool f19, .int .i64 n20, .int .i64 n21, .int .i64 n22] _ HRG.out Try.underlying51 rfl hiV.out ?_) | (with_reducible refine wpList_store_mid rfl 51 _ _ rfl w.heap.size 0 (List.toArray ([.int .i64 n0, .int .i64 n1, .int .i64 n2, .int .i64 n3, .string (text b4), .string (text b5), .string (text b6), .string (text b7), .string (text b8), .slice A9 r9.length k9, .string (text b10), .int .i64 n11, .slice A12 r12.length k12, .int .i64 n13, .int .i64 n14, .string (text b15), .string (text b16), .string (text b17), .int .i64 n18, .bool f19, .int .i64 n20, .int .i64 n21, .int .i64 n22] : List Value)) rfl rfl HTE.out hsV.out h1V.out ?_))
  have HXE := Lib.hid (HX.out.setCells0 [.int .i64 n0, .int .i64 n1, .int .i64 n2, .int .i64 n3, .string (text b4), .string (text b5), .string (text b6), .string (text b7), .string (text b8), .slice A9 r9.length k9, .string (text b10), .int .i64 n11, .slice A12 r12.length k12, .int .i64 n13, .int .i64 n14, .string (text b15), .string (text b16), .string (text b17), .int .i64 n18, .bool f19, .int .i64 n20, .int .i64 n21, .int .i64 n22] rfl)
  have HKE := Lib.hid (Keeps.setCells (ts := [51]) (t := 51) (by simp) HX.out.typ 0 [.int .i64 n0, .int .i64 n1, .int .i64 n2, .int .i64 n3, .string (text b4), .string (text b5), .string (text b6), .string (text b7), .string (text b8), .slice A9 r9.length k9, .string (text b10), .int .i64 n11, .slice A12 r12.length k12, .int .i64 n13, .int .i64 n14, .string (text b15), .string (text b16), .string (text b17), .int .i64 n18, .bool f19, .int .i64 n20, .int .i64 n21, .int .i64 n22])
  refine bodyPost_ret (results_cell rfl _ _ w.heap.size rfl [.int .i64 n0, .int .i64 n1, .int .i64 n2, .int .i64 n3, .string (text b4), .string (text b5), .string (text b6), .string (text b7), .string (text b8), .slice A9 r9.length k9, .string (text b10), .int .i64 n11, .slice A12 r12.length k12, .int .i64 n13, .int .i64 n14, .string (text b15), .string (text b16), .string (text b17), .int .i64 n18, .bool f19, .int .i64 n20, .int .i64 n21, .int .i64 n22] _ HXE.out.range0 Try.underlying51 rfl hi.out) rfl ?_
  refine ⟨.inl ⟨[.int n0, .int n1, .int n2, .int n3, .text b4, .text b5, .text b6, .text b7, .text b8, .rows r9, .text b10, .int n11, .rows r12, .int n13, .int n14, .text b15, .text b16, .text b17, .int n18, .flag f19, .int n20, .int n21, .int n22], l6, [.int .i64 n0, .int .i64 n1, .int .i64 n2, .int .i64 n3, .string (text b4), .string (text b5), .string (text b6), .string (text b7), .string (text b8), .slice A9 r9.length k9, .string (text b10), .int .i64 n11, .slice A12 r12.length k12, .int .i64 n13, .int .i64 n14, .string (text b15), .string (text b16), .string (text b17), .int .i64 n18, .bool f19, .int .i64 n20, .int .i64 n21, .int .i64 n22], ?_, rfl, ?_, HR.out.keeps HKE.out (below_setCells_ hlt _ _) (by decide) (by decide) (by decide)⟩, HB.out.trans (below_setCells_ hlt _ _), HK.out.below_new (below_setCells_ (Nat.le_refl _) _ _)⟩
  · rw [shOp, rds_some hd0.out, rds_some hd1.out, rds_some hd2.out, hd3.out, rds_some hd4.out, rds_some hd5.out, rds_some hd6.out, rds_nil]
    rfl
  · exact (Cels.mk (Cel.mk_num n0) (Cels.mk (Cel.mk_num n1) (Cels.mk (Cel.mk_num n2) (Cels.mk (Cel.mk_num n3) (Cels.mk (Cel.mk_text b4) (Cels.mk (Cel.mk_text b5) (Cels.mk (Cel.mk_text b6) (Cels.mk (Cel.mk_text b7) (Cels.mk (Cel.mk_text b8) (Cels.mk (((Cel.mk_rows k9 R9.out).keeps HKE.out (by decide)).inT_more (by decide)) (Cels.mk (Cel.mk_text b10) (Cels.mk (Cel.mk_num n11) (Cels.mk (((Cel.mk_rows k12 R12.out).keeps HKE.out (by decide)).inT_more (by decide)) (Cels.mk (Cel.mk_whole HW13.out) (Cels.mk (Cel.mk_whole HW14.out) (Cels.mk (Cel.mk_text b15) (Cels.mk (Cel.mk_text b16) (Cels.mk (Cel.mk_text b17) (Cels.mk (Cel.mk_num n18) (Cels.mk (Cel.mk_flag f19) (Cels.mk (Cel.mk_num n20) (Cels.mk (Cel.mk_num n21) (Cels.mk (Cel.mk_num n22) Cels.mk0)))))))))))))))))))))))

end Go.Proofs.Yteohhgkehkmgcaa
