/- The walks of the program's reader: lists and structs. Printed by mkre.py. -/
import Derived.Test.YteohhgkehkmgcaaRe7
namespace Go.Proofs.Yteohhgkehkmgcaa
open Go.RowKit Le
set_option maxRecDepth 100000
set_option linter.unusedVariables false
set_option linter.unusedSimpArgs false

set_option maxHeartbeats 1600000 in
theorem R_few_Rule (base g : Nat) (l : List UInt8) (w : World) (h : RdAt w base g l) :
    Calls Try.prog 159 #[.pointer (some ⟨g, 0, none⟩), .func (.func 96) #[] #[]] w fun e w' => FEnd (.rows shRule) l [46, 9] w' base g e ∧ Rds base w w' := by
  obtain ⟨i0, hi0⟩ : ∃ i, Try.prog.info? 46 = some i := by
    cases hq : Try.prog.info? 46 with
    | none => have h0 : (Try.prog.info? 46).isSome = true := by kernel_rfl
              rw [hq] at h0; cases h0
    | some i => exact ⟨i, rfl⟩
  have hinf : (Try.prog.info? 46).map (fun i => (i.zero, i.size, decide (i.bytes ≤ 1000))) = some (some (.agg #[.string ⟨#[]⟩, .int .i64 0, .slice none 0 0, .int .i64 0, .int .i64 0, .string ⟨#[]⟩, .string ⟨#[]⟩, .string ⟨#[]⟩]), 8, true) := by kernel_rfl
  rw [hi0] at hinf
  simp only [Option.map_some, Option.some.injEq, Prod.mk.injEq, decide_eq_true_eq] at hinf
  obtain ⟨hz0, hz1, hz2⟩ := hinf
  have hby := Nat.mul_le_mul_left 4097 hz2
  have HI := Lib.hid (And.intro hi0 (And.intro hz0 hz1))
  clear hi0 hz0 hz1
  have hlt := h.lt
  have C := Lib.hid (R_num base g l w h)
  clear h
  go_enter Try.func159, Try.ntmps159
  go_wp2_with fail
  refine (unhide C).mono ?_
  rintro e w1 ⟨hE, hK⟩
  rcases hE with ⟨d, l1, v, hd, rfl, hv, hR⟩ | ⟨hd, rfl⟩
  rotate_left
  · exact ⟨rfl, .inr ⟨rows_num (rd_num_none hd), rfl⟩, hK⟩
  obtain ⟨N, rfl, hN, hN9⟩ := rd_num_inv hd
  obtain ⟨_, h1, rfl⟩ := hv.num
  injection h1 with h1
  subst h1
  have HN := Lib.hid hN
  have HR1 := Lib.hid hR
  have HK1 := Lib.hid hK
  clear C hd hN hR hK hv
  by_cases h4 : N ≤ 4096
  rotate_left
  · go_wp2_with fail
    have hdv : decide ((N : Int) ≤ 4096) = false := decide_eq_false (by omega)
    first | rw [hdv] | skip
    refine (is_false _).mono ?_
    rintro e w' ⟨rfl, rfl⟩
    exact ⟨rfl, .inr ⟨rows_big HN.out h4, rfl⟩, HK1.out⟩
  go_wp2_with fail
  have hdv : decide ((N : Int) ≤ 4096) = true := decide_eq_true (by omega)
  rw [hdv]
  refine (is_true _).mono ?_
  rintro e w' ⟨rfl, rfl⟩
  clear hdv
  go_wp2
  go_loopw [6, 13] (fun v i wr => ∃ (j : Nat) (ds : List (List Da)) (lj : List UInt8) (A : Option Addr) (c : Nat) (xs : List Value), j ≤ N ∧ i = .int .i64 j ∧ v = .slice A j c ∧ Hid (iter (rds shRule) j l1 = some (ds, lj)) ∧ Hid (RdAt wr base g lj) ∧ Hid (wr.ownsRow w.heap.size 46 8 (.slice A j c) j xs) ∧ Hid (Things wr [9] shRule ds xs) ∧ Hid (Rds base w wr) ∧ w.heap.size ≤ wr.heap.size) (fun _ i _ => N - (intOf i).toNat)
  case atStart => exact ⟨0, [], l1, none, 0, [], Nat.zero_le _, rfl, rfl, Lib.hid (by simp only [iter]), HR1, Lib.hid (World.ownsRow_nil _ w.heap.size 46 8), Lib.hid (Things.nil _ _ _ _), HK1, HK1.out.keeps.size⟩
  case round =>
    obtain ⟨j, ds, lj, A, c, xs, hj, rfl, rfl, HIT, HR, HO, HT, HK, hsz⟩ := hrel
    by_cases hlt2 : j < N
    · have C := Lib.hid (R_rule base g lj wr HR.out)
      go_wp2_with fail
      refine (unhide C).mono ?_
      rintro e w2 ⟨hE, hK⟩
      rcases hE with ⟨d, l2, vs, hd, rfl, hC, hR⟩ | ⟨hd, rfl⟩
      rotate_left
      · exact ⟨rfl, .inr ⟨rows_none HN.out (iter_none HIT.out hd hlt2), rfl⟩, HK.out.trans hK⟩
      have hit := iter_snoc HIT.out hd
      have hlen : vs.length = 8 := hC.len.2
      obtain ⟨v0, vt0, rfl, hl0⟩ := len_cons (n := 7) hlen
      obtain ⟨v1, vt1, rfl, hl1⟩ := len_cons (n := 6) hl0
      obtain ⟨v2, vt2, rfl, hl2⟩ := len_cons (n := 5) hl1
      obtain ⟨v3, vt3, rfl, hl3⟩ := len_cons (n := 4) hl2
      obtain ⟨v4, vt4, rfl, hl4⟩ := len_cons (n := 3) hl3
      obtain ⟨v5, vt5, rfl, hl5⟩ := len_cons (n := 2) hl4
      obtain ⟨v6, vt6, rfl, hl6⟩ := len_cons (n := 1) hl5
      obtain ⟨v7, vt7, rfl, hl7⟩ := len_cons (n := 0) hl6
      obtain rfl := len_nil hl7
      clear hlen hl0 hl1 hl2 hl3 hl4 hl5 hl6 hl7
      have HC := Lib.hid hC
      have HR2 := Lib.hid hR
      have HIT2 := Lib.hid hit
      have HK2 := Lib.hid (HK.out.trans hK)
      have HO2 := Lib.hid (HO.out.keeps hK.keeps (by decide))
      have HT2 := Lib.hid (HT.out.keeps hK.keeps (by decide))
      have hsz2 := hK.keeps.size
      have hone := HC.out.oneCell
      clear C hC hR hit hK HR HO HT HK HIT
      go_wp2_with (at_builtin; refine wpList_appN rfl _ _ 173 rfl w.heap.size 46 i0 _ 8 i0.bytes Try.underlying173 HI.out.1 HI.out.2.1 HI.out.2.2 rfl rfl (by decide) (.slice A j c) j xs rfl (HO2.out.alloc _) ⟨w2.heap.size, 0, none⟩ 1 [v0, v1, v2, v3, v4, v5, v6, v7] rfl rfl (Blk.new w2 _ [v0, v1, v2, v3, v4, v5, v6, v7]).news hone (by unfold maxLen; omega) (Nat.le_trans (Nat.mul_le_mul_right _ (by omega)) (Nat.le_trans hby (by decide))) (by simp; omega) ?_; intro A3 c3 w3 HO3 HG3)
      have HKA : Hid (Keeps [46] w2 w3) := Lib.hid ((Keeps.alloc w2 _).trans (Keeps.grown (HO2.out.alloc _) HG3.out (by simp) HG3.out.size))
      have HBA : Hid (Below base w2 w3) := Lib.hid (((Below.refl _ _).alloc (by omega) _).grown HG3.out (by simp; omega) (by intro k hk; have := own_block_ge HO2.out k hk; omega))
      have hrel : ∃ (j' : Nat) (ds : List (List Da)) (lj : List UInt8) (A : Option Addr) (c : Nat) (xs : List Value), j' ≤ N ∧ Value.int .i64 ((j : Int) + 1) = .int .i64 j' ∧ Value.slice A3 (j + 1) c3 = .slice A j' c ∧ Hid (iter (rds shRule) j' l1 = some (ds, lj)) ∧ Hid (RdAt w3 base g lj) ∧ Hid (w3.ownsRow w.heap.size 46 8 (.slice A j' c) j' xs) ∧ Hid (Things w3 [9] shRule ds xs) ∧ Hid (Rds base w w3) ∧ w.heap.size ≤ w3.heap.size := by
        refine ⟨j + 1, _, _, A3, c3, _, by omega, by simp, rfl, HIT2, Lib.hid (HR2.out.keeps HKA.out HBA.out (by decide) (by decide) (by decide)), HO3, Lib.hid ?_, Lib.hid ⟨HK2.out.below.trans HBA.out, ?_⟩, by have := HKA.out.size; omega⟩
        · exact (HT2.out.keeps HKA.out (by decide)).snoc (by have h1 := HO2.out.1; have h2 := iter_len_snoc HIT2.out; rw [h2]; exact h1) (HC.out.keeps HKA.out (by decide))
        · exact (HK2.out.keeps.then_below ((Below.refl _ _).alloc (Nat.le_refl _) _)).grown_new HG3.out (fun k hk => by have := own_block_ge HO2.out k hk; omega)
      clear HKA HBA HO3 HG3 HO2 HT2 HR2 HC HK2 HIT2
      go_wp2
      go_roundw
      case rel => obtain ⟨j', ds, lj, A, c, xs, h1, h2, h3, h4⟩ := hrel; exact ⟨j', ds, lj, A, c, xs, h1, by rw [← h2], h3, h4⟩
      case measure => simp [intOf]; omega
    · obtain rfl : j = N := by omega
      go_wp2
      go_ret
      have hl2 := iter_len HIT.out
      refine ⟨.inl ⟨.rows ds, lj, .slice A j c, rows_ok HN.out h4 HIT.out, rfl, ?_, HR.out⟩, HK.out⟩
      have hr := rowsAt_own (us := [9]) (l := shRule) (ds := ds) (by decide) HO.out hl2 HT.out
      have := Cel.mk_rows c hr
      rwa [hl2] at this

set_option maxHeartbeats 1600000 in
theorem R_table (base g : Nat) (l : List UInt8) (w : World) (h : RdAt w base g l) :
    Calls Try.prog 122 #[.pointer (some ⟨g, 0, none⟩)] w fun e w' => SEnd shTable l [150, 46, 9] w' base g e ∧ Rds base w w' := by
  have hi : (Try.prog.info? 175).map (·.size) = some 5 := by kernel_rfl
  replace hi := Lib.hid hi
  have hlt := h.lt
  have HR := Lib.hid (h.below_ ((Below.refl _ _).alloc (Nat.le_refl _) (.cells #[.string ⟨#[]⟩, .string ⟨#[]⟩, .string ⟨#[]⟩, .slice none 0 0, .slice none 0 0] 175)))
  have HX := Lib.hid (Blk.new w 175 [.string ⟨#[]⟩, .string ⟨#[]⟩, .string ⟨#[]⟩, .slice none 0 0, .slice none 0 0])
  have HB : Hid (Below base w (w.alloc (.cells #[.string ⟨#[]⟩, .string ⟨#[]⟩, .string ⟨#[]⟩, .slice none 0 0, .slice none 0 0] 175))) := Lib.hid ((Below.refl _ _).alloc hlt _)
  have HK : Hid (Keeps [137, 229] w (w.alloc (.cells #[.string ⟨#[]⟩, .string ⟨#[]⟩, .string ⟨#[]⟩, .slice none 0 0, .slice none 0 0] 175))) := Lib.hid (Keeps.alloc _ _)
  clear h
  go_enter Try.func122, Try.ntmps122
  go_wp2_with fail
  refine (R_text base g l _ HR.out).mono ?_
  rintro e w0 ⟨hE, hK⟩
  rcases hE with ⟨d0, l0, v0, hd, rfl, hv, hR⟩ | ⟨hd, rfl⟩
  rotate_left
  · refine ⟨rfl, .inr ⟨?_, rfl⟩, HB.out.trans hK.below, HK.out.trans hK.keeps⟩
    rw [shTable, rds_none hd]
  replace HB := Lib.hid (HB.out.trans hK.below)
  replace HK := Lib.hid (HK.out.trans hK.keeps)
  replace HX := Lib.hid (HX.out.keeps hK.keeps (by decide))
  have hd0 := Lib.hid hd
  obtain ⟨b0, rfl, rfl⟩ := hv.txt
  replace HR := Lib.hid hR
  have hsz0 := HK.out.size
  have hfz0 : w0.frozen? ⟨w.heap.size, 0, none⟩ = false := HX.out.frozen 0
  have hcx0_0 : w0.cell? ⟨w.heap.size, 0, none⟩ = some (.string ⟨#[]⟩) := HX.out.cell 0
  clear hd hR hK hv
  have HY : Hid (Blk (w0.setCell ⟨w.heap.size, 0, none⟩ (.string (text b0))) w.heap.size 175 [.string (text b0), .string ⟨#[]⟩, .string ⟨#[]⟩, .slice none 0 0, .slice none 0 0]) := Lib.hid (HX.out.set_ 0 (.string (text b0)))
  have HKA : Hid (Keeps [175] w0 (w0.setCell ⟨w.heap.size, 0, none⟩ (.string (text b0)))) := Lib.hid ((Keeps.refl _ _).trans (Keeps.set_ HX.out.typ (by simp) (.string (text b0))))
  have HBA : Hid (Below w.heap.size w0 (w0.setCell ⟨w.heap.size, 0, none⟩ (.string (text b0)))) := Lib.hid ((Below.refl w.heap.size w0).setCell (Nat.le_refl _) _)
  replace HX := HY
  replace HR := Lib.hid (HR.out.keeps HKA.out (HBA.out.mono hlt) (by decide) (by decide) (by decide))
  replace HB := Lib.hid (HB.out.trans (HBA.out.mono hlt))
  replace HK := Lib.hid (HK.out.below_new HBA.out)
  clear HY HKA HBA
  go_wp2_with fail
  refine (R_text base g l0 _ HR.out).mono ?_
  rintro e w1 ⟨hE, hK⟩
  rcases hE with ⟨d1, l1, v1, hd, rfl, hv, hR⟩ | ⟨hd, rfl⟩
  rotate_left
  · refine ⟨rfl, .inr ⟨?_, rfl⟩, HB.out.trans hK.below, HK.out.trans hK.keeps⟩
    rw [shTable, rds_some hd0.out, rds_none hd]
    rfl
  replace HB := Lib.hid (HB.out.trans hK.below)
  replace HK := Lib.hid (HK.out.trans hK.keeps)
  replace HX := Lib.hid (HX.out.keeps hK.keeps (by decide))
  have hd1 := Lib.hid hd
  obtain ⟨b1, rfl, rfl⟩ := hv.txt
  replace HR := Lib.hid hR
  have hsz1 := HK.out.size
  have hfz1 : w1.frozen? ⟨w.heap.size, 1, none⟩ = false := HX.out.frozen 1
  have hcx1_0 : w1.cell? ⟨w.heap.size, 1, none⟩ = some (.string ⟨#[]⟩) := HX.out.cell 1
  clear hd hR hK hv
  have HY : Hid (Blk (w1.setCell ⟨w.heap.size, 1, none⟩ (.string (text b1))) w.heap.size 175 [.string (text b0), .string (text b1), .string ⟨#[]⟩, .slice none 0 0, .slice none 0 0]) := Lib.hid (HX.out.set_ 1 (.string (text b1)))
  have HKA : Hid (Keeps [175] w1 (w1.setCell ⟨w.heap.size, 1, none⟩ (.string (text b1)))) := Lib.hid ((Keeps.refl _ _).trans (Keeps.set_ HX.out.typ (by simp) (.string (text b1))))
  have HBA : Hid (Below w.heap.size w1 (w1.setCell ⟨w.heap.size, 1, none⟩ (.string (text b1)))) := Lib.hid ((Below.refl w.heap.size w1).setCell (Nat.le_refl _) _)
  replace HX := HY
  replace HR := Lib.hid (HR.out.keeps HKA.out (HBA.out.mono hlt) (by decide) (by decide) (by decide))
  replace HB := Lib.hid (HB.out.trans (HBA.out.mono hlt))
  replace HK := Lib.hid (HK.out.below_new HBA.out)
  clear HY HKA HBA
  go_wp2_with fail
  refine (R_text base g l1 _ HR.out).mono ?_
  rintro e w2 ⟨hE, hK⟩
  rcases hE with ⟨d2, l2, v2, hd, rfl, hv, hR⟩ | ⟨hd, rfl⟩
  rotate_left
  · refine ⟨rfl, .inr ⟨?_, rfl⟩, HB.out.trans hK.below, HK.out.trans hK.keeps⟩
    rw [shTable, rds_some hd0.out, rds_some hd1.out, rds_none hd]
    rfl
  replace HB := Lib.hid (HB.out.trans hK.below)
  replace HK := Lib.hid (HK.out.trans hK.keeps)
  replace HX := Lib.hid (HX.out.keeps hK.keeps (by decide))
  have hd2 := Lib.hid hd
  obtain ⟨b2, rfl, rfl⟩ := hv.txt
  replace HR := Lib.hid hR
  have hsz2 := HK.out.size
  have hfz2 : w2.frozen? ⟨w.heap.size, 2, none⟩ = false := HX.out.frozen 2
  have hcx2_0 : w2.cell? ⟨w.heap.size, 2, none⟩ = some (.string ⟨#[]⟩) := HX.out.cell 2
  clear hd hR hK hv
  have HY : Hid (Blk (w2.setCell ⟨w.heap.size, 2, none⟩ (.string (text b2))) w.heap.size 175 [.string (text b0), .string (text b1), .string (text b2), .slice none 0 0, .slice none 0 0]) := Lib.hid (HX.out.set_ 2 (.string (text b2)))
  have HKA : Hid (Keeps [175] w2 (w2.setCell ⟨w.heap.size, 2, none⟩ (.string (text b2)))) := Lib.hid ((Keeps.refl _ _).trans (Keeps.set_ HX.out.typ (by simp) (.string (text b2))))
  have HBA : Hid (Below w.heap.size w2 (w2.setCell ⟨w.heap.size, 2, none⟩ (.string (text b2)))) := Lib.hid ((Below.refl w.heap.size w2).setCell (Nat.le_refl _) _)
  replace HX := HY
  replace HR := Lib.hid (HR.out.keeps HKA.out (HBA.out.mono hlt) (by decide) (by decide) (by decide))
  replace HB := Lib.hid (HB.out.trans (HBA.out.mono hlt))
  replace HK := Lib.hid (HK.out.below_new HBA.out)
  clear HY HKA HBA
  go_wp2_with fail
  refine (R_few_Column base g l2 _ HR.out).mono ?_
  rintro e w3 ⟨hE, hK⟩
  rcases hE with ⟨d3, l3, v3, hd, rfl, hv, hR⟩ | ⟨hd, rfl⟩
  rotate_left
  · refine ⟨rfl, .inr ⟨?_, rfl⟩, HB.out.trans hK.below, HK.out.trans hK.keeps⟩
    rw [shTable, rds_some hd0.out, rds_some hd1.out, rds_some hd2.out, rds_none hd]
    rfl
  replace HB := Lib.hid (HB.out.trans hK.below)
  replace HK := Lib.hid (HK.out.trans hK.keeps)
  replace HX := Lib.hid (HX.out.keeps hK.keeps (by decide))
  have hd3 := Lib.hid hd
  obtain ⟨r3, A3, k3, rfl, rfl, R3⟩ := hv.rows
  replace R3 := Lib.hid R3
  replace HR := Lib.hid hR
  have hsz3 := HK.out.size
  have hfz3 : w3.frozen? ⟨w.heap.size, 3, none⟩ = false := HX.out.frozen 3
  have hcx3_0 : w3.cell? ⟨w.heap.size, 3, none⟩ = some (.slice none 0 0) := HX.out.cell 3
  clear hd hR hK hv
  have HY : Hid (Blk (w3.setCell ⟨w.heap.size, 3, none⟩ (.slice A3 r3.length k3)) w.heap.size 175 [.string (text b0), .string (text b1), .string (text b2), .slice A3 r3.length k3, .slice none 0 0]) := Lib.hid (HX.out.set_ 3 (.slice A3 r3.length k3))
  have HKA : Hid (Keeps [175] w3 (w3.setCell ⟨w.heap.size, 3, none⟩ (.slice A3 r3.length k3))) := Lib.hid ((Keeps.refl _ _).trans (Keeps.set_ HX.out.typ (by simp) (.slice A3 r3.length k3)))
  have HBA : Hid (Below w.heap.size w3 (w3.setCell ⟨w.heap.size, 3, none⟩ (.slice A3 r3.length k3))) := Lib.hid ((Below.refl w.heap.size w3).setCell (Nat.le_refl _) _)
  replace HX := HY
  replace HR := Lib.hid (HR.out.keeps HKA.out (HBA.out.mono hlt) (by decide) (by decide) (by decide))
  replace R3 := Lib.hid (rows_keeps R3.out HKA.out (by decide))
  replace HB := Lib.hid (HB.out.trans (HBA.out.mono hlt))
  replace HK := Lib.hid (HK.out.below_new HBA.out)
  clear HY HKA HBA
  go_wp2_with fail
  refine (R_few_Rule base g l3 _ HR.out).mono ?_
  rintro e w4 ⟨hE, hK⟩
  rcases hE with ⟨d4, l4, v4, hd, rfl, hv, hR⟩ | ⟨hd, rfl⟩
  rotate_left
  · refine ⟨rfl, .inr ⟨?_, rfl⟩, HB.out.trans hK.below, HK.out.trans hK.keeps⟩
    rw [shTable, rds_some hd0.out, rds_some hd1.out, rds_some hd2.out, rds_some hd3.out, rds_none hd]
    rfl
  replace HB := Lib.hid (HB.out.trans hK.below)
  replace HK := Lib.hid (HK.out.trans hK.keeps)
  replace HX := Lib.hid (HX.out.keeps hK.keeps (by decide))
  replace R3 := Lib.hid (rows_keeps R3.out hK.keeps (by decide))
  have hd4 := Lib.hid hd
  obtain ⟨r4, A4, k4, rfl, rfl, R4⟩ := hv.rows
  replace R4 := Lib.hid R4
  replace HR := Lib.hid hR
  have hsz4 := HK.out.size
  have hfz4 : w4.frozen? ⟨w.heap.size, 4, none⟩ = false := HX.out.frozen 4
  have hcx4_0 : w4.cell? ⟨w.heap.size, 4, none⟩ = some (.slice none 0 0) := HX.out.cell 4
  clear hd hR hK hv
  have HY : Hid (Blk (w4.setCell ⟨w.heap.size, 4, none⟩ (.slice A4 r4.length k4)) w.heap.size 175 [.string (text b0), .string (text b1), .string (text b2), .slice A3 r3.length k3, .slice A4 r4.length k4]) := Lib.hid (HX.out.set_ 4 (.slice A4 r4.length k4))
  have HKA : Hid (Keeps [175] w4 (w4.setCell ⟨w.heap.size, 4, none⟩ (.slice A4 r4.length k4))) := Lib.hid ((Keeps.refl _ _).trans (Keeps.set_ HX.out.typ (by simp) (.slice A4 r4.length k4)))
  have HBA : Hid (Below w.heap.size w4 (w4.setCell ⟨w.heap.size, 4, none⟩ (.slice A4 r4.length k4))) := Lib.hid ((Below.refl w.heap.size w4).setCell (Nat.le_refl _) _)
  replace HX := HY
  replace HR := Lib.hid (HR.out.keeps HKA.out (HBA.out.mono hlt) (by decide) (by decide) (by decide))
  replace R3 := Lib.hid (rows_keeps R3.out HKA.out (by decide))
  replace R4 := Lib.hid (rows_keeps R4.out HKA.out (by decide))
  replace HB := Lib.hid (HB.out.trans (HBA.out.mono hlt))
  replace HK := Lib.hid (HK.out.below_new HBA.out)
  clear HY HKA HBA
  have HRG := Lib.hid HX.out.range0
  have HTE : Hid (World.there _ w.heap.size 0 (List.toArray ([.string (text b0), .string (text b1), .string (text b2), .slice A3 r3.length k3, .slice A4 r4.length k4] : List Value)).size) := Lib.hid (HX.out.there 0 5 (by simp))
  have hiV : Hid ((Try.prog.info? 175).map (·.size) = some (List.length ([.string (text b0), .string (text b1), .string (text b2), .slice A3 r3.length k3, .slice A4 r4.length k4] : List Value))) := Lib.hid hi.out
  have hsV : Hid ((Try.prog.info? 175).map (·.size) = some (List.toArray ([.string (text b0), .string (text b1), .string (text b2), .slice A3 r3.length k3, .slice A4 r4.length k4] : List Value)).size) := Lib.hid hi.out
  have h1V : Hid ((List.toArray ([.string (text b0), .string (text b1), .string (text b2), .slice A3 r3.length k3, .slice A4 r4.length k4] : List Value)).all (·.oneCell') = true) := Lib.hid (all_oneCell_toArray (by simp [Value.oneCell']))
  go_wp2_with (first | (with_reducible refine wpList_load_mid rfl 175 _ rfl w.heap.size 0 rfl [.string (text b0), .string (text b1), .string (text b2), .slice A3 r3.length k3, .slice A4 r4.length k4] _ HRG.out Try.underlying175 rfl hiV.out ?_) | (with_reducible refine wpList_store_mid rfl 175 _ _ rfl w.heap.size 0 (List.toArray ([.string (text b0), .string (text b1), .string (text b2), .slice A3 r3.length k3, .slice A4 r4.length k4] : List Value)) rfl rfl HTE.out hsV.out h1V.out ?_))
  have HXE := Lib.hid (HX.out.setCells0 [.string (text b0), .string (text b1), .string (text b2), .slice A3 r3.length k3, .slice A4 r4.length k4] rfl)
  have HKE := Lib.hid (Keeps.setCells (ts := [175]) (t := 175) (by simp) HX.out.typ 0 [.string (text b0), .string (text b1), .string (text b2), .slice A3 r3.length k3, .slice A4 r4.length k4])
  refine bodyPost_ret (results_cell rfl _ _ w.heap.size rfl [.string (text b0), .string (text b1), .string (text b2), .slice A3 r3.length k3, .slice A4 r4.length k4] _ HXE.out.range0 Try.underlying175 rfl hi.out) rfl ?_
  refine ⟨.inl ⟨[.text b0, .text b1, .text b2, .rows r3, .rows r4], l4, [.string (text b0), .string (text b1), .string (text b2), .slice A3 r3.length k3, .slice A4 r4.length k4], ?_, rfl, ?_, HR.out.keeps HKE.out (below_setCells_ hlt _ _) (by decide) (by decide) (by decide)⟩, HB.out.trans (below_setCells_ hlt _ _), HK.out.below_new (below_setCells_ (Nat.le_refl _) _ _)⟩
  · rw [shTable, rds_some hd0.out, rds_some hd1.out, rds_some hd2.out, rds_some hd3.out, rds_some hd4.out, rds_nil]
    rfl
  · exact (Cels.mk (Cel.mk_text b0) (Cels.mk (Cel.mk_text b1) (Cels.mk (Cel.mk_text b2) (Cels.mk (((Cel.mk_rows k3 R3.out).keeps HKE.out (by decide)).inT_more (by decide)) (Cels.mk (((Cel.mk_rows k4 R4.out).keeps HKE.out (by decide)).inT_more (by decide)) Cels.mk0)))))

set_option maxHeartbeats 1600000 in
theorem R_few_Table (base g : Nat) (l : List UInt8) (w : World) (h : RdAt w base g l) :
    Calls Try.prog 121 #[.pointer (some ⟨g, 0, none⟩), .func (.func 122) #[] #[]] w fun e w' => FEnd (.rows shTable) l [175, 150, 46, 9] w' base g e ∧ Rds base w w' := by
  obtain ⟨i0, hi0⟩ : ∃ i, Try.prog.info? 175 = some i := by
    cases hq : Try.prog.info? 175 with
    | none => have h0 : (Try.prog.info? 175).isSome = true := by kernel_rfl
              rw [hq] at h0; cases h0
    | some i => exact ⟨i, rfl⟩
  have hinf : (Try.prog.info? 175).map (fun i => (i.zero, i.size, decide (i.bytes ≤ 1000))) = some (some (.agg #[.string ⟨#[]⟩, .string ⟨#[]⟩, .string ⟨#[]⟩, .slice none 0 0, .slice none 0 0]), 5, true) := by kernel_rfl
  rw [hi0] at hinf
  simp only [Option.map_some, Option.some.injEq, Prod.mk.injEq, decide_eq_true_eq] at hinf
  obtain ⟨hz0, hz1, hz2⟩ := hinf
  have hby := Nat.mul_le_mul_left 4097 hz2
  have HI := Lib.hid (And.intro hi0 (And.intro hz0 hz1))
  clear hi0 hz0 hz1
  have hlt := h.lt
  have C := Lib.hid (R_num base g l w h)
  clear h
  go_enter Try.func121, Try.ntmps121
  go_wp2_with fail
  refine (unhide C).mono ?_
  rintro e w1 ⟨hE, hK⟩
  rcases hE with ⟨d, l1, v, hd, rfl, hv, hR⟩ | ⟨hd, rfl⟩
  rotate_left
  · exact ⟨rfl, .inr ⟨rows_num (rd_num_none hd), rfl⟩, hK⟩
  obtain ⟨N, rfl, hN, hN9⟩ := rd_num_inv hd
  obtain ⟨_, h1, rfl⟩ := hv.num
  injection h1 with h1
  subst h1
  have HN := Lib.hid hN
  have HR1 := Lib.hid hR
  have HK1 := Lib.hid hK
  clear C hd hN hR hK hv
  by_cases h4 : N ≤ 4096
  rotate_left
  · go_wp2_with fail
    have hdv : decide ((N : Int) ≤ 4096) = false := decide_eq_false (by omega)
    first | rw [hdv] | skip
    refine (is_false _).mono ?_
    rintro e w' ⟨rfl, rfl⟩
    exact ⟨rfl, .inr ⟨rows_big HN.out h4, rfl⟩, HK1.out⟩
  go_wp2_with fail
  have hdv : decide ((N : Int) ≤ 4096) = true := decide_eq_true (by omega)
  rw [hdv]
  refine (is_true _).mono ?_
  rintro e w' ⟨rfl, rfl⟩
  clear hdv
  go_wp2
  go_loopw [6, 13] (fun v i wr => ∃ (j : Nat) (ds : List (List Da)) (lj : List UInt8) (A : Option Addr) (c : Nat) (xs : List Value), j ≤ N ∧ i = .int .i64 j ∧ v = .slice A j c ∧ Hid (iter (rds shTable) j l1 = some (ds, lj)) ∧ Hid (RdAt wr base g lj) ∧ Hid (wr.ownsRow w.heap.size 175 5 (.slice A j c) j xs) ∧ Hid (Things wr [150, 46, 9] shTable ds xs) ∧ Hid (Rds base w wr) ∧ w.heap.size ≤ wr.heap.size) (fun _ i _ => N - (intOf i).toNat)
  case atStart => exact ⟨0, [], l1, none, 0, [], Nat.zero_le _, rfl, rfl, Lib.hid (by simp only [iter]), HR1, Lib.hid (World.ownsRow_nil _ w.heap.size 175 5), Lib.hid (Things.nil _ _ _ _), HK1, HK1.out.keeps.size⟩
  case round =>
    obtain ⟨j, ds, lj, A, c, xs, hj, rfl, rfl, HIT, HR, HO, HT, HK, hsz⟩ := hrel
    by_cases hlt2 : j < N
    · have C := Lib.hid (R_table base g lj wr HR.out)
      go_wp2_with fail
      refine (unhide C).mono ?_
      rintro e w2 ⟨hE, hK⟩
      rcases hE with ⟨d, l2, vs, hd, rfl, hC, hR⟩ | ⟨hd, rfl⟩
      rotate_left
      · exact ⟨rfl, .inr ⟨rows_none HN.out (iter_none HIT.out hd hlt2), rfl⟩, HK.out.trans hK⟩
      have hit := iter_snoc HIT.out hd
      have hlen : vs.length = 5 := hC.len.2
      obtain ⟨v0, vt0, rfl, hl0⟩ := len_cons (n := 4) hlen
      obtain ⟨v1, vt1, rfl, hl1⟩ := len_cons (n := 3) hl0
      obtain ⟨v2, vt2, rfl, hl2⟩ := len_cons (n := 2) hl1
      obtain ⟨v3, vt3, rfl, hl3⟩ := len_cons (n := 1) hl2
      obtain ⟨v4, vt4, rfl, hl4⟩ := len_cons (n := 0) hl3
      obtain rfl := len_nil hl4
      clear hlen hl0 hl1 hl2 hl3 hl4
      have HC := Lib.hid hC
      have HR2 := Lib.hid hR
      have HIT2 := Lib.hid hit
      have HK2 := Lib.hid (HK.out.trans hK)
      have HO2 := Lib.hid (HO.out.keeps hK.keeps (by decide))
      have HT2 := Lib.hid (HT.out.keeps hK.keeps (by decide))
      have hsz2 := hK.keeps.size
      have hone := HC.out.oneCell
      clear C hC hR hit hK HR HO HT HK HIT
      go_wp2_with (at_builtin; refine wpList_appN rfl _ _ 66 rfl w.heap.size 175 i0 _ 5 i0.bytes Try.underlying66 HI.out.1 HI.out.2.1 HI.out.2.2 rfl rfl (by decide) (.slice A j c) j xs rfl (HO2.out.alloc _) ⟨w2.heap.size, 0, none⟩ 1 [v0, v1, v2, v3, v4] rfl rfl (Blk.new w2 _ [v0, v1, v2, v3, v4]).news hone (by unfold maxLen; omega) (Nat.le_trans (Nat.mul_le_mul_right _ (by omega)) (Nat.le_trans hby (by decide))) (by simp; omega) ?_; intro A3 c3 w3 HO3 HG3)
      have HKA : Hid (Keeps [175] w2 w3) := Lib.hid ((Keeps.alloc w2 _).trans (Keeps.grown (HO2.out.alloc _) HG3.out (by simp) HG3.out.size))
      have HBA : Hid (Below base w2 w3) := Lib.hid (((Below.refl _ _).alloc (by omega) _).grown HG3.out (by simp; omega) (by intro k hk; have := own_block_ge HO2.out k hk; omega))
      have hrel : ∃ (j' : Nat) (ds : List (List Da)) (lj : List UInt8) (A : Option Addr) (c : Nat) (xs : List Value), j' ≤ N ∧ Value.int .i64 ((j : Int) + 1) = .int .i64 j' ∧ Value.slice A3 (j + 1) c3 = .slice A j' c ∧ Hid (iter (rds shTable) j' l1 = some (ds, lj)) ∧ Hid (RdAt w3 base g lj) ∧ Hid (w3.ownsRow w.heap.size 175 5 (.slice A j' c) j' xs) ∧ Hid (Things w3 [150, 46, 9] shTable ds xs) ∧ Hid (Rds base w w3) ∧ w.heap.size ≤ w3.heap.size := by
        refine ⟨j + 1, _, _, A3, c3, _, by omega, by simp, rfl, HIT2, Lib.hid (HR2.out.keeps HKA.out HBA.out (by decide) (by decide) (by decide)), HO3, Lib.hid ?_, Lib.hid ⟨HK2.out.below.trans HBA.out, ?_⟩, by have := HKA.out.size; omega⟩
        · exact (HT2.out.keeps HKA.out (by decide)).snoc (by have h1 := HO2.out.1; have h2 := iter_len_snoc HIT2.out; rw [h2]; exact h1) (HC.out.keeps HKA.out (by decide))
        · exact (HK2.out.keeps.then_below ((Below.refl _ _).alloc (Nat.le_refl _) _)).grown_new HG3.out (fun k hk => by have := own_block_ge HO2.out k hk; omega)
      clear HKA HBA HO3 HG3 HO2 HT2 HR2 HC HK2 HIT2
      go_wp2
      go_roundw
      case rel => obtain ⟨j', ds, lj, A, c, xs, h1, h2, h3, h4⟩ := hrel; exact ⟨j', ds, lj, A, c, xs, h1, by rw [← h2], h3, h4⟩
      case measure => simp [intOf]; omega
    · obtain rfl : j = N := by omega
      go_wp2
      go_ret
      have hl2 := iter_len HIT.out
      refine ⟨.inl ⟨.rows ds, lj, .slice A j c, rows_ok HN.out h4 HIT.out, rfl, ?_, HR.out⟩, HK.out⟩
      have hr := rowsAt_own (us := [150, 46, 9]) (l := shTable) (ds := ds) (by decide) HO.out hl2 HT.out
      have := Cel.mk_rows c hr
      rwa [hl2] at this

set_option maxHeartbeats 1600000 in
theorem R_schema (base g : Nat) (l : List UInt8) (w : World) (h : RdAt w base g l) :
    Calls Try.prog 120 #[.pointer (some ⟨g, 0, none⟩)] w fun e w' => SEnd shSchema l [] w' base g e ∧ Rds base w w' := by
  have hi : (Try.prog.info? 169).map (·.size) = some 2 := by kernel_rfl
  replace hi := Lib.hid hi
  have hlt := h.lt
  have HR := Lib.hid (h.below_ ((Below.refl _ _).alloc (Nat.le_refl _) (.cells #[.string ⟨#[]⟩, .string ⟨#[]⟩] 169)))
  have HX := Lib.hid (Blk.new w 169 [.string ⟨#[]⟩, .string ⟨#[]⟩])
  have HB : Hid (Below base w (w.alloc (.cells #[.string ⟨#[]⟩, .string ⟨#[]⟩] 169))) := Lib.hid ((Below.refl _ _).alloc hlt _)
  have HK : Hid (Keeps [137, 229] w (w.alloc (.cells #[.string ⟨#[]⟩, .string ⟨#[]⟩] 169))) := Lib.hid (Keeps.alloc _ _)
  clear h
  go_enter Try.func120, Try.ntmps120
  go_wp2_with fail
  refine (R_text base g l _ HR.out).mono ?_
  rintro e w0 ⟨hE, hK⟩
  rcases hE with ⟨d0, l0, v0, hd, rfl, hv, hR⟩ | ⟨hd, rfl⟩
  rotate_left
  · refine ⟨rfl, .inr ⟨?_, rfl⟩, HB.out.trans hK.below, HK.out.trans hK.keeps⟩
    rw [shSchema, rds_none hd]
  replace HB := Lib.hid (HB.out.trans hK.below)
  replace HK := Lib.hid (HK.out.trans hK.keeps)
  replace HX := Lib.hid (HX.out.keeps hK.keeps (by decide))
  have hd0 := Lib.hid hd
  obtain ⟨b0, rfl, rfl⟩ := hv.txt
  replace HR := Lib.hid hR
  have hsz0 := HK.out.size
  have hfz0 : w0.frozen? ⟨w.heap.size, 0, none⟩ = false := HX.out.frozen 0
  have hcx0_0 : w0.cell? ⟨w.heap.size, 0, none⟩ = some (.string ⟨#[]⟩) := HX.out.cell 0
  clear hd hR hK hv
  have HY : Hid (Blk (w0.setCell ⟨w.heap.size, 0, none⟩ (.string (text b0))) w.heap.size 169 [.string (text b0), .string ⟨#[]⟩]) := Lib.hid (HX.out.set_ 0 (.string (text b0)))
  have HKA : Hid (Keeps [169] w0 (w0.setCell ⟨w.heap.size, 0, none⟩ (.string (text b0)))) := Lib.hid ((Keeps.refl _ _).trans (Keeps.set_ HX.out.typ (by simp) (.string (text b0))))
  have HBA : Hid (Below w.heap.size w0 (w0.setCell ⟨w.heap.size, 0, none⟩ (.string (text b0)))) := Lib.hid ((Below.refl w.heap.size w0).setCell (Nat.le_refl _) _)
  replace HX := HY
  replace HR := Lib.hid (HR.out.keeps HKA.out (HBA.out.mono hlt) (by decide) (by decide) (by decide))
  replace HB := Lib.hid (HB.out.trans (HBA.out.mono hlt))
  replace HK := Lib.hid (HK.out.below_new HBA.out)
  clear HY HKA HBA
  go_wp2_with fail
  refine (R_text base g l0 _ HR.out).mono ?_
  rintro e w1 ⟨hE, hK⟩
  rcases hE with ⟨d1, l1, v1, hd, rfl, hv, hR⟩ | ⟨hd, rfl⟩
  rotate_left
  · refine ⟨rfl, .inr ⟨?_, rfl⟩, HB.out.trans hK.below, HK.out.trans hK.keeps⟩
    rw [shSchema, rds_some hd0.out, rds_none hd]
    rfl
  replace HB := Lib.hid (HB.out.trans hK.below)
  replace HK := Lib.hid (HK.out.trans hK.keeps)
  replace HX := Lib.hid (HX.out.keeps hK.keeps (by decide))
  have hd1 := Lib.hid hd
  obtain ⟨b1, rfl, rfl⟩ := hv.txt
  replace HR := Lib.hid hR
  have hsz1 := HK.out.size
  have hfz1 : w1.frozen? ⟨w.heap.size, 1, none⟩ = false := HX.out.frozen 1
  have hcx1_0 : w1.cell? ⟨w.heap.size, 1, none⟩ = some (.string ⟨#[]⟩) := HX.out.cell 1
  clear hd hR hK hv
  have HY : Hid (Blk (w1.setCell ⟨w.heap.size, 1, none⟩ (.string (text b1))) w.heap.size 169 [.string (text b0), .string (text b1)]) := Lib.hid (HX.out.set_ 1 (.string (text b1)))
  have HKA : Hid (Keeps [169] w1 (w1.setCell ⟨w.heap.size, 1, none⟩ (.string (text b1)))) := Lib.hid ((Keeps.refl _ _).trans (Keeps.set_ HX.out.typ (by simp) (.string (text b1))))
  have HBA : Hid (Below w.heap.size w1 (w1.setCell ⟨w.heap.size, 1, none⟩ (.string (text b1)))) := Lib.hid ((Below.refl w.heap.size w1).setCell (Nat.le_refl _) _)
  replace HX := HY
  replace HR := Lib.hid (HR.out.keeps HKA.out (HBA.out.mono hlt) (by decide) (by decide) (by decide))
  replace HB := Lib.hid (HB.out.trans (HBA.out.mono hlt))
  replace HK := Lib.hid (HK.out.below_new HBA.out)
  clear HY HKA HBA
  have HRG := Lib.hid HX.out.range0
  have HTE : Hid (World.there _ w.heap.size 0 (List.toArray ([.string (text b0), .string (text b1)] : List Value)).size) := Lib.hid (HX.out.there 0 2 (by simp))
  have hiV : Hid ((Try.prog.info? 169).map (·.size) = some (List.length ([.string (text b0), .string (text b1)] : List Value))) := Lib.hid hi.out
  have hsV : Hid ((Try.prog.info? 169).map (·.size) = some (List.toArray ([.string (text b0), .string (text b1)] : List Value)).size) := Lib.hid hi.out
  have h1V : Hid ((List.toArray ([.string (text b0), .string (text b1)] : List Value)).all (·.oneCell') = true) := Lib.hid (all_oneCell_toArray (by simp [Value.oneCell']))
  go_wp2_with (first | (with_reducible refine wpList_load_mid rfl 169 _ rfl w.heap.size 0 rfl [.string (text b0), .string (text b1)] _ HRG.out Try.underlying169 rfl hiV.out ?_) | (with_reducible refine wpList_store_mid rfl 169 _ _ rfl w.heap.size 0 (List.toArray ([.string (text b0), .string (text b1)] : List Value)) rfl rfl HTE.out hsV.out h1V.out ?_))
  have HXE := Lib.hid (HX.out.setCells0 [.string (text b0), .string (text b1)] rfl)
  have HKE := Lib.hid (Keeps.setCells (ts := [169]) (t := 169) (by simp) HX.out.typ 0 [.string (text b0), .string (text b1)])
  refine bodyPost_ret (results_cell rfl _ _ w.heap.size rfl [.string (text b0), .string (text b1)] _ HXE.out.range0 Try.underlying169 rfl hi.out) rfl ?_
  refine ⟨.inl ⟨[.text b0, .text b1], l1, [.string (text b0), .string (text b1)], ?_, rfl, ?_, HR.out.keeps HKE.out (below_setCells_ hlt _ _) (by decide) (by decide) (by decide)⟩, HB.out.trans (below_setCells_ hlt _ _), HK.out.below_new (below_setCells_ (Nat.le_refl _) _ _)⟩
  · rw [shSchema, rds_some hd0.out, rds_some hd1.out, rds_nil]
    rfl
  · exact (Cels.mk (Cel.mk_text b0) (Cels.mk (Cel.mk_text b1) Cels.mk0))

set_option maxHeartbeats 1600000 in
theorem R_few_Schema (base g : Nat) (l : List UInt8) (w : World) (h : RdAt w base g l) :
    Calls Try.prog 119 #[.pointer (some ⟨g, 0, none⟩), .func (.func 120) #[] #[]] w fun e w' => FEnd (.rows shSchema) l [169] w' base g e ∧ Rds base w w' := by
  obtain ⟨i0, hi0⟩ : ∃ i, Try.prog.info? 169 = some i := by
    cases hq : Try.prog.info? 169 with
    | none => have h0 : (Try.prog.info? 169).isSome = true := by kernel_rfl
              rw [hq] at h0; cases h0
    | some i => exact ⟨i, rfl⟩
  have hinf : (Try.prog.info? 169).map (fun i => (i.zero, i.size, decide (i.bytes ≤ 1000))) = some (some (.agg #[.string ⟨#[]⟩, .string ⟨#[]⟩]), 2, true) := by kernel_rfl
  rw [hi0] at hinf
  simp only [Option.map_some, Option.some.injEq, Prod.mk.injEq, decide_eq_true_eq] at hinf
  obtain ⟨hz0, hz1, hz2⟩ := hinf
  have hby := Nat.mul_le_mul_left 4097 hz2
  have HI := Lib.hid (And.intro hi0 (And.intro hz0 hz1))
  clear hi0 hz0 hz1
  have hlt := h.lt
  have C := Lib.hid (R_num base g l w h)
  clear h
  go_enter Try.func119, Try.ntmps119
  go_wp2_with fail
  refine (unhide C).mono ?_
  rintro e w1 ⟨hE, hK⟩
  rcases hE with ⟨d, l1, v, hd, rfl, hv, hR⟩ | ⟨hd, rfl⟩
  rotate_left
  · exact ⟨rfl, .inr ⟨rows_num (rd_num_none hd), rfl⟩, hK⟩
  obtain ⟨N, rfl, hN, hN9⟩ := rd_num_inv hd
  obtain ⟨_, h1, rfl⟩ := hv.num
  injection h1 with h1
  subst h1
  have HN := Lib.hid hN
  have HR1 := Lib.hid hR
  have HK1 := Lib.hid hK
  clear C hd hN hR hK hv
  by_cases h4 : N ≤ 4096
  rotate_left
  · go_wp2_with fail
    have hdv : decide ((N : Int) ≤ 4096) = false := decide_eq_false (by omega)
    first | rw [hdv] | skip
    refine (is_false _).mono ?_
    rintro e w' ⟨rfl, rfl⟩
    exact ⟨rfl, .inr ⟨rows_big HN.out h4, rfl⟩, HK1.out⟩
  go_wp2_with fail
  have hdv : decide ((N : Int) ≤ 4096) = true := decide_eq_true (by omega)
  rw [hdv]
  refine (is_true _).mono ?_
  rintro e w' ⟨rfl, rfl⟩
  clear hdv
  go_wp2
  go_loopw [6, 13] (fun v i wr => ∃ (j : Nat) (ds : List (List Da)) (lj : List UInt8) (A : Option Addr) (c : Nat) (xs : List Value), j ≤ N ∧ i = .int .i64 j ∧ v = .slice A j c ∧ Hid (iter (rds shSchema) j l1 = some (ds, lj)) ∧ Hid (RdAt wr base g lj) ∧ Hid (wr.ownsRow w.heap.size 169 2 (.slice A j c) j xs) ∧ Hid (Things wr [] shSchema ds xs) ∧ Hid (Rds base w wr) ∧ w.heap.size ≤ wr.heap.size) (fun _ i _ => N - (intOf i).toNat)
  case atStart => exact ⟨0, [], l1, none, 0, [], Nat.zero_le _, rfl, rfl, Lib.hid (by simp only [iter]), HR1, Lib.hid (World.ownsRow_nil _ w.heap.size 169 2), Lib.hid (Things.nil _ _ _ _), HK1, HK1.out.keeps.size⟩
  case round =>
    obtain ⟨j, ds, lj, A, c, xs, hj, rfl, rfl, HIT, HR, HO, HT, HK, hsz⟩ := hrel
    by_cases hlt2 : j < N
    · have C := Lib.hid (R_schema base g lj wr HR.out)
      go_wp2_with fail
      refine (unhide C).mono ?_
      rintro e w2 ⟨hE, hK⟩
      rcases hE with ⟨d, l2, vs, hd, rfl, hC, hR⟩ | ⟨hd, rfl⟩
      rotate_left
      · exact ⟨rfl, .inr ⟨rows_none HN.out (iter_none HIT.out hd hlt2), rfl⟩, HK.out.trans hK⟩
      have hit := iter_snoc HIT.out hd
      have hlen : vs.length = 2 := hC.len.2
      obtain ⟨v0, vt0, rfl, hl0⟩ := len_cons (n := 1) hlen
      obtain ⟨v1, vt1, rfl, hl1⟩ := len_cons (n := 0) hl0
      obtain rfl := len_nil hl1
      clear hlen hl0 hl1
      have HC := Lib.hid hC
      have HR2 := Lib.hid hR
      have HIT2 := Lib.hid hit
      have HK2 := Lib.hid (HK.out.trans hK)
      have HO2 := Lib.hid (HO.out.keeps hK.keeps (by decide))
      have HT2 := Lib.hid (HT.out.keeps hK.keeps (by decide))
      have hsz2 := hK.keeps.size
      have hone := HC.out.oneCell
      clear C hC hR hit hK HR HO HT HK HIT
      go_wp2_with (at_builtin; refine wpList_appN rfl _ _ 65 rfl w.heap.size 169 i0 _ 2 i0.bytes Try.underlying65 HI.out.1 HI.out.2.1 HI.out.2.2 rfl rfl (by decide) (.slice A j c) j xs rfl (HO2.out.alloc _) ⟨w2.heap.size, 0, none⟩ 1 [v0, v1] rfl rfl (Blk.new w2 _ [v0, v1]).news hone (by unfold maxLen; omega) (Nat.le_trans (Nat.mul_le_mul_right _ (by omega)) (Nat.le_trans hby (by decide))) (by simp; omega) ?_; intro A3 c3 w3 HO3 HG3)
      have HKA : Hid (Keeps [169] w2 w3) := Lib.hid ((Keeps.alloc w2 _).trans (Keeps.grown (HO2.out.alloc _) HG3.out (by simp) HG3.out.size))
      have HBA : Hid (Below base w2 w3) := Lib.hid (((Below.refl _ _).alloc (by omega) _).grown HG3.out (by simp; omega) (by intro k hk; have := own_block_ge HO2.out k hk; omega))
      have hrel : ∃ (j' : Nat) (ds : List (List Da)) (lj : List UInt8) (A : Option Addr) (c : Nat) (xs : List Value), j' ≤ N ∧ Value.int .i64 ((j : Int) + 1) = .int .i64 j' ∧ Value.slice A3 (j + 1) c3 = .slice A j' c ∧ Hid (iter (rds shSchema) j' l1 = some (ds, lj)) ∧ Hid (RdAt w3 base g lj) ∧ Hid (w3.ownsRow w.heap.size 169 2 (.slice A j' c) j' xs) ∧ Hid (Things w3 [] shSchema ds xs) ∧ Hid (Rds base w w3) ∧ w.heap.size ≤ w3.heap.size := by
        refine ⟨j + 1, _, _, A3, c3, _, by omega, by simp, rfl, HIT2, Lib.hid (HR2.out.keeps HKA.out HBA.out (by decide) (by decide) (by decide)), HO3, Lib.hid ?_, Lib.hid ⟨HK2.out.below.trans HBA.out, ?_⟩, by have := HKA.out.size; omega⟩
        · exact (HT2.out.keeps HKA.out (by decide)).snoc (by have h1 := HO2.out.1; have h2 := iter_len_snoc HIT2.out; rw [h2]; exact h1) (HC.out.keeps HKA.out (by decide))
        · exact (HK2.out.keeps.then_below ((Below.refl _ _).alloc (Nat.le_refl _) _)).grown_new HG3.out (fun k hk => by have := own_block_ge HO2.out k hk; omega)
      clear HKA HBA HO3 HG3 HO2 HT2 HR2 HC HK2 HIT2
      go_wp2
      go_roundw
      case rel => obtain ⟨j', ds, lj, A, c, xs, h1, h2, h3, h4⟩ := hrel; exact ⟨j', ds, lj, A, c, xs, h1, by rw [← h2], h3, h4⟩
      case measure => simp [intOf]; omega
    · obtain rfl : j = N := by omega
      go_wp2
      go_ret
      have hl2 := iter_len HIT.out
      refine ⟨.inl ⟨.rows ds, lj, .slice A j c, rows_ok HN.out h4 HIT.out, rfl, ?_, HR.out⟩, HK.out⟩
      have hr := rowsAt_own (us := []) (l := shSchema) (ds := ds) (by decide) HO.out hl2 HT.out
      have := Cel.mk_rows c hr
      rwa [hl2] at this

set_option maxHeartbeats 1600000 in
theorem R_member (base g : Nat) (l : List UInt8) (w : World) (h : RdAt w base g l) :
    Calls Try.prog 125 #[.pointer (some ⟨g, 0, none⟩)] w fun e w' => SEnd shMember l [] w' base g e ∧ Rds base w w' := by
  have hi : (Try.prog.info? 164).map (·.size) = some 2 := by kernel_rfl
  replace hi := Lib.hid hi
  have hlt := h.lt
  have HR := Lib.hid (h.below_ ((Below.refl _ _).alloc (Nat.le_refl _) (.cells #[.string ⟨#[]⟩, .string ⟨#[]⟩] 164)))
  have HX := Lib.hid (Blk.new w 164 [.string ⟨#[]⟩, .string ⟨#[]⟩])
  have HB : Hid (Below base w (w.alloc (.cells #[.string ⟨#[]⟩, .string ⟨#[]⟩] 164))) := Lib.hid ((Below.refl _ _).alloc hlt _)
  have HK : Hid (Keeps [137, 229] w (w.alloc (.cells #[.string ⟨#[]⟩, .string ⟨#[]⟩] 164))) := Lib.hid (Keeps.alloc _ _)
  clear h
  go_enter Try.func125, Try.ntmps125
  go_wp2_with fail
  refine (R_text base g l _ HR.out).mono ?_
  rintro e w0 ⟨hE, hK⟩
  rcases hE with ⟨d0, l0, v0, hd, rfl, hv, hR⟩ | ⟨hd, rfl⟩
  rotate_left
  · refine ⟨rfl, .inr ⟨?_, rfl⟩, HB.out.trans hK.below, HK.out.trans hK.keeps⟩
    rw [shMember, rds_none hd]
  replace HB := Lib.hid (HB.out.trans hK.below)
  replace HK := Lib.hid (HK.out.trans hK.keeps)
  replace HX := Lib.hid (HX.out.keeps hK.keeps (by decide))
  have hd0 := Lib.hid hd
  obtain ⟨b0, rfl, rfl⟩ := hv.txt
  replace HR := Lib.hid hR
  have hsz0 := HK.out.size
  have hfz0 : w0.frozen? ⟨w.heap.size, 0, none⟩ = false := HX.out.frozen 0
  have hcx0_0 : w0.cell? ⟨w.heap.size, 0, none⟩ = some (.string ⟨#[]⟩) := HX.out.cell 0
  clear hd hR hK hv
  have HY : Hid (Blk (w0.setCell ⟨w.heap.size, 0, none⟩ (.string (text b0))) w.heap.size 164 [.string (text b0), .string ⟨#[]⟩]) := Lib.hid (HX.out.set_ 0 (.string (text b0)))
  have HKA : Hid (Keeps [164] w0 (w0.setCell ⟨w.heap.size, 0, none⟩ (.string (text b0)))) := Lib.hid ((Keeps.refl _ _).trans (Keeps.set_ HX.out.typ (by simp) (.string (text b0))))
  have HBA : Hid (Below w.heap.size w0 (w0.setCell ⟨w.heap.size, 0, none⟩ (.string (text b0)))) := Lib.hid ((Below.refl w.heap.size w0).setCell (Nat.le_refl _) _)
  replace HX := HY
  replace HR := Lib.hid (HR.out.keeps HKA.out (HBA.out.mono hlt) (by decide) (by decide) (by decide))
  replace HB := Lib.hid (HB.out.trans (HBA.out.mono hlt))
  replace HK := Lib.hid (HK.out.below_new HBA.out)
  clear HY HKA HBA
  go_wp2_with fail
  refine (R_text base g l0 _ HR.out).mono ?_
  rintro e w1 ⟨hE, hK⟩
  rcases hE with ⟨d1, l1, v1, hd, rfl, hv, hR⟩ | ⟨hd, rfl⟩
  rotate_left
  · refine ⟨rfl, .inr ⟨?_, rfl⟩, HB.out.trans hK.below, HK.out.trans hK.keeps⟩
    rw [shMember, rds_some hd0.out, rds_none hd]
    rfl
  replace HB := Lib.hid (HB.out.trans hK.below)
  replace HK := Lib.hid (HK.out.trans hK.keeps)
  replace HX := Lib.hid (HX.out.keeps hK.keeps (by decide))
  have hd1 := Lib.hid hd
  obtain ⟨b1, rfl, rfl⟩ := hv.txt
  replace HR := Lib.hid hR
  have hsz1 := HK.out.size
  have hfz1 : w1.frozen? ⟨w.heap.size, 1, none⟩ = false := HX.out.frozen 1
  have hcx1_0 : w1.cell? ⟨w.heap.size, 1, none⟩ = some (.string ⟨#[]⟩) := HX.out.cell 1
  clear hd hR hK hv
  have HY : Hid (Blk (w1.setCell ⟨w.heap.size, 1, none⟩ (.string (text b1))) w.heap.size 164 [.string (text b0), .string (text b1)]) := Lib.hid (HX.out.set_ 1 (.string (text b1)))
  have HKA : Hid (Keeps [164] w1 (w1.setCell ⟨w.heap.size, 1, none⟩ (.string (text b1)))) := Lib.hid ((Keeps.refl _ _).trans (Keeps.set_ HX.out.typ (by simp) (.string (text b1))))
  have HBA : Hid (Below w.heap.size w1 (w1.setCell ⟨w.heap.size, 1, none⟩ (.string (text b1)))) := Lib.hid ((Below.refl w.heap.size w1).setCell (Nat.le_refl _) _)
  replace HX := HY
  replace HR := Lib.hid (HR.out.keeps HKA.out (HBA.out.mono hlt) (by decide) (by decide) (by decide))
  replace HB := Lib.hid (HB.out.trans (HBA.out.mono hlt))
  replace HK := Lib.hid (HK.out.below_new HBA.out)
  clear HY HKA HBA
  have HRG := Lib.hid HX.out.range0
  have HTE : Hid (World.there _ w.heap.size 0 (List.toArray ([.string (text b0), .string (text b1)] : List Value)).size) := Lib.hid (HX.out.there 0 2 (by simp))
  have hiV : Hid ((Try.prog.info? 164).map (·.size) = some (List.length ([.string (text b0), .string (text b1)] : List Value))) := Lib.hid hi.out
  have hsV : Hid ((Try.prog.info? 164).map (·.size) = some (List.toArray ([.string (text b0), .string (text b1)] : List Value)).size) := Lib.hid hi.out
  have h1V : Hid ((List.toArray ([.string (text b0), .string (text b1)] : List Value)).all (·.oneCell') = true) := Lib.hid (all_oneCell_toArray (by simp [Value.oneCell']))
  go_wp2_with (first | (with_reducible refine wpList_load_mid rfl 164 _ rfl w.heap.size 0 rfl [.string (text b0), .string (text b1)] _ HRG.out Try.underlying164 rfl hiV.out ?_) | (with_reducible refine wpList_store_mid rfl 164 _ _ rfl w.heap.size 0 (List.toArray ([.string (text b0), .string (text b1)] : List Value)) rfl rfl HTE.out hsV.out h1V.out ?_))
  have HXE := Lib.hid (HX.out.setCells0 [.string (text b0), .string (text b1)] rfl)
  have HKE := Lib.hid (Keeps.setCells (ts := [164]) (t := 164) (by simp) HX.out.typ 0 [.string (text b0), .string (text b1)])
  refine bodyPost_ret (results_cell rfl _ _ w.heap.size rfl [.string (text b0), .string (text b1)] _ HXE.out.range0 Try.underlying164 rfl hi.out) rfl ?_
  refine ⟨.inl ⟨[.text b0, .text b1], l1, [.string (text b0), .string (text b1)], ?_, rfl, ?_, HR.out.keeps HKE.out (below_setCells_ hlt _ _) (by decide) (by decide) (by decide)⟩, HB.out.trans (below_setCells_ hlt _ _), HK.out.below_new (below_setCells_ (Nat.le_refl _) _ _)⟩
  · rw [shMember, rds_some hd0.out, rds_some hd1.out, rds_nil]
    rfl
  · exact (Cels.mk (Cel.mk_text b0) (Cels.mk (Cel.mk_text b1) Cels.mk0))

set_option maxHeartbeats 1600000 in
theorem R_few_Member (base g : Nat) (l : List UInt8) (w : World) (h : RdAt w base g l) :
    Calls Try.prog 124 #[.pointer (some ⟨g, 0, none⟩), .func (.func 125) #[] #[]] w fun e w' => FEnd (.rows shMember) l [164] w' base g e ∧ Rds base w w' := by
  obtain ⟨i0, hi0⟩ : ∃ i, Try.prog.info? 164 = some i := by
    cases hq : Try.prog.info? 164 with
    | none => have h0 : (Try.prog.info? 164).isSome = true := by kernel_rfl
              rw [hq] at h0; cases h0
    | some i => exact ⟨i, rfl⟩
  have hinf : (Try.prog.info? 164).map (fun i => (i.zero, i.size, decide (i.bytes ≤ 1000))) = some (some (.agg #[.string ⟨#[]⟩, .string ⟨#[]⟩]), 2, true) := by kernel_rfl
  rw [hi0] at hinf
  simp only [Option.map_some, Option.some.injEq, Prod.mk.injEq, decide_eq_true_eq] at hinf
  obtain ⟨hz0, hz1, hz2⟩ := hinf
  have hby := Nat.mul_le_mul_left 4097 hz2
  have HI := Lib.hid (And.intro hi0 (And.intro hz0 hz1))
  clear hi0 hz0 hz1
  have hlt := h.lt
  have C := Lib.hid (R_num base g l w h)
  clear h
  go_enter Try.func124, Try.ntmps124
  go_wp2_with fail
  refine (unhide C).mono ?_
  rintro e w1 ⟨hE, hK⟩
  rcases hE with ⟨d, l1, v, hd, rfl, hv, hR⟩ | ⟨hd, rfl⟩
  rotate_left
  · exact ⟨rfl, .inr ⟨rows_num (rd_num_none hd), rfl⟩, hK⟩
  obtain ⟨N, rfl, hN, hN9⟩ := rd_num_inv hd
  obtain ⟨_, h1, rfl⟩ := hv.num
  injection h1 with h1
  subst h1
  have HN := Lib.hid hN
  have HR1 := Lib.hid hR
  have HK1 := Lib.hid hK
  clear C hd hN hR hK hv
  by_cases h4 : N ≤ 4096
  rotate_left
  · go_wp2_with fail
    have hdv : decide ((N : Int) ≤ 4096) = false := decide_eq_false (by omega)
    first | rw [hdv] | skip
    refine (is_false _).mono ?_
    rintro e w' ⟨rfl, rfl⟩
    exact ⟨rfl, .inr ⟨rows_big HN.out h4, rfl⟩, HK1.out⟩
  go_wp2_with fail
  have hdv : decide ((N : Int) ≤ 4096) = true := decide_eq_true (by omega)
  rw [hdv]
  refine (is_true _).mono ?_
  rintro e w' ⟨rfl, rfl⟩
  clear hdv
  go_wp2
  go_loopw [6, 13] (fun v i wr => ∃ (j : Nat) (ds : List (List Da)) (lj : List UInt8) (A : Option Addr) (c : Nat) (xs : List Value), j ≤ N ∧ i = .int .i64 j ∧ v = .slice A j c ∧ Hid (iter (rds shMember) j l1 = some (ds, lj)) ∧ Hid (RdAt wr base g lj) ∧ Hid (wr.ownsRow w.heap.size 164 2 (.slice A j c) j xs) ∧ Hid (Things wr [] shMember ds xs) ∧ Hid (Rds base w wr) ∧ w.heap.size ≤ wr.heap.size) (fun _ i _ => N - (intOf i).toNat)
  case atStart => exact ⟨0, [], l1, none, 0, [], Nat.zero_le _, rfl, rfl, Lib.hid (by simp only [iter]), HR1, Lib.hid (World.ownsRow_nil _ w.heap.size 164 2), Lib.hid (Things.nil _ _ _ _), HK1, HK1.out.keeps.size⟩
  case round =>
    obtain ⟨j, ds, lj, A, c, xs, hj, rfl, rfl, HIT, HR, HO, HT, HK, hsz⟩ := hrel
    by_cases hlt2 : j < N
    · have C := Lib.hid (R_member base g lj wr HR.out)
      go_wp2_with fail
      refine (unhide C).mono ?_
      rintro e w2 ⟨hE, hK⟩
      rcases hE with ⟨d, l2, vs, hd, rfl, hC, hR⟩ | ⟨hd, rfl⟩
      rotate_left
      · exact ⟨rfl, .inr ⟨rows_none HN.out (iter_none HIT.out hd hlt2), rfl⟩, HK.out.trans hK⟩
      have hit := iter_snoc HIT.out hd
      have hlen : vs.length = 2 := hC.len.2
      obtain ⟨v0, vt0, rfl, hl0⟩ := len_cons (n := 1) hlen
      obtain ⟨v1, vt1, rfl, hl1⟩ := len_cons (n := 0) hl0
      obtain rfl := len_nil hl1
      clear hlen hl0 hl1
      have HC := Lib.hid hC
      have HR2 := Lib.hid hR
      have HIT2 := Lib.hid hit
      have HK2 := Lib.hid (HK.out.trans hK)
      have HO2 := Lib.hid (HO.out.keeps hK.keeps (by decide))
      have HT2 := Lib.hid (HT.out.keeps hK.keeps (by decide))
      have hsz2 := hK.keeps.size
      have hone := HC.out.oneCell
      clear C hC hR hit hK HR HO HT HK HIT
      go_wp2_with (at_builtin; refine wpList_appN rfl _ _ 69 rfl w.heap.size 164 i0 _ 2 i0.bytes Try.underlying69 HI.out.1 HI.out.2.1 HI.out.2.2 rfl rfl (by decide) (.slice A j c) j xs rfl (HO2.out.alloc _) ⟨w2.heap.size, 0, none⟩ 1 [v0, v1] rfl rfl (Blk.new w2 _ [v0, v1]).news hone (by unfold maxLen; omega) (Nat.le_trans (Nat.mul_le_mul_right _ (by omega)) (Nat.le_trans hby (by decide))) (by simp; omega) ?_; intro A3 c3 w3 HO3 HG3)
      have HKA : Hid (Keeps [164] w2 w3) := Lib.hid ((Keeps.alloc w2 _).trans (Keeps.grown (HO2.out.alloc _) HG3.out (by simp) HG3.out.size))
      have HBA : Hid (Below base w2 w3) := Lib.hid (((Below.refl _ _).alloc (by omega) _).grown HG3.out (by simp; omega) (by intro k hk; have := own_block_ge HO2.out k hk; omega))
      have hrel : ∃ (j' : Nat) (ds : List (List Da)) (lj : List UInt8) (A : Option Addr) (c : Nat) (xs : List Value), j' ≤ N ∧ Value.int .i64 ((j : Int) + 1) = .int .i64 j' ∧ Value.slice A3 (j + 1) c3 = .slice A j' c ∧ Hid (iter (rds shMember) j' l1 = some (ds, lj)) ∧ Hid (RdAt w3 base g lj) ∧ Hid (w3.ownsRow w.heap.size 164 2 (.slice A j' c) j' xs) ∧ Hid (Things w3 [] shMember ds xs) ∧ Hid (Rds base w w3) ∧ w.heap.size ≤ w3.heap.size := by
        refine ⟨j + 1, _, _, A3, c3, _, by omega, by simp, rfl, HIT2, Lib.hid (HR2.out.keeps HKA.out HBA.out (by decide) (by decide) (by decide)), HO3, Lib.hid ?_, Lib.hid ⟨HK2.out.below.trans HBA.out, ?_⟩, by have := HKA.out.size; omega⟩
        · exact (HT2.out.keeps HKA.out (by decide)).snoc (by have h1 := HO2.out.1; have h2 := iter_len_snoc HIT2.out; rw [h2]; exact h1) (HC.out.keeps HKA.out (by decide))
        · exact (HK2.out.keeps.then_below ((Below.refl _ _).alloc (Nat.le_refl _) _)).grown_new HG3.out (fun k hk => by have := own_block_ge HO2.out k hk; omega)
      clear HKA HBA HO3 HG3 HO2 HT2 HR2 HC HK2 HIT2
      go_wp2
      go_roundw
      case rel => obtain ⟨j', ds, lj, A, c, xs, h1, h2, h3, h4⟩ := hrel; exact ⟨j', ds, lj, A, c, xs, h1, by rw [← h2], h3, h4⟩
      case measure => simp [intOf]; omega
    · obtain rfl : j = N := by omega
      go_wp2
      go_ret
      have hl2 := iter_len HIT.out
      refine ⟨.inl ⟨.rows ds, lj, .slice A j c, rows_ok HN.out h4 HIT.out, rfl, ?_, HR.out⟩, HK.out⟩
      have hr := rowsAt_own (us := []) (l := shMember) (ds := ds) (by decide) HO.out hl2 HT.out
      have := Cel.mk_rows c hr
      rwa [hl2] at this

set_option maxHeartbeats 1600000 in
theorem R_grant (base g : Nat) (l : List UInt8) (w : World) (h : RdAt w base g l) :
    Calls Try.prog 127 #[.pointer (some ⟨g, 0, none⟩)] w fun e w' => SEnd shGrant l [] w' base g e ∧ Rds base w w' := by
  have hi : (Try.prog.info? 166).map (·.size) = some 6 := by kernel_rfl
  replace hi := Lib.hid hi
  have hlt := h.lt
  have HR := Lib.hid (h.below_ ((Below.refl _ _).alloc (Nat.le_refl _) (.cells #[.string ⟨#[]⟩, .string ⟨#[]⟩, .int .i64 0, .string ⟨#[]⟩, .string ⟨#[]⟩, .bool false] 166)))
  have HX := Lib.hid (Blk.new w 166 [.string ⟨#[]⟩, .string ⟨#[]⟩, .int .i64 0, .string ⟨#[]⟩, .string ⟨#[]⟩, .bool false])
  have HB : Hid (Below base w (w.alloc (.cells #[.string ⟨#[]⟩, .string ⟨#[]⟩, .int .i64 0, .string ⟨#[]⟩, .string ⟨#[]⟩, .bool false] 166))) := Lib.hid ((Below.refl _ _).alloc hlt _)
  have HK : Hid (Keeps [137, 229] w (w.alloc (.cells #[.string ⟨#[]⟩, .string ⟨#[]⟩, .int .i64 0, .string ⟨#[]⟩, .string ⟨#[]⟩, .bool false] 166))) := Lib.hid (Keeps.alloc _ _)
  clear h
  go_enter Try.func127, Try.ntmps127
  go_wp2_with fail
  refine (R_text base g l _ HR.out).mono ?_
  rintro e w0 ⟨hE, hK⟩
  rcases hE with ⟨d0, l0, v0, hd, rfl, hv, hR⟩ | ⟨hd, rfl⟩
  rotate_left
  · refine ⟨rfl, .inr ⟨?_, rfl⟩, HB.out.trans hK.below, HK.out.trans hK.keeps⟩
    rw [shGrant, rds_none hd]
  replace HB := Lib.hid (HB.out.trans hK.below)
  replace HK := Lib.hid (HK.out.trans hK.keeps)
  replace HX := Lib.hid (HX.out.keeps hK.keeps (by decide))
  have hd0 := Lib.hid hd
  obtain ⟨b0, rfl, rfl⟩ := hv.txt
  replace HR := Lib.hid hR
  have hsz0 := HK.out.size
  have hfz0 : w0.frozen? ⟨w.heap.size, 0, none⟩ = false := HX.out.frozen 0
  have hcx0_0 : w0.cell? ⟨w.heap.size, 0, none⟩ = some (.string ⟨#[]⟩) := HX.out.cell 0
  clear hd hR hK hv
  have HY : Hid (Blk (w0.setCell ⟨w.heap.size, 0, none⟩ (.string (text b0))) w.heap.size 166 [.string (text b0), .string ⟨#[]⟩, .int .i64 0, .string ⟨#[]⟩, .string ⟨#[]⟩, .bool false]) := Lib.hid (HX.out.set_ 0 (.string (text b0)))
  have HKA : Hid (Keeps [166] w0 (w0.setCell ⟨w.heap.size, 0, none⟩ (.string (text b0)))) := Lib.hid ((Keeps.refl _ _).trans (Keeps.set_ HX.out.typ (by simp) (.string (text b0))))
  have HBA : Hid (Below w.heap.size w0 (w0.setCell ⟨w.heap.size, 0, none⟩ (.string (text b0)))) := Lib.hid ((Below.refl w.heap.size w0).setCell (Nat.le_refl _) _)
  replace HX := HY
  replace HR := Lib.hid (HR.out.keeps HKA.out (HBA.out.mono hlt) (by decide) (by decide) (by decide))
  replace HB := Lib.hid (HB.out.trans (HBA.out.mono hlt))
  replace HK := Lib.hid (HK.out.below_new HBA.out)
  clear HY HKA HBA
  go_wp2_with fail
  refine (R_text base g l0 _ HR.out).mono ?_
  rintro e w1 ⟨hE, hK⟩
  rcases hE with ⟨d1, l1, v1, hd, rfl, hv, hR⟩ | ⟨hd, rfl⟩
  rotate_left
  · refine ⟨rfl, .inr ⟨?_, rfl⟩, HB.out.trans hK.below, HK.out.trans hK.keeps⟩
    rw [shGrant, rds_some hd0.out, rds_none hd]
    rfl
  replace HB := Lib.hid (HB.out.trans hK.below)
  replace HK := Lib.hid (HK.out.trans hK.keeps)
  replace HX := Lib.hid (HX.out.keeps hK.keeps (by decide))
  have hd1 := Lib.hid hd
  obtain ⟨b1, rfl, rfl⟩ := hv.txt
  replace HR := Lib.hid hR
  have hsz1 := HK.out.size
  have hfz1 : w1.frozen? ⟨w.heap.size, 1, none⟩ = false := HX.out.frozen 1
  have hcx1_0 : w1.cell? ⟨w.heap.size, 1, none⟩ = some (.string ⟨#[]⟩) := HX.out.cell 1
  clear hd hR hK hv
  have HY : Hid (Blk (w1.setCell ⟨w.heap.size, 1, none⟩ (.string (text b1))) w.heap.size 166 [.string (text b0), .string (text b1), .int .i64 0, .string ⟨#[]⟩, .string ⟨#[]⟩, .bool false]) := Lib.hid (HX.out.set_ 1 (.string (text b1)))
  have HKA : Hid (Keeps [166] w1 (w1.setCell ⟨w.heap.size, 1, none⟩ (.string (text b1)))) := Lib.hid ((Keeps.refl _ _).trans (Keeps.set_ HX.out.typ (by simp) (.string (text b1))))
  have HBA : Hid (Below w.heap.size w1 (w1.setCell ⟨w.heap.size, 1, none⟩ (.string (text b1)))) := Lib.hid ((Below.refl w.heap.size w1).setCell (Nat.le_refl _) _)
  replace HX := HY
  replace HR := Lib.hid (HR.out.keeps HKA.out (HBA.out.mono hlt) (by decide) (by decide) (by decide))
  replace HB := Lib.hid (HB.out.trans (HBA.out.mono hlt))
  replace HK := Lib.hid (HK.out.below_new HBA.out)
  clear HY HKA HBA
  go_wp2_with fail
  refine (R_num base g l1 _ HR.out).mono ?_
  rintro e w2 ⟨hE, hK⟩
  rcases hE with ⟨d2, l2, v2, hd, rfl, hv, hR⟩ | ⟨hd, rfl⟩
  rotate_left
  · refine ⟨rfl, .inr ⟨?_, rfl⟩, HB.out.trans hK.below, HK.out.trans hK.keeps⟩
    rw [shGrant, rds_some hd0.out, rds_some hd1.out, rds_none hd]
    rfl
  replace HB := Lib.hid (HB.out.trans hK.below)
  replace HK := Lib.hid (HK.out.trans hK.keeps)
  replace HX := Lib.hid (HX.out.keeps hK.keeps (by decide))
  have hd2 := Lib.hid hd
  obtain ⟨n2, rfl, rfl⟩ := hv.num
  replace HR := Lib.hid hR
  have hsz2 := HK.out.size
  have hfz2 : w2.frozen? ⟨w.heap.size, 2, none⟩ = false := HX.out.frozen 2
  have hcx2_0 : w2.cell? ⟨w.heap.size, 2, none⟩ = some (.int .i64 0) := HX.out.cell 2
  clear hd hR hK hv
  have HY : Hid (Blk (w2.setCell ⟨w.heap.size, 2, none⟩ (.int .i64 n2)) w.heap.size 166 [.string (text b0), .string (text b1), .int .i64 n2, .string ⟨#[]⟩, .string ⟨#[]⟩, .bool false]) := Lib.hid (HX.out.set_ 2 (.int .i64 n2))
  have HKA : Hid (Keeps [166] w2 (w2.setCell ⟨w.heap.size, 2, none⟩ (.int .i64 n2))) := Lib.hid ((Keeps.refl _ _).trans (Keeps.set_ HX.out.typ (by simp) (.int .i64 n2)))
  have HBA : Hid (Below w.heap.size w2 (w2.setCell ⟨w.heap.size, 2, none⟩ (.int .i64 n2))) := Lib.hid ((Below.refl w.heap.size w2).setCell (Nat.le_refl _) _)
  replace HX := HY
  replace HR := Lib.hid (HR.out.keeps HKA.out (HBA.out.mono hlt) (by decide) (by decide) (by decide))
  replace HB := Lib.hid (HB.out.trans (HBA.out.mono hlt))
  replace HK := Lib.hid (HK.out.below_new HBA.out)
  clear HY HKA HBA
  go_wp2_with fail
  refine (R_text base g l2 _ HR.out).mono ?_
  rintro e w3 ⟨hE, hK⟩
  rcases hE with ⟨d3, l3, v3, hd, rfl, hv, hR⟩ | ⟨hd, rfl⟩
  rotate_left
  · refine ⟨rfl, .inr ⟨?_, rfl⟩, HB.out.trans hK.below, HK.out.trans hK.keeps⟩
    rw [shGrant, rds_some hd0.out, rds_some hd1.out, rds_some hd2.out, rds_none hd]
    rfl
  replace HB := Lib.hid (HB.out.trans hK.below)
  replace HK := Lib.hid (HK.out.trans hK.keeps)
  replace HX := Lib.hid (HX.out.keeps hK.keeps (by decide))
  have hd3 := Lib.hid hd
  obtain ⟨b3, rfl, rfl⟩ := hv.txt
  replace HR := Lib.hid hR
  have hsz3 := HK.out.size
  have hfz3 : w3.frozen? ⟨w.heap.size, 3, none⟩ = false := HX.out.frozen 3
  have hcx3_0 : w3.cell? ⟨w.heap.size, 3, none⟩ = some (.string ⟨#[]⟩) := HX.out.cell 3
  clear hd hR hK hv
  have HY : Hid (Blk (w3.setCell ⟨w.heap.size, 3, none⟩ (.string (text b3))) w.heap.size 166 [.string (text b0), .string (text b1), .int .i64 n2, .string (text b3), .string ⟨#[]⟩, .bool false]) := Lib.hid (HX.out.set_ 3 (.string (text b3)))
  have HKA : Hid (Keeps [166] w3 (w3.setCell ⟨w.heap.size, 3, none⟩ (.string (text b3)))) := Lib.hid ((Keeps.refl _ _).trans (Keeps.set_ HX.out.typ (by simp) (.string (text b3))))
  have HBA : Hid (Below w.heap.size w3 (w3.setCell ⟨w.heap.size, 3, none⟩ (.string (text b3)))) := Lib.hid ((Below.refl w.heap.size w3).setCell (Nat.le_refl _) _)
  replace HX := HY
  replace HR := Lib.hid (HR.out.keeps HKA.out (HBA.out.mono hlt) (by decide) (by decide) (by decide))
  replace HB := Lib.hid (HB.out.trans (HBA.out.mono hlt))
  replace HK := Lib.hid (HK.out.below_new HBA.out)
  clear HY HKA HBA
  go_wp2_with fail
  refine (R_text base g l3 _ HR.out).mono ?_
  rintro e w4 ⟨hE, hK⟩
  rcases hE with ⟨d4, l4, v4, hd, rfl, hv, hR⟩ | ⟨hd, rfl⟩
  rotate_left
  · refine ⟨rfl, .inr ⟨?_, rfl⟩, HB.out.trans hK.below, HK.out.trans hK.keeps⟩
    rw [shGrant, rds_some hd0.out, rds_some hd1.out, rds_some hd2.out, rds_some hd3.out, rds_none hd]
    rfl
  replace HB := Lib.hid (HB.out.trans hK.below)
  replace HK := Lib.hid (HK.out.trans hK.keeps)
  replace HX := Lib.hid (HX.out.keeps hK.keeps (by decide))
  have hd4 := Lib.hid hd
  obtain ⟨b4, rfl, rfl⟩ := hv.txt
  replace HR := Lib.hid hR
  have hsz4 := HK.out.size
  have hfz4 : w4.frozen? ⟨w.heap.size, 4, none⟩ = false := HX.out.frozen 4
  have hcx4_0 : w4.cell? ⟨w.heap.size, 4, none⟩ = some (.string ⟨#[]⟩) := HX.out.cell 4
  clear hd hR hK hv
  have HY : Hid (Blk (w4.setCell ⟨w.heap.size, 4, none⟩ (.string (text b4))) w.heap.size 166 [.string (text b0), .string (text b1), .int .i64 n2, .string (text b3), .string (text b4), .bool false]) := Lib.hid (HX.out.set_ 4 (.string (text b4)))
  have HKA : Hid (Keeps [166] w4 (w4.setCell ⟨w.heap.size, 4, none⟩ (.string (text b4)))) := Lib.hid ((Keeps.refl _ _).trans (Keeps.set_ HX.out.typ (by simp) (.string (text b4))))
  have HBA : Hid (Below w.heap.size w4 (w4.setCell ⟨w.heap.size, 4, none⟩ (.string (text b4)))) := Lib.hid ((Below.refl w.heap.size w4).setCell (Nat.le_refl _) _)
  replace HX := HY
  replace HR := Lib.hid (HR.out.keeps HKA.out (HBA.out.mono hlt) (by decide) (by decide) (by decide))
  replace HB := Lib.hid (HB.out.trans (HBA.out.mono hlt))
  replace HK := Lib.hid (HK.out.below_new HBA.out)
  clear HY HKA HBA
  go_wp2_with fail
  refine (R_flag base g l4 _ HR.out).mono ?_
  rintro e w5 ⟨hE, hK⟩
  rcases hE with ⟨d5, l5, v5, hd, rfl, hv, hR⟩ | ⟨hd, rfl⟩
  rotate_left
  · refine ⟨rfl, .inr ⟨?_, rfl⟩, HB.out.trans hK.below, HK.out.trans hK.keeps⟩
    rw [shGrant, rds_some hd0.out, rds_some hd1.out, rds_some hd2.out, rds_some hd3.out, rds_some hd4.out, rds_none hd]
    rfl
  replace HB := Lib.hid (HB.out.trans hK.below)
  replace HK := Lib.hid (HK.out.trans hK.keeps)
  replace HX := Lib.hid (HX.out.keeps hK.keeps (by decide))
  have hd5 := Lib.hid hd
  obtain ⟨f5, rfl, rfl⟩ := hv.flag
  replace HR := Lib.hid hR
  have hsz5 := HK.out.size
  have hfz5 : w5.frozen? ⟨w.heap.size, 5, none⟩ = false := HX.out.frozen 5
  have hcx5_0 : w5.cell? ⟨w.heap.size, 5, none⟩ = some (.bool false) := HX.out.cell 5
  clear hd hR hK hv
  have HY : Hid (Blk (w5.setCell ⟨w.heap.size, 5, none⟩ (.bool f5)) w.heap.size 166 [.string (text b0), .string (text b1), .int .i64 n2, .string (text b3), .string (text b4), .bool f5]) := Lib.hid (HX.out.set_ 5 (.bool f5))
  have HKA : Hid (Keeps [166] w5 (w5.setCell ⟨w.heap.size, 5, none⟩ (.bool f5))) := Lib.hid ((Keeps.refl _ _).trans (Keeps.set_ HX.out.typ (by simp) (.bool f5)))
  have HBA : Hid (Below w.heap.size w5 (w5.setCell ⟨w.heap.size, 5, none⟩ (.bool f5))) := Lib.hid ((Below.refl w.heap.size w5).setCell (Nat.le_refl _) _)
  replace HX := HY
  replace HR := Lib.hid (HR.out.keeps HKA.out (HBA.out.mono hlt) (by decide) (by decide) (by decide))
  replace HB := Lib.hid (HB.out.trans (HBA.out.mono hlt))
  replace HK := Lib.hid (HK.out.below_new HBA.out)
  clear HY HKA HBA
  have HRG := Lib.hid HX.out.range0
  have HTE : Hid (World.there _ w.heap.size 0 (List.toArray ([.string (text b0), .string (text b1), .int .i64 n2, .string (text b3), .string (text b4), .bool f5] : List Value)).size) := Lib.hid (HX.out.there 0 6 (by simp))
  have hiV : Hid ((Try.prog.info? 166).map (·.size) = some (List.length ([.string (text b0), .string (text b1), .int .i64 n2, .string (text b3), .string (text b4), .bool f5] : List Value))) := Lib.hid hi.out
  have hsV : Hid ((Try.prog.info? 166).map (·.size) = some (List.toArray ([.string (text b0), .string (text b1), .int .i64 n2, .string (text b3), .string (text b4), .bool f5] : List Value)).size) := Lib.hid hi.out
  have h1V : Hid ((List.toArray ([.string (text b0), .string (text b1), .int .i64 n2, .string (text b3), .string (text b4), .bool f5] : List Value)).all (·.oneCell') = true) := Lib.hid (all_oneCell_toArray (by simp [Value.oneCell']))
  go_wp2_with (first | (with_reducible refine wpList_load_mid rfl 166 _ rfl w.heap.size 0 rfl [.string (text b0), .string (text b1), .int .i64 n2, .string (text b3), .string (text b4), .bool f5] _ HRG.out Try.underlying166 rfl hiV.out ?_) | (with_reducible refine wpList_store_mid rfl 166 _ _ rfl w.heap.size 0 (List.toArray ([.string (text b0), .string (text b1), .int .i64 n2, .string (text b3), .string (text b4), .bool f5] : List Value)) rfl rfl HTE.out hsV.out h1V.out ?_))
  have HXE := Lib.hid (HX.out.setCells0 [.string (text b0), .string (text b1), .int .i64 n2, .string (text b3), .string (text b4), .bool f5] rfl)
  have HKE := Lib.hid (Keeps.setCells (ts := [166]) (t := 166) (by simp) HX.out.typ 0 [.string (text b0), .string (text b1), .int .i64 n2, .string (text b3), .string (text b4), .bool f5])
  refine bodyPost_ret (results_cell rfl _ _ w.heap.size rfl [.string (text b0), .string (text b1), .int .i64 n2, .string (text b3), .string (text b4), .bool f5] _ HXE.out.range0 Try.underlying166 rfl hi.out) rfl ?_
  refine ⟨.inl ⟨[.text b0, .text b1, .int n2, .text b3, .text b4, .flag f5], l5, [.string (text b0), .string (text b1), .int .i64 n2, .string (text b3), .string (text b4), .bool f5], ?_, rfl, ?_, HR.out.keeps HKE.out (below_setCells_ hlt _ _) (by decide) (by decide) (by decide)⟩, HB.out.trans (below_setCells_ hlt _ _), HK.out.below_new (below_setCells_ (Nat.le_refl _) _ _)⟩
  · rw [shGrant, rds_some hd0.out, rds_some hd1.out, rds_some hd2.out, rds_some hd3.out, rds_some hd4.out, rds_some hd5.out, rds_nil]
    rfl
  · exact (Cels.mk (Cel.mk_text b0) (Cels.mk (Cel.mk_text b1) (Cels.mk (Cel.mk_num n2) (Cels.mk (Cel.mk_text b3) (Cels.mk (Cel.mk_text b4) (Cels.mk (Cel.mk_flag f5) Cels.mk0))))))

set_option maxHeartbeats 1600000 in
theorem R_few_Grant (base g : Nat) (l : List UInt8) (w : World) (h : RdAt w base g l) :
    Calls Try.prog 126 #[.pointer (some ⟨g, 0, none⟩), .func (.func 127) #[] #[]] w fun e w' => FEnd (.rows shGrant) l [166] w' base g e ∧ Rds base w w' := by
  obtain ⟨i0, hi0⟩ : ∃ i, Try.prog.info? 166 = some i := by
    cases hq : Try.prog.info? 166 with
    | none => have h0 : (Try.prog.info? 166).isSome = true := by kernel_rfl
              rw [hq] at h0; cases h0
    | some i => exact ⟨i, rfl⟩
  have hinf : (Try.prog.info? 166).map (fun i => (i.zero, i.size, decide (i.bytes ≤ 1000))) = some (some (.agg #[.string ⟨#[]⟩, .string ⟨#[]⟩, .int .i64 0, .string ⟨#[]⟩, .string ⟨#[]⟩, .bool false]), 6, true) := by kernel_rfl
  rw [hi0] at hinf
  simp only [Option.map_some, Option.some.injEq, Prod.mk.injEq, decide_eq_true_eq] at hinf
  obtain ⟨hz0, hz1, hz2⟩ := hinf
  have hby := Nat.mul_le_mul_left 4097 hz2
  have HI := Lib.hid (And.intro hi0 (And.intro hz0 hz1))
  clear hi0 hz0 hz1
  have hlt := h.lt
  have C := Lib.hid (R_num base g l w h)
  clear h
  go_enter Try.func126, Try.ntmps126
  go_wp2_with fail
  refine (unhide C).mono ?_
  rintro e w1 ⟨hE, hK⟩
  rcases hE with ⟨d, l1, v, hd, rfl, hv, hR⟩ | ⟨hd, rfl⟩
  rotate_left
  · exact ⟨rfl, .inr ⟨rows_num (rd_num_none hd), rfl⟩, hK⟩
  obtain ⟨N, rfl, hN, hN9⟩ := rd_num_inv hd
  obtain ⟨_, h1, rfl⟩ := hv.num
  injection h1 with h1
  subst h1
  have HN := Lib.hid hN
  have HR1 := Lib.hid hR
  have HK1 := Lib.hid hK
  clear C hd hN hR hK hv
  by_cases h4 : N ≤ 4096
  rotate_left
  · go_wp2_with fail
    have hdv : decide ((N : Int) ≤ 4096) = false := decide_eq_false (by omega)
    first | rw [hdv] | skip
    refine (is_false _).mono ?_
    rintro e w' ⟨rfl, rfl⟩
    exact ⟨rfl, .inr ⟨rows_big HN.out h4, rfl⟩, HK1.out⟩
  go_wp2_with fail
  have hdv : decide ((N : Int) ≤ 4096) = true := decide_eq_true (by omega)
  rw [hdv]
  refine (is_true _).mono ?_
  rintro e w' ⟨rfl, rfl⟩
  clear hdv
  go_wp2
  go_loopw [6, 13] (fun v i wr => ∃ (j : Nat) (ds : List (List Da)) (lj : List UInt8) (A : Option Addr) (c : Nat) (xs : List Value), j ≤ N ∧ i = .int .i64 j ∧ v = .slice A j c ∧ Hid (iter (rds shGrant) j l1 = some (ds, lj)) ∧ Hid (RdAt wr base g lj) ∧ Hid (wr.ownsRow w.heap.size 166 6 (.slice A j c) j xs) ∧ Hid (Things wr [] shGrant ds xs) ∧ Hid (Rds base w wr) ∧ w.heap.size ≤ wr.heap.size) (fun _ i _ => N - (intOf i).toNat)
  case atStart => exact ⟨0, [], l1, none, 0, [], Nat.zero_le _, rfl, rfl, Lib.hid (by simp only [iter]), HR1, Lib.hid (World.ownsRow_nil _ w.heap.size 166 6), Lib.hid (Things.nil _ _ _ _), HK1, HK1.out.keeps.size⟩
  case round =>
    obtain ⟨j, ds, lj, A, c, xs, hj, rfl, rfl, HIT, HR, HO, HT, HK, hsz⟩ := hrel
    by_cases hlt2 : j < N
    · have C := Lib.hid (R_grant base g lj wr HR.out)
      go_wp2_with fail
      refine (unhide C).mono ?_
      rintro e w2 ⟨hE, hK⟩
      rcases hE with ⟨d, l2, vs, hd, rfl, hC, hR⟩ | ⟨hd, rfl⟩
      rotate_left
      · exact ⟨rfl, .inr ⟨rows_none HN.out (iter_none HIT.out hd hlt2), rfl⟩, HK.out.trans hK⟩
      have hit := iter_snoc HIT.out hd
      have hlen : vs.length = 6 := hC.len.2
      obtain ⟨v0, vt0, rfl, hl0⟩ := len_cons (n := 5) hlen
      obtain ⟨v1, vt1, rfl, hl1⟩ := len_cons (n := 4) hl0
      obtain ⟨v2, vt2, rfl, hl2⟩ := len_cons (n := 3) hl1
      obtain ⟨v3, vt3, rfl, hl3⟩ := len_cons (n := 2) hl2
      obtain ⟨v4, vt4, rfl, hl4⟩ := len_cons (n := 1) hl3
      obtain ⟨v5, vt5, rfl, hl5⟩ := len_cons (n := 0) hl4
      obtain rfl := len_nil hl5
      clear hlen hl0 hl1 hl2 hl3 hl4 hl5
      have HC := Lib.hid hC
      have HR2 := Lib.hid hR
      have HIT2 := Lib.hid hit
      have HK2 := Lib.hid (HK.out.trans hK)
      have HO2 := Lib.hid (HO.out.keeps hK.keeps (by decide))
      have HT2 := Lib.hid (HT.out.keeps hK.keeps (by decide))
      have hsz2 := hK.keeps.size
      have hone := HC.out.oneCell
      clear C hC hR hit hK HR HO HT HK HIT
      go_wp2_with (at_builtin; refine wpList_appN rfl _ _ 72 rfl w.heap.size 166 i0 _ 6 i0.bytes Try.underlying72 HI.out.1 HI.out.2.1 HI.out.2.2 rfl rfl (by decide) (.slice A j c) j xs rfl (HO2.out.alloc _) ⟨w2.heap.size, 0, none⟩ 1 [v0, v1, v2, v3, v4, v5] rfl rfl (Blk.new w2 _ [v0, v1, v2, v3, v4, v5]).news hone (by unfold maxLen; omega) (Nat.le_trans (Nat.mul_le_mul_right _ (by omega)) (Nat.le_trans hby (by decide))) (by simp; omega) ?_; intro A3 c3 w3 HO3 HG3)
      have HKA : Hid (Keeps [166] w2 w3) := Lib.hid ((Keeps.alloc w2 _).trans (Keeps.grown (HO2.out.alloc _) HG3.out (by simp) HG3.out.size))
      have HBA : Hid (Below base w2 w3) := Lib.hid (((Below.refl _ _).alloc (by omega) _).grown HG3.out (by simp; omega) (by intro k hk; have := own_block_ge HO2.out k hk; omega))
      have hrel : ∃ (j' : Nat) (ds : List (List Da)) (lj : List UInt8) (A : Option Addr) (c : Nat) (xs : List Value), j' ≤ N ∧ Value.int .i64 ((j : Int) + 1) = .int .i64 j' ∧ Value.slice A3 (j + 1) c3 = .slice A j' c ∧ Hid (iter (rds shGrant) j' l1 = some (ds, lj)) ∧ Hid (RdAt w3 base g lj) ∧ Hid (w3.ownsRow w.heap.size 166 6 (.slice A j' c) j' xs) ∧ Hid (Things w3 [] shGrant ds xs) ∧ Hid (Rds base w w3) ∧ w.heap.size ≤ w3.heap.size := by
        refine ⟨j + 1, _, _, A3, c3, _, by omega, by simp, rfl, HIT2, Lib.hid (HR2.out.keeps HKA.out HBA.out (by decide) (by decide) (by decide)), HO3, Lib.hid ?_, Lib.hid ⟨HK2.out.below.trans HBA.out, ?_⟩, by have := HKA.out.size; omega⟩
        · exact (HT2.out.keeps HKA.out (by decide)).snoc (by have h1 := HO2.out.1; have h2 := iter_len_snoc HIT2.out; rw [h2]; exact h1) (HC.out.keeps HKA.out (by decide))
        · exact (HK2.out.keeps.then_below ((Below.refl _ _).alloc (Nat.le_refl _) _)).grown_new HG3.out (fun k hk => by have := own_block_ge HO2.out k hk; omega)
      clear HKA HBA HO3 HG3 HO2 HT2 HR2 HC HK2 HIT2
      go_wp2
      go_roundw
      case rel => obtain ⟨j', ds, lj, A, c, xs, h1, h2, h3, h4⟩ := hrel; exact ⟨j', ds, lj, A, c, xs, h1, by rw [← h2], h3, h4⟩
      case measure => simp [intOf]; omega
    · obtain rfl : j = N := by omega
      go_wp2
      go_ret
      have hl2 := iter_len HIT.out
      refine ⟨.inl ⟨.rows ds, lj, .slice A j c, rows_ok HN.out h4 HIT.out, rfl, ?_, HR.out⟩, HK.out⟩
      have hr := rowsAt_own (us := []) (l := shGrant) (ds := ds) (by decide) HO.out hl2 HT.out
      have := Cel.mk_rows c hr
      rwa [hl2] at this

set_option maxHeartbeats 1600000 in
theorem R_catalog (base g : Nat) (l : List UInt8) (w : World) (h : RdAt w base g l) :
    Calls Try.prog 61 #[.pointer (some ⟨g, 0, none⟩)] w fun e w' => SEnd shCatalog l [169, 175, 150, 46, 9, 164, 166] w' base g e ∧ Rds base w w' := by
  have hi : (Try.prog.info? 74).map (·.size) = some 7 := by kernel_rfl
  replace hi := Lib.hid hi
  have hlt := h.lt
  have HR := Lib.hid (h.below_ ((Below.refl _ _).alloc (Nat.le_refl _) (.cells #[.int .i64 0, .int .i64 0, .slice none 0 0, .slice none 0 0, .slice none 0 0, .slice none 0 0, .slice none 0 0] 74)))
  have HX := Lib.hid (Blk.new w 74 [.int .i64 0, .int .i64 0, .slice none 0 0, .slice none 0 0, .slice none 0 0, .slice none 0 0, .slice none 0 0])
  have HB : Hid (Below base w (w.alloc (.cells #[.int .i64 0, .int .i64 0, .slice none 0 0, .slice none 0 0, .slice none 0 0, .slice none 0 0, .slice none 0 0] 74))) := Lib.hid ((Below.refl _ _).alloc hlt _)
  have HK : Hid (Keeps [137, 229] w (w.alloc (.cells #[.int .i64 0, .int .i64 0, .slice none 0 0, .slice none 0 0, .slice none 0 0, .slice none 0 0, .slice none 0 0] 74))) := Lib.hid (Keeps.alloc _ _)
  clear h
  go_enter Try.func61, Try.ntmps61
  go_wp2_with fail
  refine (R_num base g l _ HR.out).mono ?_
  rintro e w0 ⟨hE, hK⟩
  rcases hE with ⟨d0, l0, v0, hd, rfl, hv, hR⟩ | ⟨hd, rfl⟩
  rotate_left
  · refine ⟨rfl, .inr ⟨?_, rfl⟩, HB.out.trans hK.below, HK.out.trans hK.keeps⟩
    rw [shCatalog, rds_none hd]
  replace HB := Lib.hid (HB.out.trans hK.below)
  replace HK := Lib.hid (HK.out.trans hK.keeps)
  replace HX := Lib.hid (HX.out.keeps hK.keeps (by decide))
  have hd0 := Lib.hid hd
  obtain ⟨n0, rfl, rfl⟩ := hv.num
  replace HR := Lib.hid hR
  have hsz0 := HK.out.size
  have hfz0 : w0.frozen? ⟨w.heap.size, 0, none⟩ = false := HX.out.frozen 0
  have hcx0_0 : w0.cell? ⟨w.heap.size, 0, none⟩ = some (.int .i64 0) := HX.out.cell 0
  clear hd hR hK hv
  have HY : Hid (Blk (w0.setCell ⟨w.heap.size, 0, none⟩ (.int .i64 n0)) w.heap.size 74 [.int .i64 n0, .int .i64 0, .slice none 0 0, .slice none 0 0, .slice none 0 0, .slice none 0 0, .slice none 0 0]) := Lib.hid (HX.out.set_ 0 (.int .i64 n0))
  have HKA : Hid (Keeps [74] w0 (w0.setCell ⟨w.heap.size, 0, none⟩ (.int .i64 n0))) := Lib.hid ((Keeps.refl _ _).trans (Keeps.set_ HX.out.typ (by simp) (.int .i64 n0)))
  have HBA : Hid (Below w.heap.size w0 (w0.setCell ⟨w.heap.size, 0, none⟩ (.int .i64 n0))) := Lib.hid ((Below.refl w.heap.size w0).setCell (Nat.le_refl _) _)
  replace HX := HY
  replace HR := Lib.hid (HR.out.keeps HKA.out (HBA.out.mono hlt) (by decide) (by decide) (by decide))
  replace HB := Lib.hid (HB.out.trans (HBA.out.mono hlt))
  replace HK := Lib.hid (HK.out.below_new HBA.out)
  clear HY HKA HBA
  go_wp2_with fail
  refine (R_num base g l0 _ HR.out).mono ?_
  rintro e w1 ⟨hE, hK⟩
  rcases hE with ⟨d1, l1, v1, hd, rfl, hv, hR⟩ | ⟨hd, rfl⟩
  rotate_left
  · refine ⟨rfl, .inr ⟨?_, rfl⟩, HB.out.trans hK.below, HK.out.trans hK.keeps⟩
    rw [shCatalog, rds_some hd0.out, rds_none hd]
    rfl
  replace HB := Lib.hid (HB.out.trans hK.below)
  replace HK := Lib.hid (HK.out.trans hK.keeps)
  replace HX := Lib.hid (HX.out.keeps hK.keeps (by decide))
  have hd1 := Lib.hid hd
  obtain ⟨n1, rfl, rfl⟩ := hv.num
  replace HR := Lib.hid hR
  have hsz1 := HK.out.size
  have hfz1 : w1.frozen? ⟨w.heap.size, 1, none⟩ = false := HX.out.frozen 1
  have hcx1_0 : w1.cell? ⟨w.heap.size, 1, none⟩ = some (.int .i64 0) := HX.out.cell 1
  clear hd hR hK hv
  have HY : Hid (Blk (w1.setCell ⟨w.heap.size, 1, none⟩ (.int .i64 n1)) w.heap.size 74 [.int .i64 n0, .int .i64 n1, .slice none 0 0, .slice none 0 0, .slice none 0 0, .slice none 0 0, .slice none 0 0]) := Lib.hid (HX.out.set_ 1 (.int .i64 n1))
  have HKA : Hid (Keeps [74] w1 (w1.setCell ⟨w.heap.size, 1, none⟩ (.int .i64 n1))) := Lib.hid ((Keeps.refl _ _).trans (Keeps.set_ HX.out.typ (by simp) (.int .i64 n1)))
  have HBA : Hid (Below w.heap.size w1 (w1.setCell ⟨w.heap.size, 1, none⟩ (.int .i64 n1))) := Lib.hid ((Below.refl w.heap.size w1).setCell (Nat.le_refl _) _)
  replace HX := HY
  replace HR := Lib.hid (HR.out.keeps HKA.out (HBA.out.mono hlt) (by decide) (by decide) (by decide))
  replace HB := Lib.hid (HB.out.trans (HBA.out.mono hlt))
  replace HK := Lib.hid (HK.out.below_new HBA.out)
  clear HY HKA HBA
  go_wp2_with fail
  refine (R_few_Schema base g l1 _ HR.out).mono ?_
  rintro e w2 ⟨hE, hK⟩
  rcases hE with ⟨d2, l2, v2, hd, rfl, hv, hR⟩ | ⟨hd, rfl⟩
  rotate_left
  · refine ⟨rfl, .inr ⟨?_, rfl⟩, HB.out.trans hK.below, HK.out.trans hK.keeps⟩
    rw [shCatalog, rds_some hd0.out, rds_some hd1.out, rds_none hd]
    rfl
  replace HB := Lib.hid (HB.out.trans hK.below)
  replace HK := Lib.hid (HK.out.trans hK.keeps)
  replace HX := Lib.hid (HX.out.keeps hK.keeps (by decide))
  have hd2 := Lib.hid hd
  obtain ⟨r2, A2, k2, rfl, rfl, R2⟩ := hv.rows
  replace R2 := Lib.hid R2
  replace HR := Lib.hid hR
  have hsz2 := HK.out.size
  have hfz2 : w2.frozen? ⟨w.heap.size, 2, none⟩ = false := HX.out.frozen 2
  have hcx2_0 : w2.cell? ⟨w.heap.size, 2, none⟩ = some (.slice none 0 0) := HX.out.cell 2
  clear hd hR hK hv
  have HY : Hid (Blk (w2.setCell ⟨w.heap.size, 2, none⟩ (.slice A2 r2.length k2)) w.heap.size 74 [.int .i64 n0, .int .i64 n1, .slice A2 r2.length k2, .slice none 0 0, .slice none 0 0, .slice none 0 0, .slice none 0 0]) := Lib.hid (HX.out.set_ 2 (.slice A2 r2.length k2))
  have HKA : Hid (Keeps [74] w2 (w2.setCell ⟨w.heap.size, 2, none⟩ (.slice A2 r2.length k2))) := Lib.hid ((Keeps.refl _ _).trans (Keeps.set_ HX.out.typ (by simp) (.slice A2 r2.length k2)))
  have HBA : Hid (Below w.heap.size w2 (w2.setCell ⟨w.heap.size, 2, none⟩ (.slice A2 r2.length k2))) := Lib.hid ((Below.refl w.heap.size w2).setCell (Nat.le_refl _) _)
  replace HX := HY
  replace HR := Lib.hid (HR.out.keeps HKA.out (HBA.out.mono hlt) (by decide) (by decide) (by decide))
  replace R2 := Lib.hid (rows_keeps R2.out HKA.out (by decide))
  replace HB := Lib.hid (HB.out.trans (HBA.out.mono hlt))
  replace HK := Lib.hid (HK.out.below_new HBA.out)
  clear HY HKA HBA
  go_wp2_with fail
  refine (R_few_Table base g l2 _ HR.out).mono ?_
  rintro e w3 ⟨hE, hK⟩
  rcases hE with ⟨d3, l3, v3, hd, rfl, hv, hR⟩ | ⟨hd, rfl⟩
  rotate_left
  · refine ⟨rfl, .inr ⟨?_, rfl⟩, HB.out.trans hK.below, HK.out.trans hK.keeps⟩
    rw [shCatalog, rds_some hd0.out, rds_some hd1.out, rds_some hd2.out, rds_none hd]
    rfl
  replace HB := Lib.hid (HB.out.trans hK.below)
  replace HK := Lib.hid (HK.out.trans hK.keeps)
  replace HX := Lib.hid (HX.out.keeps hK.keeps (by decide))
  replace R2 := Lib.hid (rows_keeps R2.out hK.keeps (by decide))
  have hd3 := Lib.hid hd
  obtain ⟨r3, A3, k3, rfl, rfl, R3⟩ := hv.rows
  replace R3 := Lib.hid R3
  replace HR := Lib.hid hR
  have hsz3 := HK.out.size
  have hfz3 : w3.frozen? ⟨w.heap.size, 3, none⟩ = false := HX.out.frozen 3
  have hcx3_0 : w3.cell? ⟨w.heap.size, 3, none⟩ = some (.slice none 0 0) := HX.out.cell 3
  clear hd hR hK hv
  have HY : Hid (Blk (w3.setCell ⟨w.heap.size, 3, none⟩ (.slice A3 r3.length k3)) w.heap.size 74 [.int .i64 n0, .int .i64 n1, .slice A2 r2.length k2, .slice A3 r3.length k3, .slice none 0 0, .slice none 0 0, .slice none 0 0]) := Lib.hid (HX.out.set_ 3 (.slice A3 r3.length k3))
  have HKA : Hid (Keeps [74] w3 (w3.setCell ⟨w.heap.size, 3, none⟩ (.slice A3 r3.length k3))) := Lib.hid ((Keeps.refl _ _).trans (Keeps.set_ HX.out.typ (by simp) (.slice A3 r3.length k3)))
  have HBA : Hid (Below w.heap.size w3 (w3.setCell ⟨w.heap.size, 3, none⟩ (.slice A3 r3.length k3))) := Lib.hid ((Below.refl w.heap.size w3).setCell (Nat.le_refl _) _)
  replace HX := HY
  replace HR := Lib.hid (HR.out.keeps HKA.out (HBA.out.mono hlt) (by decide) (by decide) (by decide))
  replace R2 := Lib.hid (rows_keeps R2.out HKA.out (by decide))
  replace R3 := Lib.hid (rows_keeps R3.out HKA.out (by decide))
  replace HB := Lib.hid (HB.out.trans (HBA.out.mono hlt))
  replace HK := Lib.hid (HK.out.below_new HBA.out)
  clear HY HKA HBA
  go_wp2_with fail
  refine (R_few_string base g l3 _ HR.out).mono ?_
  rintro e w4 ⟨hE, hK⟩
  rcases hE with ⟨d4, l4, v4, hd, rfl, hv, hR⟩ | ⟨hd, rfl⟩
  rotate_left
  · refine ⟨rfl, .inr ⟨?_, rfl⟩, HB.out.trans hK.below, HK.out.trans hK.keeps⟩
    rw [shCatalog, rds_some hd0.out, rds_some hd1.out, rds_some hd2.out, rds_some hd3.out, rds_none hd]
    rfl
  replace HB := Lib.hid (HB.out.trans hK.below)
  replace HK := Lib.hid (HK.out.trans hK.keeps)
  replace HX := Lib.hid (HX.out.keeps hK.keeps (by decide))
  replace R2 := Lib.hid (rows_keeps R2.out hK.keeps (by decide))
  replace R3 := Lib.hid (rows_keeps R3.out hK.keeps (by decide))
  have hd4 := Lib.hid hd
  obtain ⟨r4, A4, k4, rfl, rfl, R4⟩ := hv.rows
  replace R4 := Lib.hid R4
  replace HR := Lib.hid hR
  have hsz4 := HK.out.size
  have hfz4 : w4.frozen? ⟨w.heap.size, 4, none⟩ = false := HX.out.frozen 4
  have hcx4_0 : w4.cell? ⟨w.heap.size, 4, none⟩ = some (.slice none 0 0) := HX.out.cell 4
  clear hd hR hK hv
  have HY : Hid (Blk (w4.setCell ⟨w.heap.size, 4, none⟩ (.slice A4 r4.length k4)) w.heap.size 74 [.int .i64 n0, .int .i64 n1, .slice A2 r2.length k2, .slice A3 r3.length k3, .slice A4 r4.length k4, .slice none 0 0, .slice none 0 0]) := Lib.hid (HX.out.set_ 4 (.slice A4 r4.length k4))
  have HKA : Hid (Keeps [74] w4 (w4.setCell ⟨w.heap.size, 4, none⟩ (.slice A4 r4.length k4))) := Lib.hid ((Keeps.refl _ _).trans (Keeps.set_ HX.out.typ (by simp) (.slice A4 r4.length k4)))
  have HBA : Hid (Below w.heap.size w4 (w4.setCell ⟨w.heap.size, 4, none⟩ (.slice A4 r4.length k4))) := Lib.hid ((Below.refl w.heap.size w4).setCell (Nat.le_refl _) _)
  replace HX := HY
  replace HR := Lib.hid (HR.out.keeps HKA.out (HBA.out.mono hlt) (by decide) (by decide) (by decide))
  replace R2 := Lib.hid (rows_keeps R2.out HKA.out (by decide))
  replace R3 := Lib.hid (rows_keeps R3.out HKA.out (by decide))
  replace R4 := Lib.hid (rows_keeps R4.out HKA.out (by decide))
  replace HB := Lib.hid (HB.out.trans (HBA.out.mono hlt))
  replace HK := Lib.hid (HK.out.below_new HBA.out)
  clear HY HKA HBA
  go_wp2_with fail
  refine (R_few_Member base g l4 _ HR.out).mono ?_
  rintro e w5 ⟨hE, hK⟩
  rcases hE with ⟨d5, l5, v5, hd, rfl, hv, hR⟩ | ⟨hd, rfl⟩
  rotate_left
  · refine ⟨rfl, .inr ⟨?_, rfl⟩, HB.out.trans hK.below, HK.out.trans hK.keeps⟩
    rw [shCatalog, rds_some hd0.out, rds_some hd1.out, rds_some hd2.out, rds_some hd3.out, rds_some hd4.out, rds_none hd]
    rfl
  replace HB := Lib.hid (HB.out.trans hK.below)
  replace HK := Lib.hid (HK.out.trans hK.keeps)
  replace HX := Lib.hid (HX.out.keeps hK.keeps (by decide))
  replace R2 := Lib.hid (rows_keeps R2.out hK.keeps (by decide))
  replace R3 := Lib.hid (rows_keeps R3.out hK.keeps (by decide))
  replace R4 := Lib.hid (rows_keeps R4.out hK.keeps (by decide))
  have hd5 := Lib.hid hd
  obtain ⟨r5, A5, k5, rfl, rfl, R5⟩ := hv.rows
  replace R5 := Lib.hid R5
  replace HR := Lib.hid hR
  have hsz5 := HK.out.size
  have hfz5 : w5.frozen? ⟨w.heap.size, 5, none⟩ = false := HX.out.frozen 5
  have hcx5_0 : w5.cell? ⟨w.heap.size, 5, none⟩ = some (.slice none 0 0) := HX.out.cell 5
  clear hd hR hK hv
  have HY : Hid (Blk (w5.setCell ⟨w.heap.size, 5, none⟩ (.slice A5 r5.length k5)) w.heap.size 74 [.int .i64 n0, .int .i64 n1, .slice A2 r2.length k2, .slice A3 r3.length k3, .slice A4 r4.length k4, .slice A5 r5.length k5, .slice none 0 0]) := Lib.hid (HX.out.set_ 5 (.slice A5 r5.length k5))
  have HKA : Hid (Keeps [74] w5 (w5.setCell ⟨w.heap.size, 5, none⟩ (.slice A5 r5.length k5))) := Lib.hid ((Keeps.refl _ _).trans (Keeps.set_ HX.out.typ (by simp) (.slice A5 r5.length k5)))
  have HBA : Hid (Below w.heap.size w5 (w5.setCell ⟨w.heap.size, 5, none⟩ (.slice A5 r5.length k5))) := Lib.hid ((Below.refl w.heap.size w5).setCell (Nat.le_refl _) _)
  replace HX := HY
  replace HR := Lib.hid (HR.out.keeps HKA.out (HBA.out.mono hlt) (by decide) (by decide) (by decide))
  replace R2 := Lib.hid (rows_keeps R2.out HKA.out (by decide))
  replace R3 := Lib.hid (rows_keeps R3.out HKA.out (by decide))
  replace R4 := Lib.hid (rows_keeps R4.out HKA.out (by decide))
  replace R5 := Lib.hid (rows_keeps R5.out HKA.out (by decide))
  replace HB := Lib.hid (HB.out.trans (HBA.out.mono hlt))
  replace HK := Lib.hid (HK.out.below_new HBA.out)
  clear HY HKA HBA
  go_wp2_with fail
  refine (R_few_Grant base g l5 _ HR.out).mono ?_
  rintro e w6 ⟨hE, hK⟩
  rcases hE with ⟨d6, l6, v6, hd, rfl, hv, hR⟩ | ⟨hd, rfl⟩
  rotate_left
  · refine ⟨rfl, .inr ⟨?_, rfl⟩, HB.out.trans hK.below, HK.out.trans hK.keeps⟩
    rw [shCatalog, rds_some hd0.out, rds_some hd1.out, rds_some hd2.out, rds_some hd3.out, rds_some hd4.out, rds_some hd5.out, rds_none hd]
    rfl
  replace HB := Lib.hid (HB.out.trans hK.below)
  replace HK := Lib.hid (HK.out.trans hK.keeps)
  replace HX := Lib.hid (HX.out.keeps hK.keeps (by decide))
  replace R2 := Lib.hid (rows_keeps R2.out hK.keeps (by decide))
  replace R3 := Lib.hid (rows_keeps R3.out hK.keeps (by decide))
  replace R4 := Lib.hid (rows_keeps R4.out hK.keeps (by decide))
  replace R5 := Lib.hid (rows_keeps R5.out hK.keeps (by decide))
  have hd6 := Lib.hid hd
  obtain ⟨r6, A6, k6, rfl, rfl, R6⟩ := hv.rows
  replace R6 := Lib.hid R6
  replace HR := Lib.hid hR
  have hsz6 := HK.out.size
  have hfz6 : w6.frozen? ⟨w.heap.size, 6, none⟩ = false := HX.out.frozen 6
  have hcx6_0 : w6.cell? ⟨w.heap.size, 6, none⟩ = some (.slice none 0 0) := HX.out.cell 6
  clear hd hR hK hv
  have HY : Hid (Blk (w6.setCell ⟨w.heap.size, 6, none⟩ (.slice A6 r6.length k6)) w.heap.size 74 [.int .i64 n0, .int .i64 n1, .slice A2 r2.length k2, .slice A3 r3.length k3, .slice A4 r4.length k4, .slice A5 r5.length k5, .slice A6 r6.length k6]) := Lib.hid (HX.out.set_ 6 (.slice A6 r6.length k6))
  have HKA : Hid (Keeps [74] w6 (w6.setCell ⟨w.heap.size, 6, none⟩ (.slice A6 r6.length k6))) := Lib.hid ((Keeps.refl _ _).trans (Keeps.set_ HX.out.typ (by simp) (.slice A6 r6.length k6)))
  have HBA : Hid (Below w.heap.size w6 (w6.setCell ⟨w.heap.size, 6, none⟩ (.slice A6 r6.length k6))) := Lib.hid ((Below.refl w.heap.size w6).setCell (Nat.le_refl _) _)
  replace HX := HY
  replace HR := Lib.hid (HR.out.keeps HKA.out (HBA.out.mono hlt) (by decide) (by decide) (by decide))
  replace R2 := Lib.hid (rows_keeps R2.out HKA.out (by decide))
  replace R3 := Lib.hid (rows_keeps R3.out HKA.out (by decide))
  replace R4 := Lib.hid (rows_keeps R4.out HKA.out (by decide))
  replace R5 := Lib.hid (rows_keeps R5.out HKA.out (by decide))
  replace R6 := Lib.hid (rows_keeps R6.out HKA.out (by decide))
  replace HB := Lib.hid (HB.out.trans (HBA.out.mono hlt))
  replace HK := Lib.hid (HK.out.below_new HBA.out)
  clear HY HKA HBA
  have HRG := Lib.hid HX.out.range0
  have HTE : Hid (World.there _ w.heap.size 0 (List.toArray ([.int .i64 n0, .int .i64 n1, .slice A2 r2.length k2, .slice A3 r3.length k3, .slice A4 r4.length k4, .slice A5 r5.length k5, .slice A6 r6.length k6] : List Value)).size) := Lib.hid (HX.out.there 0 7 (by simp))
  have hiV : Hid ((Try.prog.info? 74).map (·.size) = some (List.length ([.int .i64 n0, .int .i64 n1, .slice A2 r2.length k2, .slice A3 r3.length k3, .slice A4 r4.length k4, .slice A5 r5.length k5, .slice A6 r6.length k6] : List Value))) := Lib.hid hi.out
  have hsV : Hid ((Try.prog.info? 74).map (·.size) = some (List.toArray ([.int .i64 n0, .int .i64 n1, .slice A2 r2.length k2, .slice A3 r3.length k3, .slice A4 r4.length k4, .slice A5 r5.length k5, .slice A6 r6.length k6] : List Value)).size) := Lib.hid hi.out
  have h1V : Hid ((List.toArray ([.int .i64 n0, .int .i64 n1, .slice A2 r2.length k2, .slice A3 r3.length k3, .slice A4 r4.length k4, .slice A5 r5.length k5, .slice A6 r6.length k6] : List Value)).all (·.oneCell') = true) := Lib.hid (all_oneCell_toArray (by simp [Value.oneCell']))
  go_wp2_with (first | (with_reducible refine wpList_load_mid rfl 74 _ rfl w.heap.size 0 rfl [.int .i64 n0, .int .i64 n1, .slice A2 r2.length k2, .slice A3 r3.length k3, .slice A4 r4.length k4, .slice A5 r5.length k5, .slice A6 r6.length k6] _ HRG.out Try.underlying74 rfl hiV.out ?_) | (with_reducible refine wpList_store_mid rfl 74 _ _ rfl w.heap.size 0 (List.toArray ([.int .i64 n0, .int .i64 n1, .slice A2 r2.length k2, .slice A3 r3.length k3, .slice A4 r4.length k4, .slice A5 r5.length k5, .slice A6 r6.length k6] : List Value)) rfl rfl HTE.out hsV.out h1V.out ?_))
  have HXE := Lib.hid (HX.out.setCells0 [.int .i64 n0, .int .i64 n1, .slice A2 r2.length k2, .slice A3 r3.length k3, .slice A4 r4.length k4, .slice A5 r5.length k5, .slice A6 r6.length k6] rfl)
  have HKE := Lib.hid (Keeps.setCells (ts := [74]) (t := 74) (by simp) HX.out.typ 0 [.int .i64 n0, .int .i64 n1, .slice A2 r2.length k2, .slice A3 r3.length k3, .slice A4 r4.length k4, .slice A5 r5.length k5, .slice A6 r6.length k6])
  refine bodyPost_ret (results_cell rfl _ _ w.heap.size rfl [.int .i64 n0, .int .i64 n1, .slice A2 r2.length k2, .slice A3 r3.length k3, .slice A4 r4.length k4, .slice A5 r5.length k5, .slice A6 r6.length k6] _ HXE.out.range0 Try.underlying74 rfl hi.out) rfl ?_
  refine ⟨.inl ⟨[.int n0, .int n1, .rows r2, .rows r3, .rows r4, .rows r5, .rows r6], l6, [.int .i64 n0, .int .i64 n1, .slice A2 r2.length k2, .slice A3 r3.length k3, .slice A4 r4.length k4, .slice A5 r5.length k5, .slice A6 r6.length k6], ?_, rfl, ?_, HR.out.keeps HKE.out (below_setCells_ hlt _ _) (by decide) (by decide) (by decide)⟩, HB.out.trans (below_setCells_ hlt _ _), HK.out.below_new (below_setCells_ (Nat.le_refl _) _ _)⟩
  · rw [shCatalog, rds_some hd0.out, rds_some hd1.out, rds_some hd2.out, rds_some hd3.out, rds_some hd4.out, rds_some hd5.out, rds_some hd6.out, rds_nil]
    rfl
  · exact (Cels.mk (Cel.mk_num n0) (Cels.mk (Cel.mk_num n1) (Cels.mk (((Cel.mk_rows k2 R2.out).keeps HKE.out (by decide)).inT_more (by decide)) (Cels.mk (((Cel.mk_rows k3 R3.out).keeps HKE.out (by decide)).inT_more (by decide)) (Cels.mk (((Cel.mk_rows k4 R4.out).keeps HKE.out (by decide)).inT_more (by decide)) (Cels.mk (((Cel.mk_rows k5 R5.out).keeps HKE.out (by decide)).inT_more (by decide)) (Cels.mk (((Cel.mk_rows k6 R6.out).keeps HKE.out (by decide)).inT_more (by decide)) Cels.mk0)))))))

set_option maxHeartbeats 1600000 in
theorem R_lease (base g : Nat) (l : List UInt8) (w : World) (h : RdAt w base g l) :
    Calls Try.prog 140 #[.pointer (some ⟨g, 0, none⟩)] w fun e w' => SEnd shLease l [] w' base g e ∧ Rds base w w' := by
  have hi : (Try.prog.info? 205).map (·.size) = some 4 := by kernel_rfl
  replace hi := Lib.hid hi
  have hlt := h.lt
  have HR := Lib.hid (h.below_ ((Below.refl _ _).alloc (Nat.le_refl _) (.cells #[.int .i64 0, .int .i64 0, .int .i64 0, .int .i64 0] 205)))
  have HX := Lib.hid (Blk.new w 205 [.int .i64 0, .int .i64 0, .int .i64 0, .int .i64 0])
  have HB : Hid (Below base w (w.alloc (.cells #[.int .i64 0, .int .i64 0, .int .i64 0, .int .i64 0] 205))) := Lib.hid ((Below.refl _ _).alloc hlt _)
  have HK : Hid (Keeps [137, 229] w (w.alloc (.cells #[.int .i64 0, .int .i64 0, .int .i64 0, .int .i64 0] 205))) := Lib.hid (Keeps.alloc _ _)
  clear h
  go_enter Try.func140, Try.ntmps140
  go_wp2_with fail
  refine (R_num base g l _ HR.out).mono ?_
  rintro e w0 ⟨hE, hK⟩
  rcases hE with ⟨d0, l0, v0, hd, rfl, hv, hR⟩ | ⟨hd, rfl⟩
  rotate_left
  · refine ⟨rfl, .inr ⟨?_, rfl⟩, HB.out.trans hK.below, HK.out.trans hK.keeps⟩
    rw [shLease, rds_none hd]
  replace HB := Lib.hid (HB.out.trans hK.below)
  replace HK := Lib.hid (HK.out.trans hK.keeps)
  replace HX := Lib.hid (HX.out.keeps hK.keeps (by decide))
  have hd0 := Lib.hid hd
  obtain ⟨n0, rfl, rfl⟩ := hv.num
  replace HR := Lib.hid hR
  have hsz0 := HK.out.size
  have hfz0 : w0.frozen? ⟨w.heap.size, 0, none⟩ = false := HX.out.frozen 0
  have hcx0_0 : w0.cell? ⟨w.heap.size, 0, none⟩ = some (.int .i64 0) := HX.out.cell 0
  clear hd hR hK hv
  have HY : Hid (Blk (w0.setCell ⟨w.heap.size, 0, none⟩ (.int .i64 n0)) w.heap.size 205 [.int .i64 n0, .int .i64 0, .int .i64 0, .int .i64 0]) := Lib.hid (HX.out.set_ 0 (.int .i64 n0))
  have HKA : Hid (Keeps [205] w0 (w0.setCell ⟨w.heap.size, 0, none⟩ (.int .i64 n0))) := Lib.hid ((Keeps.refl _ _).trans (Keeps.set_ HX.out.typ (by simp) (.int .i64 n0)))
  have HBA : Hid (Below w.heap.size w0 (w0.setCell ⟨w.heap.size, 0, none⟩ (.int .i64 n0))) := Lib.hid ((Below.refl w.heap.size w0).setCell (Nat.le_refl _) _)
  replace HX := HY
  replace HR := Lib.hid (HR.out.keeps HKA.out (HBA.out.mono hlt) (by decide) (by decide) (by decide))
  replace HB := Lib.hid (HB.out.trans (HBA.out.mono hlt))
  replace HK := Lib.hid (HK.out.below_new HBA.out)
  clear HY HKA HBA
  go_wp2_with fail
  refine (R_num base g l0 _ HR.out).mono ?_
  rintro e w1 ⟨hE, hK⟩
  rcases hE with ⟨d1, l1, v1, hd, rfl, hv, hR⟩ | ⟨hd, rfl⟩
  rotate_left
  · refine ⟨rfl, .inr ⟨?_, rfl⟩, HB.out.trans hK.below, HK.out.trans hK.keeps⟩
    rw [shLease, rds_some hd0.out, rds_none hd]
    rfl
  replace HB := Lib.hid (HB.out.trans hK.below)
  replace HK := Lib.hid (HK.out.trans hK.keeps)
  replace HX := Lib.hid (HX.out.keeps hK.keeps (by decide))
  have hd1 := Lib.hid hd
  obtain ⟨n1, rfl, rfl⟩ := hv.num
  replace HR := Lib.hid hR
  have hsz1 := HK.out.size
  have hfz1 : w1.frozen? ⟨w.heap.size, 1, none⟩ = false := HX.out.frozen 1
  have hcx1_0 : w1.cell? ⟨w.heap.size, 1, none⟩ = some (.int .i64 0) := HX.out.cell 1
  clear hd hR hK hv
  have HY : Hid (Blk (w1.setCell ⟨w.heap.size, 1, none⟩ (.int .i64 n1)) w.heap.size 205 [.int .i64 n0, .int .i64 n1, .int .i64 0, .int .i64 0]) := Lib.hid (HX.out.set_ 1 (.int .i64 n1))
  have HKA : Hid (Keeps [205] w1 (w1.setCell ⟨w.heap.size, 1, none⟩ (.int .i64 n1))) := Lib.hid ((Keeps.refl _ _).trans (Keeps.set_ HX.out.typ (by simp) (.int .i64 n1)))
  have HBA : Hid (Below w.heap.size w1 (w1.setCell ⟨w.heap.size, 1, none⟩ (.int .i64 n1))) := Lib.hid ((Below.refl w.heap.size w1).setCell (Nat.le_refl _) _)
  replace HX := HY
  replace HR := Lib.hid (HR.out.keeps HKA.out (HBA.out.mono hlt) (by decide) (by decide) (by decide))
  replace HB := Lib.hid (HB.out.trans (HBA.out.mono hlt))
  replace HK := Lib.hid (HK.out.below_new HBA.out)
  clear HY HKA HBA
  go_wp2_with fail
  refine (R_num base g l1 _ HR.out).mono ?_
  rintro e w2 ⟨hE, hK⟩
  rcases hE with ⟨d2, l2, v2, hd, rfl, hv, hR⟩ | ⟨hd, rfl⟩
  rotate_left
  · refine ⟨rfl, .inr ⟨?_, rfl⟩, HB.out.trans hK.below, HK.out.trans hK.keeps⟩
    rw [shLease, rds_some hd0.out, rds_some hd1.out, rds_none hd]
    rfl
  replace HB := Lib.hid (HB.out.trans hK.below)
  replace HK := Lib.hid (HK.out.trans hK.keeps)
  replace HX := Lib.hid (HX.out.keeps hK.keeps (by decide))
  have hd2 := Lib.hid hd
  obtain ⟨n2, rfl, rfl⟩ := hv.num
  replace HR := Lib.hid hR
  have hsz2 := HK.out.size
  have hfz2 : w2.frozen? ⟨w.heap.size, 2, none⟩ = false := HX.out.frozen 2
  have hcx2_0 : w2.cell? ⟨w.heap.size, 2, none⟩ = some (.int .i64 0) := HX.out.cell 2
  clear hd hR hK hv
  have HY : Hid (Blk (w2.setCell ⟨w.heap.size, 2, none⟩ (.int .i64 n2)) w.heap.size 205 [.int .i64 n0, .int .i64 n1, .int .i64 n2, .int .i64 0]) := Lib.hid (HX.out.set_ 2 (.int .i64 n2))
  have HKA : Hid (Keeps [205] w2 (w2.setCell ⟨w.heap.size, 2, none⟩ (.int .i64 n2))) := Lib.hid ((Keeps.refl _ _).trans (Keeps.set_ HX.out.typ (by simp) (.int .i64 n2)))
  have HBA : Hid (Below w.heap.size w2 (w2.setCell ⟨w.heap.size, 2, none⟩ (.int .i64 n2))) := Lib.hid ((Below.refl w.heap.size w2).setCell (Nat.le_refl _) _)
  replace HX := HY
  replace HR := Lib.hid (HR.out.keeps HKA.out (HBA.out.mono hlt) (by decide) (by decide) (by decide))
  replace HB := Lib.hid (HB.out.trans (HBA.out.mono hlt))
  replace HK := Lib.hid (HK.out.below_new HBA.out)
  clear HY HKA HBA
  go_wp2_with fail
  refine (R_num base g l2 _ HR.out).mono ?_
  rintro e w3 ⟨hE, hK⟩
  rcases hE with ⟨d3, l3, v3, hd, rfl, hv, hR⟩ | ⟨hd, rfl⟩
  rotate_left
  · refine ⟨rfl, .inr ⟨?_, rfl⟩, HB.out.trans hK.below, HK.out.trans hK.keeps⟩
    rw [shLease, rds_some hd0.out, rds_some hd1.out, rds_some hd2.out, rds_none hd]
    rfl
  replace HB := Lib.hid (HB.out.trans hK.below)
  replace HK := Lib.hid (HK.out.trans hK.keeps)
  replace HX := Lib.hid (HX.out.keeps hK.keeps (by decide))
  have hd3 := Lib.hid hd
  obtain ⟨n3, rfl, rfl⟩ := hv.num
  replace HR := Lib.hid hR
  have hsz3 := HK.out.size
  have hfz3 : w3.frozen? ⟨w.heap.size, 3, none⟩ = false := HX.out.frozen 3
  have hcx3_0 : w3.cell? ⟨w.heap.size, 3, none⟩ = some (.int .i64 0) := HX.out.cell 3
  clear hd hR hK hv
  have HY : Hid (Blk (w3.setCell ⟨w.heap.size, 3, none⟩ (.int .i64 n3)) w.heap.size 205 [.int .i64 n0, .int .i64 n1, .int .i64 n2, .int .i64 n3]) := Lib.hid (HX.out.set_ 3 (.int .i64 n3))
  have HKA : Hid (Keeps [205] w3 (w3.setCell ⟨w.heap.size, 3, none⟩ (.int .i64 n3))) := Lib.hid ((Keeps.refl _ _).trans (Keeps.set_ HX.out.typ (by simp) (.int .i64 n3)))
  have HBA : Hid (Below w.heap.size w3 (w3.setCell ⟨w.heap.size, 3, none⟩ (.int .i64 n3))) := Lib.hid ((Below.refl w.heap.size w3).setCell (Nat.le_refl _) _)
  replace HX := HY
  replace HR := Lib.hid (HR.out.keeps HKA.out (HBA.out.mono hlt) (by decide) (by decide) (by decide))
  replace HB := Lib.hid (HB.out.trans (HBA.out.mono hlt))
  replace HK := Lib.hid (HK.out.below_new HBA.out)
  clear HY HKA HBA
  have HRG := Lib.hid HX.out.range0
  have HTE : Hid (World.there _ w.heap.size 0 (List.toArray ([.int .i64 n0, .int .i64 n1, .int .i64 n2, .int .i64 n3] : List Value)).size) := Lib.hid (HX.out.there 0 4 (by simp))
  have hiV : Hid ((Try.prog.info? 205).map (·.size) = some (List.length ([.int .i64 n0, .int .i64 n1, .int .i64 n2, .int .i64 n3] : List Value))) := Lib.hid hi.out
  have hsV : Hid ((Try.prog.info? 205).map (·.size) = some (List.toArray ([.int .i64 n0, .int .i64 n1, .int .i64 n2, .int .i64 n3] : List Value)).size) := Lib.hid hi.out
  have h1V : Hid ((List.toArray ([.int .i64 n0, .int .i64 n1, .int .i64 n2, .int .i64 n3] : List Value)).all (·.oneCell') = true) := Lib.hid (all_oneCell_toArray (by simp [Value.oneCell']))
  go_wp2_with (first | (with_reducible refine wpList_load_mid rfl 205 _ rfl w.heap.size 0 rfl [.int .i64 n0, .int .i64 n1, .int .i64 n2, .int .i64 n3] _ HRG.out Try.underlying205 rfl hiV.out ?_) | (with_reducible refine wpList_store_mid rfl 205 _ _ rfl w.heap.size 0 (List.toArray ([.int .i64 n0, .int .i64 n1, .int .i64 n2, .int .i64 n3] : List Value)) rfl rfl HTE.out hsV.out h1V.out ?_))
  have HXE := Lib.hid (HX.out.setCells0 [.int .i64 n0, .int .i64 n1, .int .i64 n2, .int .i64 n3] rfl)
  have HKE := Lib.hid (Keeps.setCells (ts := [205]) (t := 205) (by simp) HX.out.typ 0 [.int .i64 n0, .int .i64 n1, .int .i64 n2, .int .i64 n3])
  refine bodyPost_ret (results_cell rfl _ _ w.heap.size rfl [.int .i64 n0, .int .i64 n1, .int .i64 n2, .int .i64 n3] _ HXE.out.range0 Try.underlying205 rfl hi.out) rfl ?_
  refine ⟨.inl ⟨[.int n0, .int n1, .int n2, .int n3], l3, [.int .i64 n0, .int .i64 n1, .int .i64 n2, .int .i64 n3], ?_, rfl, ?_, HR.out.keeps HKE.out (below_setCells_ hlt _ _) (by decide) (by decide) (by decide)⟩, HB.out.trans (below_setCells_ hlt _ _), HK.out.below_new (below_setCells_ (Nat.le_refl _) _ _)⟩
  · rw [shLease, rds_some hd0.out, rds_some hd1.out, rds_some hd2.out, rds_some hd3.out, rds_nil]
    rfl
  · exact (Cels.mk (Cel.mk_num n0) (Cels.mk (Cel.mk_num n1) (Cels.mk (Cel.mk_num n2) (Cels.mk (Cel.mk_num n3) Cels.mk0))))

set_option maxHeartbeats 1600000 in
theorem R_few_Lease (base g : Nat) (l : List UInt8) (w : World) (h : RdAt w base g l) :
    Calls Try.prog 139 #[.pointer (some ⟨g, 0, none⟩), .func (.func 140) #[] #[]] w fun e w' => FEnd (.rows shLease) l [205] w' base g e ∧ Rds base w w' := by
  obtain ⟨i0, hi0⟩ : ∃ i, Try.prog.info? 205 = some i := by
    cases hq : Try.prog.info? 205 with
    | none => have h0 : (Try.prog.info? 205).isSome = true := by kernel_rfl
              rw [hq] at h0; cases h0
    | some i => exact ⟨i, rfl⟩
  have hinf : (Try.prog.info? 205).map (fun i => (i.zero, i.size, decide (i.bytes ≤ 1000))) = some (some (.agg #[.int .i64 0, .int .i64 0, .int .i64 0, .int .i64 0]), 4, true) := by kernel_rfl
  rw [hi0] at hinf
  simp only [Option.map_some, Option.some.injEq, Prod.mk.injEq, decide_eq_true_eq] at hinf
  obtain ⟨hz0, hz1, hz2⟩ := hinf
  have hby := Nat.mul_le_mul_left 4097 hz2
  have HI := Lib.hid (And.intro hi0 (And.intro hz0 hz1))
  clear hi0 hz0 hz1
  have hlt := h.lt
  have C := Lib.hid (R_num base g l w h)
  clear h
  go_enter Try.func139, Try.ntmps139
  go_wp2_with fail
  refine (unhide C).mono ?_
  rintro e w1 ⟨hE, hK⟩
  rcases hE with ⟨d, l1, v, hd, rfl, hv, hR⟩ | ⟨hd, rfl⟩
  rotate_left
  · exact ⟨rfl, .inr ⟨rows_num (rd_num_none hd), rfl⟩, hK⟩
  obtain ⟨N, rfl, hN, hN9⟩ := rd_num_inv hd
  obtain ⟨_, h1, rfl⟩ := hv.num
  injection h1 with h1
  subst h1
  have HN := Lib.hid hN
  have HR1 := Lib.hid hR
  have HK1 := Lib.hid hK
  clear C hd hN hR hK hv
  by_cases h4 : N ≤ 4096
  rotate_left
  · go_wp2_with fail
    have hdv : decide ((N : Int) ≤ 4096) = false := decide_eq_false (by omega)
    first | rw [hdv] | skip
    refine (is_false _).mono ?_
    rintro e w' ⟨rfl, rfl⟩
    exact ⟨rfl, .inr ⟨rows_big HN.out h4, rfl⟩, HK1.out⟩
  go_wp2_with fail
  have hdv : decide ((N : Int) ≤ 4096) = true := decide_eq_true (by omega)
  rw [hdv]
  refine (is_true _).mono ?_
  rintro e w' ⟨rfl, rfl⟩
  clear hdv
  go_wp2
  go_loopw [6, 13] (fun v i wr => ∃ (j : Nat) (ds : List (List Da)) (lj : List UInt8) (A : Option Addr) (c : Nat) (xs : List Value), j ≤ N ∧ i = .int .i64 j ∧ v = .slice A j c ∧ Hid (iter (rds shLease) j l1 = some (ds, lj)) ∧ Hid (RdAt wr base g lj) ∧ Hid (wr.ownsRow w.heap.size 205 4 (.slice A j c) j xs) ∧ Hid (Things wr [] shLease ds xs) ∧ Hid (Rds base w wr) ∧ w.heap.size ≤ wr.heap.size) (fun _ i _ => N - (intOf i).toNat)
  case atStart => exact ⟨0, [], l1, none, 0, [], Nat.zero_le _, rfl, rfl, Lib.hid (by simp only [iter]), HR1, Lib.hid (World.ownsRow_nil _ w.heap.size 205 4), Lib.hid (Things.nil _ _ _ _), HK1, HK1.out.keeps.size⟩
  case round =>
    obtain ⟨j, ds, lj, A, c, xs, hj, rfl, rfl, HIT, HR, HO, HT, HK, hsz⟩ := hrel
    by_cases hlt2 : j < N
    · have C := Lib.hid (R_lease base g lj wr HR.out)
      go_wp2_with fail
      refine (unhide C).mono ?_
      rintro e w2 ⟨hE, hK⟩
      rcases hE with ⟨d, l2, vs, hd, rfl, hC, hR⟩ | ⟨hd, rfl⟩
      rotate_left
      · exact ⟨rfl, .inr ⟨rows_none HN.out (iter_none HIT.out hd hlt2), rfl⟩, HK.out.trans hK⟩
      have hit := iter_snoc HIT.out hd
      have hlen : vs.length = 4 := hC.len.2
      obtain ⟨v0, vt0, rfl, hl0⟩ := len_cons (n := 3) hlen
      obtain ⟨v1, vt1, rfl, hl1⟩ := len_cons (n := 2) hl0
      obtain ⟨v2, vt2, rfl, hl2⟩ := len_cons (n := 1) hl1
      obtain ⟨v3, vt3, rfl, hl3⟩ := len_cons (n := 0) hl2
      obtain rfl := len_nil hl3
      clear hlen hl0 hl1 hl2 hl3
      have HC := Lib.hid hC
      have HR2 := Lib.hid hR
      have HIT2 := Lib.hid hit
      have HK2 := Lib.hid (HK.out.trans hK)
      have HO2 := Lib.hid (HO.out.keeps hK.keeps (by decide))
      have HT2 := Lib.hid (HT.out.keeps hK.keeps (by decide))
      have hsz2 := hK.keeps.size
      have hone := HC.out.oneCell
      clear C hC hR hit hK HR HO HT HK HIT
      go_wp2_with (at_builtin; refine wpList_appN rfl _ _ 80 rfl w.heap.size 205 i0 _ 4 i0.bytes Try.underlying80 HI.out.1 HI.out.2.1 HI.out.2.2 rfl rfl (by decide) (.slice A j c) j xs rfl (HO2.out.alloc _) ⟨w2.heap.size, 0, none⟩ 1 [v0, v1, v2, v3] rfl rfl (Blk.new w2 _ [v0, v1, v2, v3]).news hone (by unfold maxLen; omega) (Nat.le_trans (Nat.mul_le_mul_right _ (by omega)) (Nat.le_trans hby (by decide))) (by simp; omega) ?_; intro A3 c3 w3 HO3 HG3)
      have HKA : Hid (Keeps [205] w2 w3) := Lib.hid ((Keeps.alloc w2 _).trans (Keeps.grown (HO2.out.alloc _) HG3.out (by simp) HG3.out.size))
      have HBA : Hid (Below base w2 w3) := Lib.hid (((Below.refl _ _).alloc (by omega) _).grown HG3.out (by simp; omega) (by intro k hk; have := own_block_ge HO2.out k hk; omega))
      have hrel : ∃ (j' : Nat) (ds : List (List Da)) (lj : List UInt8) (A : Option Addr) (c : Nat) (xs : List Value), j' ≤ N ∧ Value.int .i64 ((j : Int) + 1) = .int .i64 j' ∧ Value.slice A3 (j + 1) c3 = .slice A j' c ∧ Hid (iter (rds shLease) j' l1 = some (ds, lj)) ∧ Hid (RdAt w3 base g lj) ∧ Hid (w3.ownsRow w.heap.size 205 4 (.slice A j' c) j' xs) ∧ Hid (Things w3 [] shLease ds xs) ∧ Hid (Rds base w w3) ∧ w.heap.size ≤ w3.heap.size := by
        refine ⟨j + 1, _, _, A3, c3, _, by omega, by simp, rfl, HIT2, Lib.hid (HR2.out.keeps HKA.out HBA.out (by decide) (by decide) (by decide)), HO3, Lib.hid ?_, Lib.hid ⟨HK2.out.below.trans HBA.out, ?_⟩, by have := HKA.out.size; omega⟩
        · exact (HT2.out.keeps HKA.out (by decide)).snoc (by have h1 := HO2.out.1; have h2 := iter_len_snoc HIT2.out; rw [h2]; exact h1) (HC.out.keeps HKA.out (by decide))
        · exact (HK2.out.keeps.then_below ((Below.refl _ _).alloc (Nat.le_refl _) _)).grown_new HG3.out (fun k hk => by have := own_block_ge HO2.out k hk; omega)
      clear HKA HBA HO3 HG3 HO2 HT2 HR2 HC HK2 HIT2
      go_wp2
      go_roundw
      case rel => obtain ⟨j', ds, lj, A, c, xs, h1, h2, h3, h4⟩ := hrel; exact ⟨j', ds, lj, A, c, xs, h1, by rw [← h2], h3, h4⟩
      case measure => simp [intOf]; omega
    · obtain rfl : j = N := by omega
      go_wp2
      go_ret
      have hl2 := iter_len HIT.out
      refine ⟨.inl ⟨.rows ds, lj, .slice A j c, rows_ok HN.out h4 HIT.out, rfl, ?_, HR.out⟩, HK.out⟩
      have hr := rowsAt_own (us := []) (l := shLease) (ds := ds) (by decide) HO.out hl2 HT.out
      have := Cel.mk_rows c hr
      rwa [hl2] at this

set_option maxHeartbeats 1600000 in
theorem R_done (base g : Nat) (l : List UInt8) (w : World) (h : RdAt w base g l) :
    Calls Try.prog 138 #[.pointer (some ⟨g, 0, none⟩)] w fun e w' => SEnd shDone l [] w' base g e ∧ Rds base w w' := by
  have hi : (Try.prog.info? 203).map (·.size) = some 5 := by kernel_rfl
  replace hi := Lib.hid hi
  have hlt := h.lt
  have HR := Lib.hid (h.below_ ((Below.refl _ _).alloc (Nat.le_refl _) (.cells #[.int .i64 0, .int .i64 0, .int .i64 0, .int .i64 0, .int .i64 0] 203)))
  have HX := Lib.hid (Blk.new w 203 [.int .i64 0, .int .i64 0, .int .i64 0, .int .i64 0, .int .i64 0])
  have HB : Hid (Below base w (w.alloc (.cells #[.int .i64 0, .int .i64 0, .int .i64 0, .int .i64 0, .int .i64 0] 203))) := Lib.hid ((Below.refl _ _).alloc hlt _)
  have HK : Hid (Keeps [137, 229] w (w.alloc (.cells #[.int .i64 0, .int .i64 0, .int .i64 0, .int .i64 0, .int .i64 0] 203))) := Lib.hid (Keeps.alloc _ _)
  clear h
  go_enter Try.func138, Try.ntmps138
  go_wp2_with fail
  refine (R_num base g l _ HR.out).mono ?_
  rintro e w0 ⟨hE, hK⟩
  rcases hE with ⟨d0, l0, v0, hd, rfl, hv, hR⟩ | ⟨hd, rfl⟩
  rotate_left
  · refine ⟨rfl, .inr ⟨?_, rfl⟩, HB.out.trans hK.below, HK.out.trans hK.keeps⟩
    rw [shDone, rds_none hd]
  replace HB := Lib.hid (HB.out.trans hK.below)
  replace HK := Lib.hid (HK.out.trans hK.keeps)
  replace HX := Lib.hid (HX.out.keeps hK.keeps (by decide))
  have hd0 := Lib.hid hd
  obtain ⟨n0, rfl, rfl⟩ := hv.num
  replace HR := Lib.hid hR
  have hsz0 := HK.out.size
  have hfz0 : w0.frozen? ⟨w.heap.size, 0, none⟩ = false := HX.out.frozen 0
  have hcx0_0 : w0.cell? ⟨w.heap.size, 0, none⟩ = some (.int .i64 0) := HX.out.cell 0
  clear hd hR hK hv
  have HY : Hid (Blk (w0.setCell ⟨w.heap.size, 0, none⟩ (.int .i64 n0)) w.heap.size 203 [.int .i64 n0, .int .i64 0, .int .i64 0, .int .i64 0, .int .i64 0]) := Lib.hid (HX.out.set_ 0 (.int .i64 n0))
  have HKA : Hid (Keeps [203] w0 (w0.setCell ⟨w.heap.size, 0, none⟩ (.int .i64 n0))) := Lib.hid ((Keeps.refl _ _).trans (Keeps.set_ HX.out.typ (by simp) (.int .i64 n0)))
  have HBA : Hid (Below w.heap.size w0 (w0.setCell ⟨w.heap.size, 0, none⟩ (.int .i64 n0))) := Lib.hid ((Below.refl w.heap.size w0).setCell (Nat.le_refl _) _)
  replace HX := HY
  replace HR := Lib.hid (HR.out.keeps HKA.out (HBA.out.mono hlt) (by decide) (by decide) (by decide))
  replace HB := Lib.hid (HB.out.trans (HBA.out.mono hlt))
  replace HK := Lib.hid (HK.out.below_new HBA.out)
  clear HY HKA HBA
  go_wp2_with fail
  refine (R_num base g l0 _ HR.out).mono ?_
  rintro e w1 ⟨hE, hK⟩
  rcases hE with ⟨d1, l1, v1, hd, rfl, hv, hR⟩ | ⟨hd, rfl⟩
  rotate_left
  · refine ⟨rfl, .inr ⟨?_, rfl⟩, HB.out.trans hK.below, HK.out.trans hK.keeps⟩
    rw [shDone, rds_some hd0.out, rds_none hd]
    rfl
  replace HB := Lib.hid (HB.out.trans hK.below)
  replace HK := Lib.hid (HK.out.trans hK.keeps)
  replace HX := Lib.hid (HX.out.keeps hK.keeps (by decide))
  have hd1 := Lib.hid hd
  obtain ⟨n1, rfl, rfl⟩ := hv.num
  replace HR := Lib.hid hR
  have hsz1 := HK.out.size
  have hfz1 : w1.frozen? ⟨w.heap.size, 1, none⟩ = false := HX.out.frozen 1
  have hcx1_0 : w1.cell? ⟨w.heap.size, 1, none⟩ = some (.int .i64 0) := HX.out.cell 1
  clear hd hR hK hv
  have HY : Hid (Blk (w1.setCell ⟨w.heap.size, 1, none⟩ (.int .i64 n1)) w.heap.size 203 [.int .i64 n0, .int .i64 n1, .int .i64 0, .int .i64 0, .int .i64 0]) := Lib.hid (HX.out.set_ 1 (.int .i64 n1))
  have HKA : Hid (Keeps [203] w1 (w1.setCell ⟨w.heap.size, 1, none⟩ (.int .i64 n1))) := Lib.hid ((Keeps.refl _ _).trans (Keeps.set_ HX.out.typ (by simp) (.int .i64 n1)))
  have HBA : Hid (Below w.heap.size w1 (w1.setCell ⟨w.heap.size, 1, none⟩ (.int .i64 n1))) := Lib.hid ((Below.refl w.heap.size w1).setCell (Nat.le_refl _) _)
  replace HX := HY
  replace HR := Lib.hid (HR.out.keeps HKA.out (HBA.out.mono hlt) (by decide) (by decide) (by decide))
  replace HB := Lib.hid (HB.out.trans (HBA.out.mono hlt))
  replace HK := Lib.hid (HK.out.below_new HBA.out)
  clear HY HKA HBA
  go_wp2_with fail
  refine (R_num base g l1 _ HR.out).mono ?_
  rintro e w2 ⟨hE, hK⟩
  rcases hE with ⟨d2, l2, v2, hd, rfl, hv, hR⟩ | ⟨hd, rfl⟩
  rotate_left
  · refine ⟨rfl, .inr ⟨?_, rfl⟩, HB.out.trans hK.below, HK.out.trans hK.keeps⟩
    rw [shDone, rds_some hd0.out, rds_some hd1.out, rds_none hd]
    rfl
  replace HB := Lib.hid (HB.out.trans hK.below)
  replace HK := Lib.hid (HK.out.trans hK.keeps)
  replace HX := Lib.hid (HX.out.keeps hK.keeps (by decide))
  have hd2 := Lib.hid hd
  obtain ⟨n2, rfl, rfl⟩ := hv.num
  replace HR := Lib.hid hR
  have hsz2 := HK.out.size
  have hfz2 : w2.frozen? ⟨w.heap.size, 2, none⟩ = false := HX.out.frozen 2
  have hcx2_0 : w2.cell? ⟨w.heap.size, 2, none⟩ = some (.int .i64 0) := HX.out.cell 2
  clear hd hR hK hv
  have HY : Hid (Blk (w2.setCell ⟨w.heap.size, 2, none⟩ (.int .i64 n2)) w.heap.size 203 [.int .i64 n0, .int .i64 n1, .int .i64 n2, .int .i64 0, .int .i64 0]) := Lib.hid (HX.out.set_ 2 (.int .i64 n2))
  have HKA : Hid (Keeps [203] w2 (w2.setCell ⟨w.heap.size, 2, none⟩ (.int .i64 n2))) := Lib.hid ((Keeps.refl _ _).trans (Keeps.set_ HX.out.typ (by simp) (.int .i64 n2)))
  have HBA : Hid (Below w.heap.size w2 (w2.setCell ⟨w.heap.size, 2, none⟩ (.int .i64 n2))) := Lib.hid ((Below.refl w.heap.size w2).setCell (Nat.le_refl _) _)
  replace HX := HY
  replace HR := Lib.hid (HR.out.keeps HKA.out (HBA.out.mono hlt) (by decide) (by decide) (by decide))
  replace HB := Lib.hid (HB.out.trans (HBA.out.mono hlt))
  replace HK := Lib.hid (HK.out.below_new HBA.out)
  clear HY HKA HBA
  go_wp2_with fail
  refine (R_num base g l2 _ HR.out).mono ?_
  rintro e w3 ⟨hE, hK⟩
  rcases hE with ⟨d3, l3, v3, hd, rfl, hv, hR⟩ | ⟨hd, rfl⟩
  rotate_left
  · refine ⟨rfl, .inr ⟨?_, rfl⟩, HB.out.trans hK.below, HK.out.trans hK.keeps⟩
    rw [shDone, rds_some hd0.out, rds_some hd1.out, rds_some hd2.out, rds_none hd]
    rfl
  replace HB := Lib.hid (HB.out.trans hK.below)
  replace HK := Lib.hid (HK.out.trans hK.keeps)
  replace HX := Lib.hid (HX.out.keeps hK.keeps (by decide))
  have hd3 := Lib.hid hd
  obtain ⟨n3, rfl, rfl⟩ := hv.num
  replace HR := Lib.hid hR
  have hsz3 := HK.out.size
  have hfz3 : w3.frozen? ⟨w.heap.size, 3, none⟩ = false := HX.out.frozen 3
  have hcx3_0 : w3.cell? ⟨w.heap.size, 3, none⟩ = some (.int .i64 0) := HX.out.cell 3
  clear hd hR hK hv
  have HY : Hid (Blk (w3.setCell ⟨w.heap.size, 3, none⟩ (.int .i64 n3)) w.heap.size 203 [.int .i64 n0, .int .i64 n1, .int .i64 n2, .int .i64 n3, .int .i64 0]) := Lib.hid (HX.out.set_ 3 (.int .i64 n3))
  have HKA : Hid (Keeps [203] w3 (w3.setCell ⟨w.heap.size, 3, none⟩ (.int .i64 n3))) := Lib.hid ((Keeps.refl _ _).trans (Keeps.set_ HX.out.typ (by simp) (.int .i64 n3)))
  have HBA : Hid (Below w.heap.size w3 (w3.setCell ⟨w.heap.size, 3, none⟩ (.int .i64 n3))) := Lib.hid ((Below.refl w.heap.size w3).setCell (Nat.le_refl _) _)
  replace HX := HY
  replace HR := Lib.hid (HR.out.keeps HKA.out (HBA.out.mono hlt) (by decide) (by decide) (by decide))
  replace HB := Lib.hid (HB.out.trans (HBA.out.mono hlt))
  replace HK := Lib.hid (HK.out.below_new HBA.out)
  clear HY HKA HBA
  go_wp2_with fail
  refine (R_num base g l3 _ HR.out).mono ?_
  rintro e w4 ⟨hE, hK⟩
  rcases hE with ⟨d4, l4, v4, hd, rfl, hv, hR⟩ | ⟨hd, rfl⟩
  rotate_left
  · refine ⟨rfl, .inr ⟨?_, rfl⟩, HB.out.trans hK.below, HK.out.trans hK.keeps⟩
    rw [shDone, rds_some hd0.out, rds_some hd1.out, rds_some hd2.out, rds_some hd3.out, rds_none hd]
    rfl
  replace HB := Lib.hid (HB.out.trans hK.below)
  replace HK := Lib.hid (HK.out.trans hK.keeps)
  replace HX := Lib.hid (HX.out.keeps hK.keeps (by decide))
  have hd4 := Lib.hid hd
  obtain ⟨n4, rfl, rfl⟩ := hv.num
  replace HR := Lib.hid hR
  have hsz4 := HK.out.size
  have hfz4 : w4.frozen? ⟨w.heap.size, 4, none⟩ = false := HX.out.frozen 4
  have hcx4_0 : w4.cell? ⟨w.heap.size, 4, none⟩ = some (.int .i64 0) := HX.out.cell 4
  clear hd hR hK hv
  have HY : Hid (Blk (w4.setCell ⟨w.heap.size, 4, none⟩ (.int .i64 n4)) w.heap.size 203 [.int .i64 n0, .int .i64 n1, .int .i64 n2, .int .i64 n3, .int .i64 n4]) := Lib.hid (HX.out.set_ 4 (.int .i64 n4))
  have HKA : Hid (Keeps [203] w4 (w4.setCell ⟨w.heap.size, 4, none⟩ (.int .i64 n4))) := Lib.hid ((Keeps.refl _ _).trans (Keeps.set_ HX.out.typ (by simp) (.int .i64 n4)))
  have HBA : Hid (Below w.heap.size w4 (w4.setCell ⟨w.heap.size, 4, none⟩ (.int .i64 n4))) := Lib.hid ((Below.refl w.heap.size w4).setCell (Nat.le_refl _) _)
  replace HX := HY
  replace HR := Lib.hid (HR.out.keeps HKA.out (HBA.out.mono hlt) (by decide) (by decide) (by decide))
  replace HB := Lib.hid (HB.out.trans (HBA.out.mono hlt))
  replace HK := Lib.hid (HK.out.below_new HBA.out)
  clear HY HKA HBA
  have HRG := Lib.hid HX.out.range0
  have HTE : Hid (World.there _ w.heap.size 0 (List.toArray ([.int .i64 n0, .int .i64 n1, .int .i64 n2, .int .i64 n3, .int .i64 n4] : List Value)).size) := Lib.hid (HX.out.there 0 5 (by simp))
  have hiV : Hid ((Try.prog.info? 203).map (·.size) = some (List.length ([.int .i64 n0, .int .i64 n1, .int .i64 n2, .int .i64 n3, .int .i64 n4] : List Value))) := Lib.hid hi.out
  have hsV : Hid ((Try.prog.info? 203).map (·.size) = some (List.toArray ([.int .i64 n0, .int .i64 n1, .int .i64 n2, .int .i64 n3, .int .i64 n4] : List Value)).size) := Lib.hid hi.out
  have h1V : Hid ((List.toArray ([.int .i64 n0, .int .i64 n1, .int .i64 n2, .int .i64 n3, .int .i64 n4] : List Value)).all (·.oneCell') = true) := Lib.hid (all_oneCell_toArray (by simp [Value.oneCell']))
  go_wp2_with (first | (with_reducible refine wpList_load_mid rfl 203 _ rfl w.heap.size 0 rfl [.int .i64 n0, .int .i64 n1, .int .i64 n2, .int .i64 n3, .int .i64 n4] _ HRG.out Try.underlying203 rfl hiV.out ?_) | (with_reducible refine wpList_store_mid rfl 203 _ _ rfl w.heap.size 0 (List.toArray ([.int .i64 n0, .int .i64 n1, .int .i64 n2, .int .i64 n3, .int .i64 n4] : List Value)) rfl rfl HTE.out hsV.out h1V.out ?_))
  have HXE := Lib.hid (HX.out.setCells0 [.int .i64 n0, .int .i64 n1, .int .i64 n2, .int .i64 n3, .int .i64 n4] rfl)
  have HKE := Lib.hid (Keeps.setCells (ts := [203]) (t := 203) (by simp) HX.out.typ 0 [.int .i64 n0, .int .i64 n1, .int .i64 n2, .int .i64 n3, .int .i64 n4])
  refine bodyPost_ret (results_cell rfl _ _ w.heap.size rfl [.int .i64 n0, .int .i64 n1, .int .i64 n2, .int .i64 n3, .int .i64 n4] _ HXE.out.range0 Try.underlying203 rfl hi.out) rfl ?_
  refine ⟨.inl ⟨[.int n0, .int n1, .int n2, .int n3, .int n4], l4, [.int .i64 n0, .int .i64 n1, .int .i64 n2, .int .i64 n3, .int .i64 n4], ?_, rfl, ?_, HR.out.keeps HKE.out (below_setCells_ hlt _ _) (by decide) (by decide) (by decide)⟩, HB.out.trans (below_setCells_ hlt _ _), HK.out.below_new (below_setCells_ (Nat.le_refl _) _ _)⟩
  · rw [shDone, rds_some hd0.out, rds_some hd1.out, rds_some hd2.out, rds_some hd3.out, rds_some hd4.out, rds_nil]
    rfl
  · exact (Cels.mk (Cel.mk_num n0) (Cels.mk (Cel.mk_num n1) (Cels.mk (Cel.mk_num n2) (Cels.mk (Cel.mk_num n3) (Cels.mk (Cel.mk_num n4) Cels.mk0)))))

set_option maxHeartbeats 1600000 in
theorem R_few_Done (base g : Nat) (l : List UInt8) (w : World) (h : RdAt w base g l) :
    Calls Try.prog 137 #[.pointer (some ⟨g, 0, none⟩), .func (.func 138) #[] #[]] w fun e w' => FEnd (.rows shDone) l [203] w' base g e ∧ Rds base w w' := by
  obtain ⟨i0, hi0⟩ : ∃ i, Try.prog.info? 203 = some i := by
    cases hq : Try.prog.info? 203 with
    | none => have h0 : (Try.prog.info? 203).isSome = true := by kernel_rfl
              rw [hq] at h0; cases h0
    | some i => exact ⟨i, rfl⟩
  have hinf : (Try.prog.info? 203).map (fun i => (i.zero, i.size, decide (i.bytes ≤ 1000))) = some (some (.agg #[.int .i64 0, .int .i64 0, .int .i64 0, .int .i64 0, .int .i64 0]), 5, true) := by kernel_rfl
  rw [hi0] at hinf
  simp only [Option.map_some, Option.some.injEq, Prod.mk.injEq, decide_eq_true_eq] at hinf
  obtain ⟨hz0, hz1, hz2⟩ := hinf
  have hby := Nat.mul_le_mul_left 4097 hz2
  have HI := Lib.hid (And.intro hi0 (And.intro hz0 hz1))
  clear hi0 hz0 hz1
  have hlt := h.lt
  have C := Lib.hid (R_num base g l w h)
  clear h
  go_enter Try.func137, Try.ntmps137
  go_wp2_with fail
  refine (unhide C).mono ?_
  rintro e w1 ⟨hE, hK⟩
  rcases hE with ⟨d, l1, v, hd, rfl, hv, hR⟩ | ⟨hd, rfl⟩
  rotate_left
  · exact ⟨rfl, .inr ⟨rows_num (rd_num_none hd), rfl⟩, hK⟩
  obtain ⟨N, rfl, hN, hN9⟩ := rd_num_inv hd
  obtain ⟨_, h1, rfl⟩ := hv.num
  injection h1 with h1
  subst h1
  have HN := Lib.hid hN
  have HR1 := Lib.hid hR
  have HK1 := Lib.hid hK
  clear C hd hN hR hK hv
  by_cases h4 : N ≤ 4096
  rotate_left
  · go_wp2_with fail
    have hdv : decide ((N : Int) ≤ 4096) = false := decide_eq_false (by omega)
    first | rw [hdv] | skip
    refine (is_false _).mono ?_
    rintro e w' ⟨rfl, rfl⟩
    exact ⟨rfl, .inr ⟨rows_big HN.out h4, rfl⟩, HK1.out⟩
  go_wp2_with fail
  have hdv : decide ((N : Int) ≤ 4096) = true := decide_eq_true (by omega)
  rw [hdv]
  refine (is_true _).mono ?_
  rintro e w' ⟨rfl, rfl⟩
  clear hdv
  go_wp2
  go_loopw [6, 13] (fun v i wr => ∃ (j : Nat) (ds : List (List Da)) (lj : List UInt8) (A : Option Addr) (c : Nat) (xs : List Value), j ≤ N ∧ i = .int .i64 j ∧ v = .slice A j c ∧ Hid (iter (rds shDone) j l1 = some (ds, lj)) ∧ Hid (RdAt wr base g lj) ∧ Hid (wr.ownsRow w.heap.size 203 5 (.slice A j c) j xs) ∧ Hid (Things wr [] shDone ds xs) ∧ Hid (Rds base w wr) ∧ w.heap.size ≤ wr.heap.size) (fun _ i _ => N - (intOf i).toNat)
  case atStart => exact ⟨0, [], l1, none, 0, [], Nat.zero_le _, rfl, rfl, Lib.hid (by simp only [iter]), HR1, Lib.hid (World.ownsRow_nil _ w.heap.size 203 5), Lib.hid (Things.nil _ _ _ _), HK1, HK1.out.keeps.size⟩
  case round =>
    obtain ⟨j, ds, lj, A, c, xs, hj, rfl, rfl, HIT, HR, HO, HT, HK, hsz⟩ := hrel
    by_cases hlt2 : j < N
    · have C := Lib.hid (R_done base g lj wr HR.out)
      go_wp2_with fail
      refine (unhide C).mono ?_
      rintro e w2 ⟨hE, hK⟩
      rcases hE with ⟨d, l2, vs, hd, rfl, hC, hR⟩ | ⟨hd, rfl⟩
      rotate_left
      · exact ⟨rfl, .inr ⟨rows_none HN.out (iter_none HIT.out hd hlt2), rfl⟩, HK.out.trans hK⟩
      have hit := iter_snoc HIT.out hd
      have hlen : vs.length = 5 := hC.len.2
      obtain ⟨v0, vt0, rfl, hl0⟩ := len_cons (n := 4) hlen
      obtain ⟨v1, vt1, rfl, hl1⟩ := len_cons (n := 3) hl0
      obtain ⟨v2, vt2, rfl, hl2⟩ := len_cons (n := 2) hl1
      obtain ⟨v3, vt3, rfl, hl3⟩ := len_cons (n := 1) hl2
      obtain ⟨v4, vt4, rfl, hl4⟩ := len_cons (n := 0) hl3
      obtain rfl := len_nil hl4
      clear hlen hl0 hl1 hl2 hl3 hl4
      have HC := Lib.hid hC
      have HR2 := Lib.hid hR
      have HIT2 := Lib.hid hit
      have HK2 := Lib.hid (HK.out.trans hK)
      have HO2 := Lib.hid (HO.out.keeps hK.keeps (by decide))
      have HT2 := Lib.hid (HT.out.keeps hK.keeps (by decide))
      have hsz2 := hK.keeps.size
      have hone := HC.out.oneCell
      clear C hC hR hit hK HR HO HT HK HIT
      go_wp2_with (at_builtin; refine wpList_appN rfl _ _ 79 rfl w.heap.size 203 i0 _ 5 i0.bytes Try.underlying79 HI.out.1 HI.out.2.1 HI.out.2.2 rfl rfl (by decide) (.slice A j c) j xs rfl (HO2.out.alloc _) ⟨w2.heap.size, 0, none⟩ 1 [v0, v1, v2, v3, v4] rfl rfl (Blk.new w2 _ [v0, v1, v2, v3, v4]).news hone (by unfold maxLen; omega) (Nat.le_trans (Nat.mul_le_mul_right _ (by omega)) (Nat.le_trans hby (by decide))) (by simp; omega) ?_; intro A3 c3 w3 HO3 HG3)
      have HKA : Hid (Keeps [203] w2 w3) := Lib.hid ((Keeps.alloc w2 _).trans (Keeps.grown (HO2.out.alloc _) HG3.out (by simp) HG3.out.size))
      have HBA : Hid (Below base w2 w3) := Lib.hid (((Below.refl _ _).alloc (by omega) _).grown HG3.out (by simp; omega) (by intro k hk; have := own_block_ge HO2.out k hk; omega))
      have hrel : ∃ (j' : Nat) (ds : List (List Da)) (lj : List UInt8) (A : Option Addr) (c : Nat) (xs : List Value), j' ≤ N ∧ Value.int .i64 ((j : Int) + 1) = .int .i64 j' ∧ Value.slice A3 (j + 1) c3 = .slice A j' c ∧ Hid (iter (rds shDone) j' l1 = some (ds, lj)) ∧ Hid (RdAt w3 base g lj) ∧ Hid (w3.ownsRow w.heap.size 203 5 (.slice A j' c) j' xs) ∧ Hid (Things w3 [] shDone ds xs) ∧ Hid (Rds base w w3) ∧ w.heap.size ≤ w3.heap.size := by
        refine ⟨j + 1, _, _, A3, c3, _, by omega, by simp, rfl, HIT2, Lib.hid (HR2.out.keeps HKA.out HBA.out (by decide) (by decide) (by decide)), HO3, Lib.hid ?_, Lib.hid ⟨HK2.out.below.trans HBA.out, ?_⟩, by have := HKA.out.size; omega⟩
        · exact (HT2.out.keeps HKA.out (by decide)).snoc (by have h1 := HO2.out.1; have h2 := iter_len_snoc HIT2.out; rw [h2]; exact h1) (HC.out.keeps HKA.out (by decide))
        · exact (HK2.out.keeps.then_below ((Below.refl _ _).alloc (Nat.le_refl _) _)).grown_new HG3.out (fun k hk => by have := own_block_ge HO2.out k hk; omega)
      clear HKA HBA HO3 HG3 HO2 HT2 HR2 HC HK2 HIT2
      go_wp2
      go_roundw
      case rel => obtain ⟨j', ds, lj, A, c, xs, h1, h2, h3, h4⟩ := hrel; exact ⟨j', ds, lj, A, c, xs, h1, by rw [← h2], h3, h4⟩
      case measure => simp [intOf]; omega
    · obtain rfl : j = N := by omega
      go_wp2
      go_ret
      have hl2 := iter_len HIT.out
      refine ⟨.inl ⟨.rows ds, lj, .slice A j c, rows_ok HN.out h4 HIT.out, rfl, ?_, HR.out⟩, HK.out⟩
      have hr := rowsAt_own (us := []) (l := shDone) (ds := ds) (by decide) HO.out hl2 HT.out
      have := Cel.mk_rows c hr
      rwa [hl2] at this

set_option maxHeartbeats 1600000 in
theorem R_machine (base g : Nat) (l : List UInt8) (w : World) (h : RdAt w base g l) :
    Calls Try.prog 67 #[.pointer (some ⟨g, 0, none⟩)] w fun e w' => SEnd shMachine l [169, 175, 150, 46, 9, 164, 166, 203, 205] w' base g e ∧ Rds base w w' := by
  have hi : (Try.prog.info? 82).map (·.size) = some 10 := by kernel_rfl
  replace hi := Lib.hid hi
  have hlt := h.lt
  have HR := Lib.hid (h.below_ ((Below.refl _ _).alloc (Nat.le_refl _) (.cells #[.int .i64 0, .int .i64 0, .slice none 0 0, .slice none 0 0, .slice none 0 0, .slice none 0 0, .slice none 0 0, .slice none 0 0, .slice none 0 0, .int .i64 0] 82)))
  have HX := Lib.hid (Blk.new w 82 [.int .i64 0, .int .i64 0, .slice none 0 0, .slice none 0 0, .slice none 0 0, .slice none 0 0, .slice none 0 0, .slice none 0 0, .slice none 0 0, .int .i64 0])
  have HB : Hid (Below base w (w.alloc (.cells #[.int .i64 0, .int .i64 0, .slice none 0 0, .slice none 0 0, .slice none 0 0, .slice none 0 0, .slice none 0 0, .slice none 0 0, .slice none 0 0, .int .i64 0] 82))) := Lib.hid ((Below.refl _ _).alloc hlt _)
  have HK : Hid (Keeps [137, 229] w (w.alloc (.cells #[.int .i64 0, .int .i64 0, .slice none 0 0, .slice none 0 0, .slice none 0 0, .slice none 0 0, .slice none 0 0, .slice none 0 0, .slice none 0 0, .int .i64 0] 82))) := Lib.hid (Keeps.alloc _ _)
  clear h
  go_enter Try.func67, Try.ntmps67
  go_wp2_with fail
  refine (R_catalog base g l _ HR.out).mono ?_
  rintro e w0 ⟨hE, hK⟩
  rcases hE with ⟨ds0, l0, vs0, hd, rfl, hv, hR⟩ | ⟨hd, rfl⟩
  rotate_left
  · refine ⟨rfl, .inr ⟨?_, rfl⟩, HB.out.trans hK.below, HK.out.trans hK.keeps⟩
    have hn := rds_append_none [.rows shDone, .rows shLease, .num] hd
    replace hn : rds [.num, .num, .rows shSchema, .rows shTable, .rows [.text], .rows shMember, .rows shGrant, .rows shDone, .rows shLease, .num] l = none := hn
    exact hn
  replace HB := Lib.hid (HB.out.trans hK.below)
  replace HK := Lib.hid (HK.out.trans hK.keeps)
  replace HX := Lib.hid (HX.out.keeps hK.keeps (by decide))
  replace hv : Cels _ _ [.num, .num, .rows shSchema, .rows shTable, .rows [.text], .rows shMember, .rows shGrant] ds0 vs0 := hv
  obtain ⟨_, _, _, _, rfl, rfl, c0, hv⟩ := hv.cons
  obtain ⟨_, _, _, _, rfl, rfl, c1, hv⟩ := hv.cons
  obtain ⟨_, _, _, _, rfl, rfl, c2, hv⟩ := hv.cons
  obtain ⟨_, _, _, _, rfl, rfl, c3, hv⟩ := hv.cons
  obtain ⟨_, _, _, _, rfl, rfl, c4, hv⟩ := hv.cons
  obtain ⟨_, _, _, _, rfl, rfl, c5, hv⟩ := hv.cons
  obtain ⟨_, _, _, _, rfl, rfl, c6, hv⟩ := hv.cons
  obtain ⟨rfl, rfl⟩ := hv.nil
  obtain ⟨n0, rfl, rfl⟩ := c0.num
  obtain ⟨n1, rfl, rfl⟩ := c1.num
  obtain ⟨r2, A2, k2, rfl, rfl, R2⟩ := c2.rows
  replace R2 := Lib.hid R2
  obtain ⟨r3, A3, k3, rfl, rfl, R3⟩ := c3.rows
  replace R3 := Lib.hid R3
  obtain ⟨r4, A4, k4, rfl, rfl, R4⟩ := c4.rows
  replace R4 := Lib.hid R4
  obtain ⟨r5, A5, k5, rfl, rfl, R5⟩ := c5.rows
  replace R5 := Lib.hid R5
  obtain ⟨r6, A6, k6, rfl, rfl, R6⟩ := c6.rows
  replace R6 := Lib.hid R6
  have hs0 := rds_append_some [.rows shDone, .rows shLease, .num] hd
  have hd0 : Hid (rds [.num, .num, .rows shSchema, .rows shTable, .rows [.text], .rows shMember, .rows shGrant, .rows shDone, .rows shLease, .num] l = _) := Lib.hid hs0
  clear hs0
  replace HR := Lib.hid hR
  have hsz0 := HK.out.size
  have hfz0 : w0.frozen? ⟨w.heap.size, 0, none⟩ = false := HX.out.frozen 0
  have hcx0_0 : w0.cell? ⟨w.heap.size, 0, none⟩ = some (.int .i64 0) := HX.out.cell 0
  have hcx0_1 : w0.cell? ⟨w.heap.size, 1, none⟩ = some (.int .i64 0) := HX.out.cell 1
  have hfz0_1 : w0.frozen? ⟨w.heap.size, 1, none⟩ = false := HX.out.frozen 1
  have hcx0_2 : w0.cell? ⟨w.heap.size, 2, none⟩ = some (.slice none 0 0) := HX.out.cell 2
  have hfz0_2 : w0.frozen? ⟨w.heap.size, 2, none⟩ = false := HX.out.frozen 2
  have hcx0_3 : w0.cell? ⟨w.heap.size, 3, none⟩ = some (.slice none 0 0) := HX.out.cell 3
  have hfz0_3 : w0.frozen? ⟨w.heap.size, 3, none⟩ = false := HX.out.frozen 3
  have hcx0_4 : w0.cell? ⟨w.heap.size, 4, none⟩ = some (.slice none 0 0) := HX.out.cell 4
  have hfz0_4 : w0.frozen? ⟨w.heap.size, 4, none⟩ = false := HX.out.frozen 4
  have hcx0_5 : w0.cell? ⟨w.heap.size, 5, none⟩ = some (.slice none 0 0) := HX.out.cell 5
  have hfz0_5 : w0.frozen? ⟨w.heap.size, 5, none⟩ = false := HX.out.frozen 5
  have hcx0_6 : w0.cell? ⟨w.heap.size, 6, none⟩ = some (.slice none 0 0) := HX.out.cell 6
  have hfz0_6 : w0.frozen? ⟨w.heap.size, 6, none⟩ = false := HX.out.frozen 6
  clear hd hR hK 
  have HY : Hid (Blk (((((((w0.setCell ⟨w.heap.size, 0, none⟩ (.int .i64 n0)).setCell ⟨w.heap.size, 1, none⟩ (.int .i64 n1)).setCell ⟨w.heap.size, 2, none⟩ (.slice A2 r2.length k2)).setCell ⟨w.heap.size, 3, none⟩ (.slice A3 r3.length k3)).setCell ⟨w.heap.size, 4, none⟩ (.slice A4 r4.length k4)).setCell ⟨w.heap.size, 5, none⟩ (.slice A5 r5.length k5)).setCell ⟨w.heap.size, 6, none⟩ (.slice A6 r6.length k6)) w.heap.size 82 [.int .i64 n0, .int .i64 n1, .slice A2 r2.length k2, .slice A3 r3.length k3, .slice A4 r4.length k4, .slice A5 r5.length k5, .slice A6 r6.length k6, .slice none 0 0, .slice none 0 0, .int .i64 0]) := Lib.hid (((((((HX.out.set_ 0 (.int .i64 n0)).set_ 1 (.int .i64 n1)).set_ 2 (.slice A2 r2.length k2)).set_ 3 (.slice A3 r3.length k3)).set_ 4 (.slice A4 r4.length k4)).set_ 5 (.slice A5 r5.length k5)).set_ 6 (.slice A6 r6.length k6))
  have HKA : Hid (Keeps [82] w0 (((((((w0.setCell ⟨w.heap.size, 0, none⟩ (.int .i64 n0)).setCell ⟨w.heap.size, 1, none⟩ (.int .i64 n1)).setCell ⟨w.heap.size, 2, none⟩ (.slice A2 r2.length k2)).setCell ⟨w.heap.size, 3, none⟩ (.slice A3 r3.length k3)).setCell ⟨w.heap.size, 4, none⟩ (.slice A4 r4.length k4)).setCell ⟨w.heap.size, 5, none⟩ (.slice A5 r5.length k5)).setCell ⟨w.heap.size, 6, none⟩ (.slice A6 r6.length k6))) := Lib.hid ((((((((Keeps.refl _ _).trans (Keeps.set_ HX.out.typ (by simp) (.int .i64 n0))).trans (Keeps.set_ (HX.out.set_ 0 (.int .i64 n0)).typ (by simp) (.int .i64 n1))).trans (Keeps.set_ ((HX.out.set_ 0 (.int .i64 n0)).set_ 1 (.int .i64 n1)).typ (by simp) (.slice A2 r2.length k2))).trans (Keeps.set_ (((HX.out.set_ 0 (.int .i64 n0)).set_ 1 (.int .i64 n1)).set_ 2 (.slice A2 r2.length k2)).typ (by simp) (.slice A3 r3.length k3))).trans (Keeps.set_ ((((HX.out.set_ 0 (.int .i64 n0)).set_ 1 (.int .i64 n1)).set_ 2 (.slice A2 r2.length k2)).set_ 3 (.slice A3 r3.length k3)).typ (by simp) (.slice A4 r4.length k4))).trans (Keeps.set_ (((((HX.out.set_ 0 (.int .i64 n0)).set_ 1 (.int .i64 n1)).set_ 2 (.slice A2 r2.length k2)).set_ 3 (.slice A3 r3.length k3)).set_ 4 (.slice A4 r4.length k4)).typ (by simp) (.slice A5 r5.length k5))).trans (Keeps.set_ ((((((HX.out.set_ 0 (.int .i64 n0)).set_ 1 (.int .i64 n1)).set_ 2 (.slice A2 r2.length k2)).set_ 3 (.slice A3 r3.length k3)).set_ 4 (.slice A4 r4.length k4)).set_ 5 (.slice A5 r5.length k5)).typ (by simp) (.slice A6 r6.length k6)))
  have HBA : Hid (Below w.heap.size w0 (((((((w0.setCell ⟨w.heap.size, 0, none⟩ (.int .i64 n0)).setCell ⟨w.heap.size, 1, none⟩ (.int .i64 n1)).setCell ⟨w.heap.size, 2, none⟩ (.slice A2 r2.length k2)).setCell ⟨w.heap.size, 3, none⟩ (.slice A3 r3.length k3)).setCell ⟨w.heap.size, 4, none⟩ (.slice A4 r4.length k4)).setCell ⟨w.heap.size, 5, none⟩ (.slice A5 r5.length k5)).setCell ⟨w.heap.size, 6, none⟩ (.slice A6 r6.length k6))) := Lib.hid ((((((((Below.refl w.heap.size w0).setCell (Nat.le_refl _) _).setCell (Nat.le_refl _) _).setCell (Nat.le_refl _) _).setCell (Nat.le_refl _) _).setCell (Nat.le_refl _) _).setCell (Nat.le_refl _) _).setCell (Nat.le_refl _) _)
  replace HX := HY
  replace HR := Lib.hid (HR.out.keeps HKA.out (HBA.out.mono hlt) (by decide) (by decide) (by decide))
  replace R2 := Lib.hid (rows_keeps R2.out HKA.out (by decide))
  replace R3 := Lib.hid (rows_keeps R3.out HKA.out (by decide))
  replace R4 := Lib.hid (rows_keeps R4.out HKA.out (by decide))
  replace R5 := Lib.hid (rows_keeps R5.out HKA.out (by decide))
  replace R6 := Lib.hid (rows_keeps R6.out HKA.out (by decide))
  replace HB := Lib.hid (HB.out.trans (HBA.out.mono hlt))
  replace HK := Lib.hid (HK.out.below_new HBA.out)
  clear HY HKA HBA
  go_wp2_with fail
  refine (R_few_Done base g l0 _ HR.out).mono ?_
  rintro e w1 ⟨hE, hK⟩
  rcases hE with ⟨d7, l1, v7, hd, rfl, hv, hR⟩ | ⟨hd, rfl⟩
  rotate_left
  · refine ⟨rfl, .inr ⟨?_, rfl⟩, HB.out.trans hK.below, HK.out.trans hK.keeps⟩
    rw [shMachine, hd0.out, rds_none hd]
    rfl
  replace HB := Lib.hid (HB.out.trans hK.below)
  replace HK := Lib.hid (HK.out.trans hK.keeps)
  replace HX := Lib.hid (HX.out.keeps hK.keeps (by decide))
  replace R2 := Lib.hid (rows_keeps R2.out hK.keeps (by decide))
  replace R3 := Lib.hid (rows_keeps R3.out hK.keeps (by decide))
  replace R4 := Lib.hid (rows_keeps R4.out hK.keeps (by decide))
  replace R5 := Lib.hid (rows_keeps R5.out hK.keeps (by decide))
  replace R6 := Lib.hid (rows_keeps R6.out hK.keeps (by decide))
  have hd1 := Lib.hid hd
  obtain ⟨r7, A7, k7, rfl, rfl, R7⟩ := hv.rows
  replace R7 := Lib.hid R7
  replace HR := Lib.hid hR
  have hsz1 := HK.out.size
  have hfz1 : w1.frozen? ⟨w.heap.size, 7, none⟩ = false := HX.out.frozen 7
  have hcx1_0 : w1.cell? ⟨w.heap.size, 7, none⟩ = some (.slice none 0 0) := HX.out.cell 7
  clear hd hR hK hv
  have HY : Hid (Blk (w1.setCell ⟨w.heap.size, 7, none⟩ (.slice A7 r7.length k7)) w.heap.size 82 [.int .i64 n0, .int .i64 n1, .slice A2 r2.length k2, .slice A3 r3.length k3, .slice A4 r4.length k4, .slice A5 r5.length k5, .slice A6 r6.length k6, .slice A7 r7.length k7, .slice none 0 0, .int .i64 0]) := Lib.hid (HX.out.set_ 7 (.slice A7 r7.length k7))
  have HKA : Hid (Keeps [82] w1 (w1.setCell ⟨w.heap.size, 7, none⟩ (.slice A7 r7.length k7))) := Lib.hid ((Keeps.refl _ _).trans (Keeps.set_ HX.out.typ (by simp) (.slice A7 r7.length k7)))
  have HBA : Hid (Below w.heap.size w1 (w1.setCell ⟨w.heap.size, 7, none⟩ (.slice A7 r7.length k7))) := Lib.hid ((Below.refl w.heap.size w1).setCell (Nat.le_refl _) _)
  replace HX := HY
  replace HR := Lib.hid (HR.out.keeps HKA.out (HBA.out.mono hlt) (by decide) (by decide) (by decide))
  replace R2 := Lib.hid (rows_keeps R2.out HKA.out (by decide))
  replace R3 := Lib.hid (rows_keeps R3.out HKA.out (by decide))
  replace R4 := Lib.hid (rows_keeps R4.out HKA.out (by decide))
  replace R5 := Lib.hid (rows_keeps R5.out HKA.out (by decide))
  replace R6 := Lib.hid (rows_keeps R6.out HKA.out (by decide))
  replace R7 := Lib.hid (rows_keeps R7.out HKA.out (by decide))
  replace HB := Lib.hid (HB.out.trans (HBA.out.mono hlt))
  replace HK := Lib.hid (HK.out.below_new HBA.out)
  clear HY HKA HBA
  go_wp2_with fail
  refine (R_few_Lease base g l1 _ HR.out).mono ?_
  rintro e w2 ⟨hE, hK⟩
  rcases hE with ⟨d8, l2, v8, hd, rfl, hv, hR⟩ | ⟨hd, rfl⟩
  rotate_left
  · refine ⟨rfl, .inr ⟨?_, rfl⟩, HB.out.trans hK.below, HK.out.trans hK.keeps⟩
    rw [shMachine, hd0.out, rds_some hd1.out, rds_none hd]
    rfl
  replace HB := Lib.hid (HB.out.trans hK.below)
  replace HK := Lib.hid (HK.out.trans hK.keeps)
  replace HX := Lib.hid (HX.out.keeps hK.keeps (by decide))
  replace R2 := Lib.hid (rows_keeps R2.out hK.keeps (by decide))
  replace R3 := Lib.hid (rows_keeps R3.out hK.keeps (by decide))
  replace R4 := Lib.hid (rows_keeps R4.out hK.keeps (by decide))
  replace R5 := Lib.hid (rows_keeps R5.out hK.keeps (by decide))
  replace R6 := Lib.hid (rows_keeps R6.out hK.keeps (by decide))
  replace R7 := Lib.hid (rows_keeps R7.out hK.keeps (by decide))
  have hd2 := Lib.hid hd
  obtain ⟨r8, A8, k8, rfl, rfl, R8⟩ := hv.rows
  replace R8 := Lib.hid R8
  replace HR := Lib.hid hR
  have hsz2 := HK.out.size
  have hfz2 : w2.frozen? ⟨w.heap.size, 8, none⟩ = false := HX.out.frozen 8
  have hcx2_0 : w2.cell? ⟨w.heap.size, 8, none⟩ = some (.slice none 0 0) := HX.out.cell 8
  clear hd hR hK hv
  have HY : Hid (Blk (w2.setCell ⟨w.heap.size, 8, none⟩ (.slice A8 r8.length k8)) w.heap.size 82 [.int .i64 n0, .int .i64 n1, .slice A2 r2.length k2, .slice A3 r3.length k3, .slice A4 r4.length k4, .slice A5 r5.length k5, .slice A6 r6.length k6, .slice A7 r7.length k7, .slice A8 r8.length k8, .int .i64 0]) := Lib.hid (HX.out.set_ 8 (.slice A8 r8.length k8))
  have HKA : Hid (Keeps [82] w2 (w2.setCell ⟨w.heap.size, 8, none⟩ (.slice A8 r8.length k8))) := Lib.hid ((Keeps.refl _ _).trans (Keeps.set_ HX.out.typ (by simp) (.slice A8 r8.length k8)))
  have HBA : Hid (Below w.heap.size w2 (w2.setCell ⟨w.heap.size, 8, none⟩ (.slice A8 r8.length k8))) := Lib.hid ((Below.refl w.heap.size w2).setCell (Nat.le_refl _) _)
  replace HX := HY
  replace HR := Lib.hid (HR.out.keeps HKA.out (HBA.out.mono hlt) (by decide) (by decide) (by decide))
  replace R2 := Lib.hid (rows_keeps R2.out HKA.out (by decide))
  replace R3 := Lib.hid (rows_keeps R3.out HKA.out (by decide))
  replace R4 := Lib.hid (rows_keeps R4.out HKA.out (by decide))
  replace R5 := Lib.hid (rows_keeps R5.out HKA.out (by decide))
  replace R6 := Lib.hid (rows_keeps R6.out HKA.out (by decide))
  replace R7 := Lib.hid (rows_keeps R7.out HKA.out (by decide))
  replace R8 := Lib.hid (rows_keeps R8.out HKA.out (by decide))
  replace HB := Lib.hid (HB.out.trans (HBA.out.mono hlt))
  replace HK := Lib.hid (HK.out.below_new HBA.out)
  clear HY HKA HBA
  go_wp2_with fail
  refine (R_num base g l2 _ HR.out).mono ?_
  rintro e w3 ⟨hE, hK⟩
  rcases hE with ⟨d9, l3, v9, hd, rfl, hv, hR⟩ | ⟨hd, rfl⟩
  rotate_left
  · refine ⟨rfl, .inr ⟨?_, rfl⟩, HB.out.trans hK.below, HK.out.trans hK.keeps⟩
    rw [shMachine, hd0.out, rds_some hd1.out, rds_some hd2.out, rds_none hd]
    rfl
  replace HB := Lib.hid (HB.out.trans hK.below)
  replace HK := Lib.hid (HK.out.trans hK.keeps)
  replace HX := Lib.hid (HX.out.keeps hK.keeps (by decide))
  replace R2 := Lib.hid (rows_keeps R2.out hK.keeps (by decide))
  replace R3 := Lib.hid (rows_keeps R3.out hK.keeps (by decide))
  replace R4 := Lib.hid (rows_keeps R4.out hK.keeps (by decide))
  replace R5 := Lib.hid (rows_keeps R5.out hK.keeps (by decide))
  replace R6 := Lib.hid (rows_keeps R6.out hK.keeps (by decide))
  replace R7 := Lib.hid (rows_keeps R7.out hK.keeps (by decide))
  replace R8 := Lib.hid (rows_keeps R8.out hK.keeps (by decide))
  have hd3 := Lib.hid hd
  obtain ⟨n9, rfl, rfl⟩ := hv.num
  replace HR := Lib.hid hR
  have hsz3 := HK.out.size
  have hfz3 : w3.frozen? ⟨w.heap.size, 9, none⟩ = false := HX.out.frozen 9
  have hcx3_0 : w3.cell? ⟨w.heap.size, 9, none⟩ = some (.int .i64 0) := HX.out.cell 9
  clear hd hR hK hv
  have HY : Hid (Blk (w3.setCell ⟨w.heap.size, 9, none⟩ (.int .i64 n9)) w.heap.size 82 [.int .i64 n0, .int .i64 n1, .slice A2 r2.length k2, .slice A3 r3.length k3, .slice A4 r4.length k4, .slice A5 r5.length k5, .slice A6 r6.length k6, .slice A7 r7.length k7, .slice A8 r8.length k8, .int .i64 n9]) := Lib.hid (HX.out.set_ 9 (.int .i64 n9))
  have HKA : Hid (Keeps [82] w3 (w3.setCell ⟨w.heap.size, 9, none⟩ (.int .i64 n9))) := Lib.hid ((Keeps.refl _ _).trans (Keeps.set_ HX.out.typ (by simp) (.int .i64 n9)))
  have HBA : Hid (Below w.heap.size w3 (w3.setCell ⟨w.heap.size, 9, none⟩ (.int .i64 n9))) := Lib.hid ((Below.refl w.heap.size w3).setCell (Nat.le_refl _) _)
  replace HX := HY
  replace HR := Lib.hid (HR.out.keeps HKA.out (HBA.out.mono hlt) (by decide) (by decide) (by decide))
  replace R2 := Lib.hid (rows_keeps R2.out HKA.out (by decide))
  replace R3 := Lib.hid (rows_keeps R3.out HKA.out (by decide))
  replace R4 := Lib.hid (rows_keeps R4.out HKA.out (by decide))
  replace R5 := Lib.hid (rows_keeps R5.out HKA.out (by decide))
  replace R6 := Lib.hid (rows_keeps R6.out HKA.out (by decide))
  replace R7 := Lib.hid (rows_keeps R7.out HKA.out (by decide))
  replace R8 := Lib.hid (rows_keeps R8.out HKA.out (by decide))
  replace HB := Lib.hid (HB.out.trans (HBA.out.mono hlt))
  replace HK := Lib.hid (HK.out.below_new HBA.out)
  clear HY HKA HBA
  have HRG := Lib.hid HX.out.range0
  have HTE : Hid (World.there _ w.heap.size 0 (List.toArray ([.int .i64 n0, .int .i64 n1, .slice A2 r2.length k2, .slice A3 r3.length k3, .slice A4 r4.length k4, .slice A5 r5.length k5, .slice A6 r6.length k6, .slice A7 r7.length k7, .slice A8 r8.length k8, .int .i64 n9] : List Value)).size) := Lib.hid (HX.out.there 0 10 (by simp))
  have hiV : Hid ((Try.prog.info? 82).map (·.size) = some (List.length ([.int .i64 n0, .int .i64 n1, .slice A2 r2.length k2, .slice A3 r3.length k3, .slice A4 r4.length k4, .slice A5 r5.length k5, .slice A6 r6.length k6, .slice A7 r7.length k7, .slice A8 r8.length k8, .int .i64 n9] : List Value))) := Lib.hid hi.out
  have hsV : Hid ((Try.prog.info? 82).map (·.size) = some (List.toArray ([.int .i64 n0, .int .i64 n1, .slice A2 r2.length k2, .slice A3 r3.length k3, .slice A4 r4.length k4, .slice A5 r5.length k5, .slice A6 r6.length k6, .slice A7 r7.length k7, .slice A8 r8.length k8, .int .i64 n9] : List Value)).size) := Lib.hid hi.out
  have h1V : Hid ((List.toArray ([.int .i64 n0, .int .i64 n1, .slice A2 r2.length k2, .slice A3 r3.length k3, .slice A4 r4.length k4, .slice A5 r5.length k5, .slice A6 r6.length k6, .slice A7 r7.length k7, .slice A8 r8.length k8, .int .i64 n9] : List Value)).all (·.oneCell') = true) := Lib.hid (all_oneCell_toArray (by simp [Value.oneCell']))
  go_wp2_with (first | (with_reducible refine wpList_load_mid rfl 82 _ rfl w.heap.size 0 rfl [.int .i64 n0, .int .i64 n1, .slice A2 r2.length k2, .slice A3 r3.length k3, .slice A4 r4.length k4, .slice A5 r5.length k5, .slice A6 r6.length k6, .slice A7 r7.length k7, .slice A8 r8.length k8, .int .i64 n9] _ HRG.out Try.underlying82 rfl hiV.out ?_) | (with_reducible refine wpList_store_mid rfl 82 _ _ rfl w.heap.size 0 (List.toArray ([.int .i64 n0, .int .i64 n1, .slice A2 r2.length k2, .slice A3 r3.length k3, .slice A4 r4.length k4, .slice A5 r5.length k5, .slice A6 r6.length k6, .slice A7 r7.length k7, .slice A8 r8.length k8, .int .i64 n9] : List Value)) rfl rfl HTE.out hsV.out h1V.out ?_))
  have HXE := Lib.hid (HX.out.setCells0 [.int .i64 n0, .int .i64 n1, .slice A2 r2.length k2, .slice A3 r3.length k3, .slice A4 r4.length k4, .slice A5 r5.length k5, .slice A6 r6.length k6, .slice A7 r7.length k7, .slice A8 r8.length k8, .int .i64 n9] rfl)
  have HKE := Lib.hid (Keeps.setCells (ts := [82]) (t := 82) (by simp) HX.out.typ 0 [.int .i64 n0, .int .i64 n1, .slice A2 r2.length k2, .slice A3 r3.length k3, .slice A4 r4.length k4, .slice A5 r5.length k5, .slice A6 r6.length k6, .slice A7 r7.length k7, .slice A8 r8.length k8, .int .i64 n9])
  refine bodyPost_ret (results_cell rfl _ _ w.heap.size rfl [.int .i64 n0, .int .i64 n1, .slice A2 r2.length k2, .slice A3 r3.length k3, .slice A4 r4.length k4, .slice A5 r5.length k5, .slice A6 r6.length k6, .slice A7 r7.length k7, .slice A8 r8.length k8, .int .i64 n9] _ HXE.out.range0 Try.underlying82 rfl hi.out) rfl ?_
  refine ⟨.inl ⟨[.int n0, .int n1, .rows r2, .rows r3, .rows r4, .rows r5, .rows r6, .rows r7, .rows r8, .int n9], l3, [.int .i64 n0, .int .i64 n1, .slice A2 r2.length k2, .slice A3 r3.length k3, .slice A4 r4.length k4, .slice A5 r5.length k5, .slice A6 r6.length k6, .slice A7 r7.length k7, .slice A8 r8.length k8, .int .i64 n9], ?_, rfl, ?_, HR.out.keeps HKE.out (below_setCells_ hlt _ _) (by decide) (by decide) (by decide)⟩, HB.out.trans (below_setCells_ hlt _ _), HK.out.below_new (below_setCells_ (Nat.le_refl _) _ _)⟩
  · rw [shMachine, hd0.out, rds_some hd1.out, rds_some hd2.out, rds_some hd3.out, rds_nil]
    rfl
  · exact (Cels.mk (Cel.mk_num n0) (Cels.mk (Cel.mk_num n1) (Cels.mk (((Cel.mk_rows k2 R2.out).keeps HKE.out (by decide)).inT_more (by decide)) (Cels.mk (((Cel.mk_rows k3 R3.out).keeps HKE.out (by decide)).inT_more (by decide)) (Cels.mk (((Cel.mk_rows k4 R4.out).keeps HKE.out (by decide)).inT_more (by decide)) (Cels.mk (((Cel.mk_rows k5 R5.out).keeps HKE.out (by decide)).inT_more (by decide)) (Cels.mk (((Cel.mk_rows k6 R6.out).keeps HKE.out (by decide)).inT_more (by decide)) (Cels.mk (((Cel.mk_rows k7 R7.out).keeps HKE.out (by decide)).inT_more (by decide)) (Cels.mk (((Cel.mk_rows k8 R8.out).keeps HKE.out (by decide)).inT_more (by decide)) (Cels.mk (Cel.mk_num n9) Cels.mk0))))))))))

end Go.Proofs.Yteohhgkehkmgcaa
