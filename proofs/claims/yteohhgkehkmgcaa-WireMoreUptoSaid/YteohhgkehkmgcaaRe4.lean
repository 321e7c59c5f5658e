/- The walks of the program's reader: lists and structs. Printed by mkre.py. -/
import Derived.Test.YteohhgkehkmgcaaRe3
namespace Go.Proofs.Yteohhgkehkmgcaa
open Go.RowKit Le
set_option maxRecDepth 100000
set_option linter.unusedVariables false
set_option linter.unusedSimpArgs false

set_option maxHeartbeats 1600000 in
theorem R_few_string (base g : Nat) (l : List UInt8) (w : World) (h : RdAt w base g l) :
    Calls Try.prog 123 #[.pointer (some ⟨g, 0, none⟩), .func (.func 93) #[] #[]] w fun e w' => FEnd (.rows [.text]) l [9] w' base g e ∧ Rds base w w' := by
  obtain ⟨i0, hi0⟩ : ∃ i, Try.prog.info? 9 = some i := by
    cases hq : Try.prog.info? 9 with
    | none => have h0 : (Try.prog.info? 9).isSome = true := by kernel_rfl
              rw [hq] at h0; cases h0
    | some i => exact ⟨i, rfl⟩
  have hinf : (Try.prog.info? 9).map (fun i => (i.zero, i.size, decide (i.bytes ≤ 1000))) = some (some (.string ⟨#[]⟩), 1, true) := by kernel_rfl
  rw [hi0] at hinf
  simp only [Option.map_some, Option.some.injEq, Prod.mk.injEq, decide_eq_true_eq] at hinf
  obtain ⟨hz0, hz1, hz2⟩ := hinf
  have hby := Nat.mul_le_mul_left 4097 hz2
  have HI := Lib.hid (And.intro hi0 (And.intro hz0 hz1))
  clear hi0 hz0 hz1
  have hlt := h.lt
  have C := Lib.hid (R_num base g l w h)
  clear h
  go_enter Try.func123, Try.ntmps123
  go_wp2_with fail
  refine (unhide C).mono ?_
  rintro e w1 ⟨hE, hK⟩
  rcases hE with ⟨d, l1, v, hd, rfl, hv, hR⟩ | ⟨hd, rfl⟩
  rotate_left
  · exact ⟨rfl, .inr ⟨rows_num (rd_num_none hd), rfl⟩, hK⟩
  obtain ⟨N, rfl, hN, hN9⟩ := rd_num_inv hd
  obtain ⟨_, h1, rfl⟩ := hv.num
  injection h1 with h1
  subst h1
  have HN := Lib.hid hN
  have HR1 := Lib.hid hR
  have HK1 := Lib.hid hK
  clear C hd hN hR hK hv
  by_cases h4 : N ≤ 4096
  rotate_left
  · go_wp2_with fail
    have hdv : decide ((N : Int) ≤ 4096) = false := decide_eq_false (by omega)
    first | rw [hdv] | skip
    refine (is_false _).mono ?_
    rintro e w' ⟨rfl, rfl⟩
    exact ⟨rfl, .inr ⟨rows_big HN.out h4, rfl⟩, HK1.out⟩
  go_wp2_with fail
  have hdv : decide ((N : Int) ≤ 4096) = true := decide_eq_true (by omega)
  rw [hdv]
  refine (is_true _).mono ?_
  rintro e w' ⟨rfl, rfl⟩
  clear hdv
  go_wp2
  go_loopw [6, 13] (fun v i wr => ∃ (j : Nat) (ds : List (List Da)) (lj : List UInt8) (A : Option Addr) (c : Nat) (xs : List Value), j ≤ N ∧ i = .int .i64 j ∧ v = .slice A j c ∧ Hid (iter (rds [.text]) j l1 = some (ds, lj)) ∧ Hid (RdAt wr base g lj) ∧ Hid (wr.ownsRow w.heap.size 9 1 (.slice A j c) j xs) ∧ Hid (Things wr [] [.text] ds xs) ∧ Hid (Rds base w wr) ∧ w.heap.size ≤ wr.heap.size) (fun _ i _ => N - (intOf i).toNat)
  case atStart => exact ⟨0, [], l1, none, 0, [], Nat.zero_le _, rfl, rfl, Lib.hid (by simp only [iter]), HR1, Lib.hid (World.ownsRow_nil _ w.heap.size 9 1), Lib.hid (Things.nil _ _ _ _), HK1, HK1.out.keeps.size⟩
  case round =>
    obtain ⟨j, ds, lj, A, c, xs, hj, rfl, rfl, HIT, HR, HO, HT, HK, hsz⟩ := hrel
    by_cases hlt2 : j < N
    · have C := Lib.hid (R_text base g lj wr HR.out)
      go_wp2_with fail
      refine (unhide C).mono ?_
      rintro e w2 ⟨hE, hK⟩
      rcases hE with ⟨d, l2, v, hd, rfl, hv, hR⟩ | ⟨hd, rfl⟩
      rotate_left
      · exact ⟨rfl, .inr ⟨rows_none HN.out (iter_none HIT.out (rds_none hd) hlt2), rfl⟩, HK.out.trans hK⟩
      have hit := iter_snoc HIT.out (show rds [.text] lj = some ([d], l2) by rw [rds_some hd, rds_nil]; rfl)
      have hC := Cels.one hv
      have hC : Cels w2 (InT w2 []) [.text] [d] [v] := hC
      obtain ⟨x0, rfl, rfl⟩ := hv.txt
      have HC := Lib.hid hC
      have HR2 := Lib.hid hR
      have HIT2 := Lib.hid hit
      have HK2 := Lib.hid (HK.out.trans hK)
      have HO2 := Lib.hid (HO.out.keeps hK.keeps (by decide))
      have HT2 := Lib.hid (HT.out.keeps hK.keeps (by decide))
      have hsz2 := hK.keeps.size
      have hone := HC.out.oneCell
      clear C hC hR hit hK HR HO HT HK HIT
      go_wp2_with (at_builtin; refine wpList_appN rfl _ _ 44 rfl w.heap.size 9 i0 _ 1 i0.bytes Try.underlying44 HI.out.1 HI.out.2.1 HI.out.2.2 rfl rfl (by decide) (.slice A j c) j xs rfl (HO2.out.alloc _) ⟨w2.heap.size, 0, none⟩ 1 [.string (text x0)] rfl rfl (Blk.new w2 _ [.string (text x0)]).news hone (by unfold maxLen; omega) (Nat.le_trans (Nat.mul_le_mul_right _ (by omega)) (Nat.le_trans hby (by decide))) (by simp; omega) ?_; intro A3 c3 w3 HO3 HG3)
      have HKA : Hid (Keeps [9] w2 w3) := Lib.hid ((Keeps.alloc w2 _).trans (Keeps.grown (HO2.out.alloc _) HG3.out (by simp) HG3.out.size))
      have HBA : Hid (Below base w2 w3) := Lib.hid (((Below.refl _ _).alloc (by omega) _).grown HG3.out (by simp; omega) (by intro k hk; have := own_block_ge HO2.out k hk; omega))
      have hrel : ∃ (j' : Nat) (ds : List (List Da)) (lj : List UInt8) (A : Option Addr) (c : Nat) (xs : List Value), j' ≤ N ∧ Value.int .i64 ((j : Int) + 1) = .int .i64 j' ∧ Value.slice A3 (j + 1) c3 = .slice A j' c ∧ Hid (iter (rds [.text]) j' l1 = some (ds, lj)) ∧ Hid (RdAt w3 base g lj) ∧ Hid (w3.ownsRow w.heap.size 9 1 (.slice A j' c) j' xs) ∧ Hid (Things w3 [] [.text] ds xs) ∧ Hid (Rds base w w3) ∧ w.heap.size ≤ w3.heap.size := by
        refine ⟨j + 1, _, _, A3, c3, _, by omega, by simp, rfl, HIT2, Lib.hid (HR2.out.keeps HKA.out HBA.out (by decide) (by decide) (by decide)), HO3, Lib.hid ?_, Lib.hid ⟨HK2.out.below.trans HBA.out, ?_⟩, by have := HKA.out.size; omega⟩
        · exact (HT2.out.keeps HKA.out (by decide)).snoc (by have h1 := HO2.out.1; have h2 := iter_len_snoc HIT2.out; rw [h2]; exact h1) (HC.out.keeps HKA.out (by decide))
        · exact (HK2.out.keeps.then_below ((Below.refl _ _).alloc (Nat.le_refl _) _)).grown_new HG3.out (fun k hk => by have := own_block_ge HO2.out k hk; omega)
      clear HKA HBA HO3 HG3 HO2 HT2 HR2 HC HK2 HIT2
      go_wp2
      go_roundw
      case rel => obtain ⟨j', ds, lj, A, c, xs, h1, h2, h3, h4⟩ := hrel; exact ⟨j', ds, lj, A, c, xs, h1, by rw [← h2], h3, h4⟩
      case measure => simp [intOf]; omega
    · obtain rfl : j = N := by omega
      go_wp2
      go_ret
      have hl2 := iter_len HIT.out
      refine ⟨.inl ⟨.rows ds, lj, .slice A j c, rows_ok HN.out h4 HIT.out, rfl, ?_, HR.out⟩, HK.out⟩
      have hr := rowsAt_own (us := []) (l := [.text]) (ds := ds) (by decide) HO.out hl2 HT.out
      have := Cel.mk_rows c hr
      rwa [hl2] at this

set_option maxHeartbeats 1600000 in
theorem R_few_int (base g : Nat) (l : List UInt8) (w : World) (h : RdAt w base g l) :
    Calls Try.prog 155 #[.pointer (some ⟨g, 0, none⟩), .func (.func 81) #[] #[]] w fun e w' => FEnd (.rows [.num]) l [3] w' base g e ∧ Rds base w w' := by
  obtain ⟨i0, hi0⟩ : ∃ i, Try.prog.info? 3 = some i := by
    cases hq : Try.prog.info? 3 with
    | none => have h0 : (Try.prog.info? 3).isSome = true := by kernel_rfl
              rw [hq] at h0; cases h0
    | some i => exact ⟨i, rfl⟩
  have hinf : (Try.prog.info? 3).map (fun i => (i.zero, i.size, decide (i.bytes ≤ 1000))) = some (some (.int .i64 0), 1, true) := by kernel_rfl
  rw [hi0] at hinf
  simp only [Option.map_some, Option.some.injEq, Prod.mk.injEq, decide_eq_true_eq] at hinf
  obtain ⟨hz0, hz1, hz2⟩ := hinf
  have hby := Nat.mul_le_mul_left 4097 hz2
  have HI := Lib.hid (And.intro hi0 (And.intro hz0 hz1))
  clear hi0 hz0 hz1
  have hlt := h.lt
  have C := Lib.hid (R_num base g l w h)
  clear h
  go_enter Try.func155, Try.ntmps155
  go_wp2_with fail
  refine (unhide C).mono ?_
  rintro e w1 ⟨hE, hK⟩
  rcases hE with ⟨d, l1, v, hd, rfl, hv, hR⟩ | ⟨hd, rfl⟩
  rotate_left
  · exact ⟨rfl, .inr ⟨rows_num (rd_num_none hd), rfl⟩, hK⟩
  obtain ⟨N, rfl, hN, hN9⟩ := rd_num_inv hd
  obtain ⟨_, h1, rfl⟩ := hv.num
  injection h1 with h1
  subst h1
  have HN := Lib.hid hN
  have HR1 := Lib.hid hR
  have HK1 := Lib.hid hK
  clear C hd hN hR hK hv
  by_cases h4 : N ≤ 4096
  rotate_left
  · go_wp2_with fail
    have hdv : decide ((N : Int) ≤ 4096) = false := decide_eq_false (by omega)
    first | rw [hdv] | skip
    refine (is_false _).mono ?_
    rintro e w' ⟨rfl, rfl⟩
    exact ⟨rfl, .inr ⟨rows_big HN.out h4, rfl⟩, HK1.out⟩
  go_wp2_with fail
  have hdv : decide ((N : Int) ≤ 4096) = true := decide_eq_true (by omega)
  rw [hdv]
  refine (is_true _).mono ?_
  rintro e w' ⟨rfl, rfl⟩
  clear hdv
  go_wp2
  go_loopw [6, 13] (fun v i wr => ∃ (j : Nat) (ds : List (List Da)) (lj : List UInt8) (A : Option Addr) (c : Nat) (xs : List Value), j ≤ N ∧ i = .int .i64 j ∧ v = .slice A j c ∧ Hid (iter (rds [.num]) j l1 = some (ds, lj)) ∧ Hid (RdAt wr base g lj) ∧ Hid (wr.ownsRow w.heap.size 3 1 (.slice A j c) j xs) ∧ Hid (Things wr [] [.num] ds xs) ∧ Hid (Rds base w wr) ∧ w.heap.size ≤ wr.heap.size) (fun _ i _ => N - (intOf i).toNat)
  case atStart => exact ⟨0, [], l1, none, 0, [], Nat.zero_le _, rfl, rfl, Lib.hid (by simp only [iter]), HR1, Lib.hid (World.ownsRow_nil _ w.heap.size 3 1), Lib.hid (Things.nil _ _ _ _), HK1, HK1.out.keeps.size⟩
  case round =>
    obtain ⟨j, ds, lj, A, c, xs, hj, rfl, rfl, HIT, HR, HO, HT, HK, hsz⟩ := hrel
    by_cases hlt2 : j < N
    · have C := Lib.hid (R_num base g lj wr HR.out)
      go_wp2_with fail
      refine (unhide C).mono ?_
      rintro e w2 ⟨hE, hK⟩
      rcases hE with ⟨d, l2, v, hd, rfl, hv, hR⟩ | ⟨hd, rfl⟩
      rotate_left
      · exact ⟨rfl, .inr ⟨rows_none HN.out (iter_none HIT.out (rds_none hd) hlt2), rfl⟩, HK.out.trans hK⟩
      have hit := iter_snoc HIT.out (show rds [.num] lj = some ([d], l2) by rw [rds_some hd, rds_nil]; rfl)
      have hC := Cels.one hv
      have hC : Cels w2 (InT w2 []) [.num] [d] [v] := hC
      obtain ⟨x0, rfl, rfl⟩ := hv.num
      have HC := Lib.hid hC
      have HR2 := Lib.hid hR
      have HIT2 := Lib.hid hit
      have HK2 := Lib.hid (HK.out.trans hK)
      have HO2 := Lib.hid (HO.out.keeps hK.keeps (by decide))
      have HT2 := Lib.hid (HT.out.keeps hK.keeps (by decide))
      have hsz2 := hK.keeps.size
      have hone := HC.out.oneCell
      clear C hC hR hit hK HR HO HT HK HIT
      go_wp2_with (at_builtin; refine wpList_appN rfl _ _ 24 rfl w.heap.size 3 i0 _ 1 i0.bytes Try.underlying24 HI.out.1 HI.out.2.1 HI.out.2.2 rfl rfl (by decide) (.slice A j c) j xs rfl (HO2.out.alloc _) ⟨w2.heap.size, 0, none⟩ 1 [.int .i64 x0] rfl rfl (Blk.new w2 _ [.int .i64 x0]).news hone (by unfold maxLen; omega) (Nat.le_trans (Nat.mul_le_mul_right _ (by omega)) (Nat.le_trans hby (by decide))) (by simp; omega) ?_; intro A3 c3 w3 HO3 HG3)
      have HKA : Hid (Keeps [3] w2 w3) := Lib.hid ((Keeps.alloc w2 _).trans (Keeps.grown (HO2.out.alloc _) HG3.out (by simp) HG3.out.size))
      have HBA : Hid (Below base w2 w3) := Lib.hid (((Below.refl _ _).alloc (by omega) _).grown HG3.out (by simp; omega) (by intro k hk; have := own_block_ge HO2.out k hk; omega))
      have hrel : ∃ (j' : Nat) (ds : List (List Da)) (lj : List UInt8) (A : Option Addr) (c : Nat) (xs : List Value), j' ≤ N ∧ Value.int .i64 ((j : Int) + 1) = .int .i64 j' ∧ Value.slice A3 (j + 1) c3 = .slice A j' c ∧ Hid (iter (rds [.num]) j' l1 = some (ds, lj)) ∧ Hid (RdAt w3 base g lj) ∧ Hid (w3.ownsRow w.heap.size 3 1 (.slice A j' c) j' xs) ∧ Hid (Things w3 [] [.num] ds xs) ∧ Hid (Rds base w w3) ∧ w.heap.size ≤ w3.heap.size := by
        refine ⟨j + 1, _, _, A3, c3, _, by omega, by simp, rfl, HIT2, Lib.hid (HR2.out.keeps HKA.out HBA.out (by decide) (by decide) (by decide)), HO3, Lib.hid ?_, Lib.hid ⟨HK2.out.below.trans HBA.out, ?_⟩, by have := HKA.out.size; omega⟩
        · exact (HT2.out.keeps HKA.out (by decide)).snoc (by have h1 := HO2.out.1; have h2 := iter_len_snoc HIT2.out; rw [h2]; exact h1) (HC.out.keeps HKA.out (by decide))
        · exact (HK2.out.keeps.then_below ((Below.refl _ _).alloc (Nat.le_refl _) _)).grown_new HG3.out (fun k hk => by have := own_block_ge HO2.out k hk; omega)
      clear HKA HBA HO3 HG3 HO2 HT2 HR2 HC HK2 HIT2
      go_wp2
      go_roundw
      case rel => obtain ⟨j', ds, lj, A, c, xs, h1, h2, h3, h4⟩ := hrel; exact ⟨j', ds, lj, A, c, xs, h1, by rw [← h2], h3, h4⟩
      case measure => simp [intOf]; omega
    · obtain rfl : j = N := by omega
      go_wp2
      go_ret
      have hl2 := iter_len HIT.out
      refine ⟨.inl ⟨.rows ds, lj, .slice A j c, rows_ok HN.out h4 HIT.out, rfl, ?_, HR.out⟩, HK.out⟩
      have hr := rowsAt_own (us := []) (l := [.num]) (ds := ds) (by decide) HO.out hl2 HT.out
      have := Cel.mk_rows c hr
      rwa [hl2] at this

set_option maxHeartbeats 1600000 in
theorem R_column (base g : Nat) (l : List UInt8) (w : World) (h : RdAt w base g l) :
    Calls Try.prog 95 #[.pointer (some ⟨g, 0, none⟩)] w fun e w' => SEnd shColumn l [] w' base g e ∧ Rds base w w' := by
  have hi : (Try.prog.info? 150).map (·.size) = some 3 := by kernel_rfl
  replace hi := Lib.hid hi
  have hlt := h.lt
  have HR := Lib.hid (h.below_ ((Below.refl _ _).alloc (Nat.le_refl _) (.cells #[.string ⟨#[]⟩, .int .i64 0, .bool false] 150)))
  have HX := Lib.hid (Blk.new w 150 [.string ⟨#[]⟩, .int .i64 0, .bool false])
  have HB : Hid (Below base w (w.alloc (.cells #[.string ⟨#[]⟩, .int .i64 0, .bool false] 150))) := Lib.hid ((Below.refl _ _).alloc hlt _)
  have HK : Hid (Keeps [137, 229] w (w.alloc (.cells #[.string ⟨#[]⟩, .int .i64 0, .bool false] 150))) := Lib.hid (Keeps.alloc _ _)
  clear h
  go_enter Try.func95, Try.ntmps95
  go_wp2_with fail
  refine (R_text base g l _ HR.out).mono ?_
  rintro e w0 ⟨hE, hK⟩
  rcases hE with ⟨d0, l0, v0, hd, rfl, hv, hR⟩ | ⟨hd, rfl⟩
  rotate_left
  · refine ⟨rfl, .inr ⟨?_, rfl⟩, HB.out.trans hK.below, HK.out.trans hK.keeps⟩
    rw [shColumn, rds_none hd]
  replace HB := Lib.hid (HB.out.trans hK.below)
  replace HK := Lib.hid (HK.out.trans hK.keeps)
  replace HX := Lib.hid (HX.out.keeps hK.keeps (by decide))
  have hd0 := Lib.hid hd
  obtain ⟨b0, rfl, rfl⟩ := hv.txt
  replace HR := Lib.hid hR
  have hsz0 := HK.out.size
  have hfz0 : w0.frozen? ⟨w.heap.size, 0, none⟩ = false := HX.out.frozen 0
  have hcx0_0 : w0.cell? ⟨w.heap.size, 0, none⟩ = some (.string ⟨#[]⟩) := HX.out.cell 0
  clear hd hR hK hv
  have HY : Hid (Blk (w0.setCell ⟨w.heap.size, 0, none⟩ (.string (text b0))) w.heap.size 150 [.string (text b0), .int .i64 0, .bool false]) := Lib.hid (HX.out.set_ 0 (.string (text b0)))
  have HKA : Hid (Keeps [150] w0 (w0.setCell ⟨w.heap.size, 0, none⟩ (.string (text b0)))) := Lib.hid ((Keeps.refl _ _).trans (Keeps.set_ HX.out.typ (by simp) (.string (text b0))))
  have HBA : Hid (Below w.heap.size w0 (w0.setCell ⟨w.heap.size, 0, none⟩ (.string (text b0)))) := Lib.hid ((Below.refl w.heap.size w0).setCell (Nat.le_refl _) _)
  replace HX := HY
  replace HR := Lib.hid (HR.out.keeps HKA.out (HBA.out.mono hlt) (by decide) (by decide) (by decide))
  replace HB := Lib.hid (HB.out.trans (HBA.out.mono hlt))
  replace HK := Lib.hid (HK.out.below_new HBA.out)
  clear HY HKA HBA
  go_wp2_with fail
  refine (R_num base g l0 _ HR.out).mono ?_
  rintro e w1 ⟨hE, hK⟩
  rcases hE with ⟨d1, l1, v1, hd, rfl, hv, hR⟩ | ⟨hd, rfl⟩
  rotate_left
  · refine ⟨rfl, .inr ⟨?_, rfl⟩, HB.out.trans hK.below, HK.out.trans hK.keeps⟩
    rw [shColumn, rds_some hd0.out, rds_none hd]
    rfl
  replace HB := Lib.hid (HB.out.trans hK.below)
  replace HK := Lib.hid (HK.out.trans hK.keeps)
  replace HX := Lib.hid (HX.out.keeps hK.keeps (by decide))
  have hd1 := Lib.hid hd
  obtain ⟨n1, rfl, rfl⟩ := hv.num
  replace HR := Lib.hid hR
  have hsz1 := HK.out.size
  have hfz1 : w1.frozen? ⟨w.heap.size, 1, none⟩ = false := HX.out.frozen 1
  have hcx1_0 : w1.cell? ⟨w.heap.size, 1, none⟩ = some (.int .i64 0) := HX.out.cell 1
  clear hd hR hK hv
  have HY : Hid (Blk (w1.setCell ⟨w.heap.size, 1, none⟩ (.int .i64 n1)) w.heap.size 150 [.string (text b0), .int .i64 n1, .bool false]) := Lib.hid (HX.out.set_ 1 (.int .i64 n1))
  have HKA : Hid (Keeps [150] w1 (w1.setCell ⟨w.heap.size, 1, none⟩ (.int .i64 n1))) := Lib.hid ((Keeps.refl _ _).trans (Keeps.set_ HX.out.typ (by simp) (.int .i64 n1)))
  have HBA : Hid (Below w.heap.size w1 (w1.setCell ⟨w.heap.size, 1, none⟩ (.int .i64 n1))) := Lib.hid ((Below.refl w.heap.size w1).setCell (Nat.le_refl _) _)
  replace HX := HY
  replace HR := Lib.hid (HR.out.keeps HKA.out (HBA.out.mono hlt) (by decide) (by decide) (by decide))
  replace HB := Lib.hid (HB.out.trans (HBA.out.mono hlt))
  replace HK := Lib.hid (HK.out.below_new HBA.out)
  clear HY HKA HBA
  go_wp2_with fail
  refine (R_flag base g l1 _ HR.out).mono ?_
  rintro e w2 ⟨hE, hK⟩
  rcases hE with ⟨d2, l2, v2, hd, rfl, hv, hR⟩ | ⟨hd, rfl⟩
  rotate_left
  · refine ⟨rfl, .inr ⟨?_, rfl⟩, HB.out.trans hK.below, HK.out.trans hK.keeps⟩
    rw [shColumn, rds_some hd0.out, rds_some hd1.out, rds_none hd]
    rfl
  replace HB := Lib.hid (HB.out.trans hK.below)
  replace HK := Lib.hid (HK.out.trans hK.keeps)
  replace HX := Lib.hid (HX.out.keeps hK.keeps (by decide))
  have hd2 := Lib.hid hd
  obtain ⟨f2, rfl, rfl⟩ := hv.flag
  replace HR := Lib.hid hR
  have hsz2 := HK.out.size
  have hfz2 : w2.frozen? ⟨w.heap.size, 2, none⟩ = false := HX.out.frozen 2
  have hcx2_0 : w2.cell? ⟨w.heap.size, 2, none⟩ = some (.bool false) := HX.out.cell 2
  clear hd hR hK hv
  have HY : Hid (Blk (w2.setCell ⟨w.heap.size, 2, none⟩ (.bool f2)) w.heap.size 150 [.string (text b0), .int .i64 n1, .bool f2]) := Lib.hid (HX.out.set_ 2 (.bool f2))
  have HKA : Hid (Keeps [150] w2 (w2.setCell ⟨w.heap.size, 2, none⟩ (.bool f2))) := Lib.hid ((Keeps.refl _ _).trans (Keeps.set_ HX.out.typ (by simp) (.bool f2)))
  have HBA : Hid (Below w.heap.size w2 (w2.setCell ⟨w.heap.size, 2, none⟩ (.bool f2))) := Lib.hid ((Below.refl w.heap.size w2).setCell (Nat.le_refl _) _)
  replace HX := HY
  replace HR := Lib.hid (HR.out.keeps HKA.out (HBA.out.mono hlt) (by decide) (by decide) (by decide))
  replace HB := Lib.hid (HB.out.trans (HBA.out.mono hlt))
  replace HK := Lib.hid (HK.out.below_new HBA.out)
  clear HY HKA HBA
  have HRG := Lib.hid HX.out.range0
  have HTE : Hid (World.there _ w.heap.size 0 (List.toArray ([.string (text b0), .int .i64 n1, .bool f2] : List Value)).size) := Lib.hid (HX.out.there 0 3 (by simp))
  have hiV : Hid ((Try.prog.info? 150).map (·.size) = some (List.length ([.string (text b0), .int .i64 n1, .bool f2] : List Value))) := Lib.hid hi.out
  have hsV : Hid ((Try.prog.info? 150).map (·.size) = some (List.toArray ([.string (text b0), .int .i64 n1, .bool f2] : List Value)).size) := Lib.hid hi.out
  have h1V : Hid ((List.toArray ([.string (text b0), .int .i64 n1, .bool f2] : List Value)).all (·.oneCell') = true) := Lib.hid (all_oneCell_toArray (by simp [Value.oneCell']))
  go_wp2_with (first | (with_reducible refine wpList_load_mid rfl 150 _ rfl w.heap.size 0 rfl [.string (text b0), .int .i64 n1, .bool f2] _ HRG.out Try.underlying150 rfl hiV.out ?_) | (with_reducible refine wpList_store_mid rfl 150 _ _ rfl w.heap.size 0 (List.toArray ([.string (text b0), .int .i64 n1, .bool f2] : List Value)) rfl rfl HTE.out hsV.out h1V.out ?_))
  have HXE := Lib.hid (HX.out.setCells0 [.string (text b0), .int .i64 n1, .bool f2] rfl)
  have HKE := Lib.hid (Keeps.setCells (ts := [150]) (t := 150) (by simp) HX.out.typ 0 [.string (text b0), .int .i64 n1, .bool f2])
  refine bodyPost_ret (results_cell rfl _ _ w.heap.size rfl [.string (text b0), .int .i64 n1, .bool f2] _ HXE.out.range0 Try.underlying150 rfl hi.out) rfl ?_
  refine ⟨.inl ⟨[.text b0, .int n1, .flag f2], l2, [.string (text b0), .int .i64 n1, .bool f2], ?_, rfl, ?_, HR.out.keeps HKE.out (below_setCells_ hlt _ _) (by decide) (by decide) (by decide)⟩, HB.out.trans (below_setCells_ hlt _ _), HK.out.below_new (below_setCells_ (Nat.le_refl _) _ _)⟩
  · rw [shColumn, rds_some hd0.out, rds_some hd1.out, rds_some hd2.out, rds_nil]
    rfl
  · exact (Cels.mk (Cel.mk_text b0) (Cels.mk (Cel.mk_num n1) (Cels.mk (Cel.mk_flag f2) Cels.mk0)))

set_option maxHeartbeats 1600000 in
theorem R_few_Column (base g : Nat) (l : List UInt8) (w : World) (h : RdAt w base g l) :
    Calls Try.prog 94 #[.pointer (some ⟨g, 0, none⟩), .func (.func 95) #[] #[]] w fun e w' => FEnd (.rows shColumn) l [150] w' base g e ∧ Rds base w w' := by
  obtain ⟨i0, hi0⟩ : ∃ i, Try.prog.info? 150 = some i := by
    cases hq : Try.prog.info? 150 with
    | none => have h0 : (Try.prog.info? 150).isSome = true := by kernel_rfl
              rw [hq] at h0; cases h0
    | some i => exact ⟨i, rfl⟩
  have hinf : (Try.prog.info? 150).map (fun i => (i.zero, i.size, decide (i.bytes ≤ 1000))) = some (some (.agg #[.string ⟨#[]⟩, .int .i64 0, .bool false]), 3, true) := by kernel_rfl
  rw [hi0] at hinf
  simp only [Option.map_some, Option.some.injEq, Prod.mk.injEq, decide_eq_true_eq] at hinf
  obtain ⟨hz0, hz1, hz2⟩ := hinf
  have hby := Nat.mul_le_mul_left 4097 hz2
  have HI := Lib.hid (And.intro hi0 (And.intro hz0 hz1))
  clear hi0 hz0 hz1
  have hlt := h.lt
  have C := Lib.hid (R_num base g l w h)
  clear h
  go_enter Try.func94, Try.ntmps94
  go_wp2_with fail
  refine (unhide C).mono ?_
  rintro e w1 ⟨hE, hK⟩
  rcases hE with ⟨d, l1, v, hd, rfl, hv, hR⟩ | ⟨hd, rfl⟩
  rotate_left
  · exact ⟨rfl, .inr ⟨rows_num (rd_num_none hd), rfl⟩, hK⟩
  obtain ⟨N, rfl, hN, hN9⟩ := rd_num_inv hd
  obtain ⟨_, h1, rfl⟩ := hv.num
  injection h1 with h1
  subst h1
  have HN := Lib.hid hN
  have HR1 := Lib.hid hR
  have HK1 := Lib.hid hK
  clear C hd hN hR hK hv
  by_cases h4 : N ≤ 4096
  rotate_left
  · go_wp2_with fail
    have hdv : decide ((N : Int) ≤ 4096) = false := decide_eq_false (by omega)
    first | rw [hdv] | skip
    refine (is_false _).mono ?_
    rintro e w' ⟨rfl, rfl⟩
    exact ⟨rfl, .inr ⟨rows_big HN.out h4, rfl⟩, HK1.out⟩
  go_wp2_with fail
  have hdv : decide ((N : Int) ≤ 4096) = true := decide_eq_true (by omega)
  rw [hdv]
  refine (is_true _).mono ?_
  rintro e w' ⟨rfl, rfl⟩
  clear hdv
  go_wp2
  go_loopw [6, 13] (fun v i wr => ∃ (j : Nat) (ds : List (List Da)) (lj : List UInt8) (A : Option Addr) (c : Nat) (xs : List Value), j ≤ N ∧ i = .int .i64 j ∧ v = .slice A j c ∧ Hid (iter (rds shColumn) j l1 = some (ds, lj)) ∧ Hid (RdAt wr base g lj) ∧ Hid (wr.ownsRow w.heap.size 150 3 (.slice A j c) j xs) ∧ Hid (Things wr [] shColumn ds xs) ∧ Hid (Rds base w wr) ∧ w.heap.size ≤ wr.heap.size) (fun _ i _ => N - (intOf i).toNat)
  case atStart => exact ⟨0, [], l1, none, 0, [], Nat.zero_le _, rfl, rfl, Lib.hid (by simp only [iter]), HR1, Lib.hid (World.ownsRow_nil _ w.heap.size 150 3), Lib.hid (Things.nil _ _ _ _), HK1, HK1.out.keeps.size⟩
  case round =>
    obtain ⟨j, ds, lj, A, c, xs, hj, rfl, rfl, HIT, HR, HO, HT, HK, hsz⟩ := hrel
    by_cases hlt2 : j < N
    · have C := Lib.hid (R_column base g lj wr HR.out)
      go_wp2_with fail
      refine (unhide C).mono ?_
      rintro e w2 ⟨hE, hK⟩
      rcases hE with ⟨d, l2, vs, hd, rfl, hC, hR⟩ | ⟨hd, rfl⟩
      rotate_left
      · exact ⟨rfl, .inr ⟨rows_none HN.out (iter_none HIT.out hd hlt2), rfl⟩, HK.out.trans hK⟩
      have hit := iter_snoc HIT.out hd
      have hlen : vs.length = 3 := hC.len.2
      obtain ⟨v0, vt0, rfl, hl0⟩ := len_cons (n := 2) hlen
      obtain ⟨v1, vt1, rfl, hl1⟩ := len_cons (n := 1) hl0
      obtain ⟨v2, vt2, rfl, hl2⟩ := len_cons (n := 0) hl1
      obtain rfl := len_nil hl2
      clear hlen hl0 hl1 hl2
      have HC := Lib.hid hC
      have HR2 := Lib.hid hR
      have HIT2 := Lib.hid hit
      have HK2 := Lib.hid (HK.out.trans hK)
      have HO2 := Lib.hid (HO.out.keeps hK.keeps (by decide))
      have HT2 := Lib.hid (HT.out.keeps hK.keeps (by decide))
      have hsz2 := hK.keeps.size
      have hone := HC.out.oneCell
      clear C hC hR hit hK HR HO HT HK HIT
      go_wp2_with (at_builtin; refine wpList_appN rfl _ _ 42 rfl w.heap.size 150 i0 _ 3 i0.bytes Try.underlying42 HI.out.1 HI.out.2.1 HI.out.2.2 rfl rfl (by decide) (.slice A j c) j xs rfl (HO2.out.alloc _) ⟨w2.heap.size, 0, none⟩ 1 [v0, v1, v2] rfl rfl (Blk.new w2 _ [v0, v1, v2]).news hone (by unfold maxLen; omega) (Nat.le_trans (Nat.mul_le_mul_right _ (by omega)) (Nat.le_trans hby (by decide))) (by simp; omega) ?_; intro A3 c3 w3 HO3 HG3)
      have HKA : Hid (Keeps [150] w2 w3) := Lib.hid ((Keeps.alloc w2 _).trans (Keeps.grown (HO2.out.alloc _) HG3.out (by simp) HG3.out.size))
      have HBA : Hid (Below base w2 w3) := Lib.hid (((Below.refl _ _).alloc (by omega) _).grown HG3.out (by simp; omega) (by intro k hk; have := own_block_ge HO2.out k hk; omega))
      have hrel : ∃ (j' : Nat) (ds : List (List Da)) (lj : List UInt8) (A : Option Addr) (c : Nat) (xs : List Value), j' ≤ N ∧ Value.int .i64 ((j : Int) + 1) = .int .i64 j' ∧ Value.slice A3 (j + 1) c3 = .slice A j' c ∧ Hid (iter (rds shColumn) j' l1 = some (ds, lj)) ∧ Hid (RdAt w3 base g lj) ∧ Hid (w3.ownsRow w.heap.size 150 3 (.slice A j' c) j' xs) ∧ Hid (Things w3 [] shColumn ds xs) ∧ Hid (Rds base w w3) ∧ w.heap.size ≤ w3.heap.size := by
        refine ⟨j + 1, _, _, A3, c3, _, by omega, by simp, rfl, HIT2, Lib.hid (HR2.out.keeps HKA.out HBA.out (by decide) (by decide) (by decide)), HO3, Lib.hid ?_, Lib.hid ⟨HK2.out.below.trans HBA.out, ?_⟩, by have := HKA.out.size; omega⟩
        · exact (HT2.out.keeps HKA.out (by decide)).snoc (by have h1 := HO2.out.1; have h2 := iter_len_snoc HIT2.out; rw [h2]; exact h1) (HC.out.keeps HKA.out (by decide))
        · exact (HK2.out.keeps.then_below ((Below.refl _ _).alloc (Nat.le_refl _) _)).grown_new HG3.out (fun k hk => by have := own_block_ge HO2.out k hk; omega)
      clear HKA HBA HO3 HG3 HO2 HT2 HR2 HC HK2 HIT2
      go_wp2
      go_roundw
      case rel => obtain ⟨j', ds, lj, A, c, xs, h1, h2, h3, h4⟩ := hrel; exact ⟨j', ds, lj, A, c, xs, h1, by rw [← h2], h3, h4⟩
      case measure => simp [intOf]; omega
    · obtain rfl : j = N := by omega
      go_wp2
      go_ret
      have hl2 := iter_len HIT.out
      refine ⟨.inl ⟨.rows ds, lj, .slice A j c, rows_ok HN.out h4 HIT.out, rfl, ?_, HR.out⟩, HK.out⟩
      have hr := rowsAt_own (us := []) (l := shColumn) (ds := ds) (by decide) HO.out hl2 HT.out
      have := Cel.mk_rows c hr
      rwa [hl2] at this

set_option maxHeartbeats 1600000 in
theorem R_rule (base g : Nat) (l : List UInt8) (w : World) (h : RdAt w base g l) :
    Calls Try.prog 96 #[.pointer (some ⟨g, 0, none⟩)] w fun e w' => SEnd shRule l [9] w' base g e ∧ Rds base w w' := by
  have hi : (Try.prog.info? 46).map (·.size) = some 8 := by kernel_rfl
  replace hi := Lib.hid hi
  have hlt := h.lt
  have HR := Lib.hid (h.below_ ((Below.refl _ _).alloc (Nat.le_refl _) (.cells #[.string ⟨#[]⟩, .int .i64 0, .slice none 0 0, .int .i64 0, .int .i64 0, .string ⟨#[]⟩, .string ⟨#[]⟩, .string ⟨#[]⟩] 46)))
  have HX := Lib.hid (Blk.new w 46 [.string ⟨#[]⟩, .int .i64 0, .slice none 0 0, .int .i64 0, .int .i64 0, .string ⟨#[]⟩, .string ⟨#[]⟩, .string ⟨#[]⟩])
  have HB : Hid (Below base w (w.alloc (.cells #[.string ⟨#[]⟩, .int .i64 0, .slice none 0 0, .int .i64 0, .int .i64 0, .string ⟨#[]⟩, .string ⟨#[]⟩, .string ⟨#[]⟩] 46))) := Lib.hid ((Below.refl _ _).alloc hlt _)
  have HK : Hid (Keeps [137, 229] w (w.alloc (.cells #[.string ⟨#[]⟩, .int .i64 0, .slice none 0 0, .int .i64 0, .int .i64 0, .string ⟨#[]⟩, .string ⟨#[]⟩, .string ⟨#[]⟩] 46))) := Lib.hid (Keeps.alloc _ _)
  clear h
  go_enter Try.func96, Try.ntmps96
  go_wp2_with fail
  refine (R_text base g l _ HR.out).mono ?_
  rintro e w0 ⟨hE, hK⟩
  rcases hE with ⟨d0, l0, v0, hd, rfl, hv, hR⟩ | ⟨hd, rfl⟩
  rotate_left
  · refine ⟨rfl, .inr ⟨?_, rfl⟩, HB.out.trans hK.below, HK.out.trans hK.keeps⟩
    rw [shRule, rds_none hd]
  replace HB := Lib.hid (HB.out.trans hK.below)
  replace HK := Lib.hid (HK.out.trans hK.keeps)
  replace HX := Lib.hid (HX.out.keeps hK.keeps (by decide))
  have hd0 := Lib.hid hd
  obtain ⟨b0, rfl, rfl⟩ := hv.txt
  replace HR := Lib.hid hR
  have hsz0 := HK.out.size
  have hfz0 : w0.frozen? ⟨w.heap.size, 0, none⟩ = false := HX.out.frozen 0
  have hcx0_0 : w0.cell? ⟨w.heap.size, 0, none⟩ = some (.string ⟨#[]⟩) := HX.out.cell 0
  clear hd hR hK hv
  have HY : Hid (Blk (w0.setCell ⟨w.heap.size, 0, none⟩ (.string (text b0))) w.heap.size 46 [.string (text b0), .int .i64 0, .slice none 0 0, .int .i64 0, .int .i64 0, .string ⟨#[]⟩, .string ⟨#[]⟩, .string ⟨#[]⟩]) := Lib.hid (HX.out.set_ 0 (.string (text b0)))
  have HKA : Hid (Keeps [46] w0 (w0.setCell ⟨w.heap.size, 0, none⟩ (.string (text b0)))) := Lib.hid ((Keeps.refl _ _).trans (Keeps.set_ HX.out.typ (by simp) (.string (text b0))))
  have HBA : Hid (Below w.heap.size w0 (w0.setCell ⟨w.heap.size, 0, none⟩ (.string (text b0)))) := Lib.hid ((Below.refl w.heap.size w0).setCell (Nat.le_refl _) _)
  replace HX := HY
  replace HR := Lib.hid (HR.out.keeps HKA.out (HBA.out.mono hlt) (by decide) (by decide) (by decide))
  replace HB := Lib.hid (HB.out.trans (HBA.out.mono hlt))
  replace HK := Lib.hid (HK.out.below_new HBA.out)
  clear HY HKA HBA
  go_wp2_with fail
  refine (R_num base g l0 _ HR.out).mono ?_
  rintro e w1 ⟨hE, hK⟩
  rcases hE with ⟨d1, l1, v1, hd, rfl, hv, hR⟩ | ⟨hd, rfl⟩
  rotate_left
  · refine ⟨rfl, .inr ⟨?_, rfl⟩, HB.out.trans hK.below, HK.out.trans hK.keeps⟩
    rw [shRule, rds_some hd0.out, rds_none hd]
    rfl
  replace HB := Lib.hid (HB.out.trans hK.below)
  replace HK := Lib.hid (HK.out.trans hK.keeps)
  replace HX := Lib.hid (HX.out.keeps hK.keeps (by decide))
  have hd1 := Lib.hid hd
  obtain ⟨n1, rfl, rfl⟩ := hv.num
  replace HR := Lib.hid hR
  have hsz1 := HK.out.size
  have hfz1 : w1.frozen? ⟨w.heap.size, 1, none⟩ = false := HX.out.frozen 1
  have hcx1_0 : w1.cell? ⟨w.heap.size, 1, none⟩ = some (.int .i64 0) := HX.out.cell 1
  clear hd hR hK hv
  have HY : Hid (Blk (w1.setCell ⟨w.heap.size, 1, none⟩ (.int .i64 n1)) w.heap.size 46 [.string (text b0), .int .i64 n1, .slice none 0 0, .int .i64 0, .int .i64 0, .string ⟨#[]⟩, .string ⟨#[]⟩, .string ⟨#[]⟩]) := Lib.hid (HX.out.set_ 1 (.int .i64 n1))
  have HKA : Hid (Keeps [46] w1 (w1.setCell ⟨w.heap.size, 1, none⟩ (.int .i64 n1))) := Lib.hid ((Keeps.refl _ _).trans (Keeps.set_ HX.out.typ (by simp) (.int .i64 n1)))
  have HBA : Hid (Below w.heap.size w1 (w1.setCell ⟨w.heap.size, 1, none⟩ (.int .i64 n1))) := Lib.hid ((Below.refl w.heap.size w1).setCell (Nat.le_refl _) _)
  replace HX := HY
  replace HR := Lib.hid (HR.out.keeps HKA.out (HBA.out.mono hlt) (by decide) (by decide) (by decide))
  replace HB := Lib.hid (HB.out.trans (HBA.out.mono hlt))
  replace HK := Lib.hid (HK.out.below_new HBA.out)
  clear HY HKA HBA
  go_wp2_with fail
  refine (R_few_string base g l1 _ HR.out).mono ?_
  rintro e w2 ⟨hE, hK⟩
  rcases hE with ⟨d2, l2, v2, hd, rfl, hv, hR⟩ | ⟨hd, rfl⟩
  rotate_left
  · refine ⟨rfl, .inr ⟨?_, rfl⟩, HB.out.trans hK.below, HK.out.trans hK.keeps⟩
    rw [shRule, rds_some hd0.out, rds_some hd1.out, rds_none hd]
    rfl
  replace HB := Lib.hid (HB.out.trans hK.below)
  replace HK := Lib.hid (HK.out.trans hK.keeps)
  replace HX := Lib.hid (HX.out.keeps hK.keeps (by decide))
  have hd2 := Lib.hid hd
  obtain ⟨r2, A2, k2, rfl, rfl, R2⟩ := hv.rows
  replace R2 := Lib.hid R2
  replace HR := Lib.hid hR
  have hsz2 := HK.out.size
  have hfz2 : w2.frozen? ⟨w.heap.size, 2, none⟩ = false := HX.out.frozen 2
  have hcx2_0 : w2.cell? ⟨w.heap.size, 2, none⟩ = some (.slice none 0 0) := HX.out.cell 2
  clear hd hR hK hv
  have HY : Hid (Blk (w2.setCell ⟨w.heap.size, 2, none⟩ (.slice A2 r2.length k2)) w.heap.size 46 [.string (text b0), .int .i64 n1, .slice A2 r2.length k2, .int .i64 0, .int .i64 0, .string ⟨#[]⟩, .string ⟨#[]⟩, .string ⟨#[]⟩]) := Lib.hid (HX.out.set_ 2 (.slice A2 r2.length k2))
  have HKA : Hid (Keeps [46] w2 (w2.setCell ⟨w.heap.size, 2, none⟩ (.slice A2 r2.length k2))) := Lib.hid ((Keeps.refl _ _).trans (Keeps.set_ HX.out.typ (by simp) (.slice A2 r2.length k2)))
  have HBA : Hid (Below w.heap.size w2 (w2.setCell ⟨w.heap.size, 2, none⟩ (.slice A2 r2.length k2))) := Lib.hid ((Below.refl w.heap.size w2).setCell (Nat.le_refl _) _)
  replace HX := HY
  replace HR := Lib.hid (HR.out.keeps HKA.out (HBA.out.mono hlt) (by decide) (by decide) (by decide))
  replace R2 := Lib.hid (rows_keeps R2.out HKA.out (by decide))
  replace HB := Lib.hid (HB.out.trans (HBA.out.mono hlt))
  replace HK := Lib.hid (HK.out.below_new HBA.out)
  clear HY HKA HBA
  go_wp2_with fail
  refine (R_whole base g l2 _ HR.out).mono ?_
  rintro e w3 ⟨hE, hK⟩
  rcases hE with ⟨d3, l3, v3, hd, rfl, hv, hR⟩ | ⟨hd, rfl⟩
  rotate_left
  · refine ⟨rfl, .inr ⟨?_, rfl⟩, HB.out.trans hK.below, HK.out.trans hK.keeps⟩
    rw [shRule, rds_some hd0.out, rds_some hd1.out, rds_some hd2.out, rds_none hd]
    rfl
  replace HB := Lib.hid (HB.out.trans hK.below)
  replace HK := Lib.hid (HK.out.trans hK.keeps)
  replace HX := Lib.hid (HX.out.keeps hK.keeps (by decide))
  replace R2 := Lib.hid (rows_keeps R2.out hK.keeps (by decide))
  have hd3 := Lib.hid hd
  obtain ⟨n3, rfl, rfl, HW3⟩ := hv.whole
  replace HW3 := Lib.hid HW3
  replace HR := Lib.hid hR
  have hsz3 := HK.out.size
  have hfz3 : w3.frozen? ⟨w.heap.size, 3, none⟩ = false := HX.out.frozen 3
  have hcx3_0 : w3.cell? ⟨w.heap.size, 3, none⟩ = some (.int .i64 0) := HX.out.cell 3
  clear hd hR hK hv
  have HY : Hid (Blk (w3.setCell ⟨w.heap.size, 3, none⟩ (.int .i64 n3)) w.heap.size 46 [.string (text b0), .int .i64 n1, .slice A2 r2.length k2, .int .i64 n3, .int .i64 0, .string ⟨#[]⟩, .string ⟨#[]⟩, .string ⟨#[]⟩]) := Lib.hid (HX.out.set_ 3 (.int .i64 n3))
  have HKA : Hid (Keeps [46] w3 (w3.setCell ⟨w.heap.size, 3, none⟩ (.int .i64 n3))) := Lib.hid ((Keeps.refl _ _).trans (Keeps.set_ HX.out.typ (by simp) (.int .i64 n3)))
  have HBA : Hid (Below w.heap.size w3 (w3.setCell ⟨w.heap.size, 3, none⟩ (.int .i64 n3))) := Lib.hid ((Below.refl w.heap.size w3).setCell (Nat.le_refl _) _)
  replace HX := HY
  replace HR := Lib.hid (HR.out.keeps HKA.out (HBA.out.mono hlt) (by decide) (by decide) (by decide))
  replace R2 := Lib.hid (rows_keeps R2.out HKA.out (by decide))
  replace HB := Lib.hid (HB.out.trans (HBA.out.mono hlt))
  replace HK := Lib.hid (HK.out.below_new HBA.out)
  clear HY HKA HBA
  go_wp2_with fail
  refine (R_whole base g l3 _ HR.out).mono ?_
  rintro e w4 ⟨hE, hK⟩
  rcases hE with ⟨d4, l4, v4, hd, rfl, hv, hR⟩ | ⟨hd, rfl⟩
  rotate_left
  · refine ⟨rfl, .inr ⟨?_, rfl⟩, HB.out.trans hK.below, HK.out.trans hK.keeps⟩
    rw [shRule, rds_some hd0.out, rds_some hd1.out, rds_some hd2.out, rds_some hd3.out, rds_none hd]
    rfl
  replace HB := Lib.hid (HB.out.trans hK.below)
  replace HK := Lib.hid (HK.out.trans hK.keeps)
  replace HX := Lib.hid (HX.out.keeps hK.keeps (by decide))
  replace R2 := Lib.hid (rows_keeps R2.out hK.keeps (by decide))
  have hd4 := Lib.hid hd
  obtain ⟨n4, rfl, rfl, HW4⟩ := hv.whole
  replace HW4 := Lib.hid HW4
  replace HR := Lib.hid hR
  have hsz4 := HK.out.size
  have hfz4 : w4.frozen? ⟨w.heap.size, 4, none⟩ = false := HX.out.frozen 4
  have hcx4_0 : w4.cell? ⟨w.heap.size, 4, none⟩ = some (.int .i64 0) := HX.out.cell 4
  clear hd hR hK hv
  have HY : Hid (Blk (w4.setCell ⟨w.heap.size, 4, none⟩ (.int .i64 n4)) w.heap.size 46 [.string (text b0), .int .i64 n1, .slice A2 r2.length k2, .int .i64 n3, .int .i64 n4, .string ⟨#[]⟩, .string ⟨#[]⟩, .string ⟨#[]⟩]) := Lib.hid (HX.out.set_ 4 (.int .i64 n4))
  have HKA : Hid (Keeps [46] w4 (w4.setCell ⟨w.heap.size, 4, none⟩ (.int .i64 n4))) := Lib.hid ((Keeps.refl _ _).trans (Keeps.set_ HX.out.typ (by simp) (.int .i64 n4)))
  have HBA : Hid (Below w.heap.size w4 (w4.setCell ⟨w.heap.size, 4, none⟩ (.int .i64 n4))) := Lib.hid ((Below.refl w.heap.size w4).setCell (Nat.le_refl _) _)
  replace HX := HY
  replace HR := Lib.hid (HR.out.keeps HKA.out (HBA.out.mono hlt) (by decide) (by decide) (by decide))
  replace R2 := Lib.hid (rows_keeps R2.out HKA.out (by decide))
  replace HB := Lib.hid (HB.out.trans (HBA.out.mono hlt))
  replace HK := Lib.hid (HK.out.below_new HBA.out)
  clear HY HKA HBA
  go_wp2_with fail
  refine (R_text base g l4 _ HR.out).mono ?_
  rintro e w5 ⟨hE, hK⟩
  rcases hE with ⟨d5, l5, v5, hd, rfl, hv, hR⟩ | ⟨hd, rfl⟩
  rotate_left
  · refine ⟨rfl, .inr ⟨?_, rfl⟩, HB.out.trans hK.below, HK.out.trans hK.keeps⟩
    rw [shRule, rds_some hd0.out, rds_some hd1.out, rds_some hd2.out, rds_some hd3.out, rds_some hd4.out, rds_none hd]
    rfl
  replace HB := Lib.hid (HB.out.trans hK.below)
  replace HK := Lib.hid (HK.out.trans hK.keeps)
  replace HX := Lib.hid (HX.out.keeps hK.keeps (by decide))
  replace R2 := Lib.hid (rows_keeps R2.out hK.keeps (by decide))
  have hd5 := Lib.hid hd
  obtain ⟨b5, rfl, rfl⟩ := hv.txt
  replace HR := Lib.hid hR
  have hsz5 := HK.out.size
  have hfz5 : w5.frozen? ⟨w.heap.size, 5, none⟩ = false := HX.out.frozen 5
  have hcx5_0 : w5.cell? ⟨w.heap.size, 5, none⟩ = some (.string ⟨#[]⟩) := HX.out.cell 5
  clear hd hR hK hv
  have HY : Hid (Blk (w5.setCell ⟨w.heap.size, 5, none⟩ (.string (text b5))) w.heap.size 46 [.string (text b0), .int .i64 n1, .slice A2 r2.length k2, .int .i64 n3, .int .i64 n4, .string (text b5), .string ⟨#[]⟩, .string ⟨#[]⟩]) := Lib.hid (HX.out.set_ 5 (.string (text b5)))
  have HKA : Hid (Keeps [46] w5 (w5.setCell ⟨w.heap.size, 5, none⟩ (.string (text b5)))) := Lib.hid ((Keeps.refl _ _).trans (Keeps.set_ HX.out.typ (by simp) (.string (text b5))))
  have HBA : Hid (Below w.heap.size w5 (w5.setCell ⟨w.heap.size, 5, none⟩ (.string (text b5)))) := Lib.hid ((Below.refl w.heap.size w5).setCell (Nat.le_refl _) _)
  replace HX := HY
  replace HR := Lib.hid (HR.out.keeps HKA.out (HBA.out.mono hlt) (by decide) (by decide) (by decide))
  replace R2 := Lib.hid (rows_keeps R2.out HKA.out (by decide))
  replace HB := Lib.hid (HB.out.trans (HBA.out.mono hlt))
  replace HK := Lib.hid (HK.out.below_new HBA.out)
  clear HY HKA HBA
  go_wp2_with fail
  refine (R_text base g l5 _ HR.out).mono ?_
  rintro e w6 ⟨hE, hK⟩
  rcases hE with ⟨d6, l6, v6, hd, rfl, hv, hR⟩ | ⟨hd, rfl⟩
  rotate_left
  · refine ⟨rfl, .inr ⟨?_, rfl⟩, HB.out.trans hK.below, HK.out.trans hK.keeps⟩
    rw [shRule, rds_some hd0.out, rds_some hd1.out, rds_some hd2.out, rds_some hd3.out, rds_some hd4.out, rds_some hd5.out, rds_none hd]
    rfl
  replace HB := Lib.hid (HB.out.trans hK.below)
  replace HK := Lib.hid (HK.out.trans hK.keeps)
  replace HX := Lib.hid (HX.out.keeps hK.keeps (by decide))
  replace R2 := Lib.hid (rows_keeps R2.out hK.keeps (by decide))
  have hd6 := Lib.hid hd
  obtain ⟨b6, rfl, rfl⟩ := hv.txt
  replace HR := Lib.hid hR
  have hsz6 := HK.out.size
  have hfz6 : w6.frozen? ⟨w.heap.size, 6, none⟩ = false := HX.out.frozen 6
  have hcx6_0 : w6.cell? ⟨w.heap.size, 6, none⟩ = some (.string ⟨#[]⟩) := HX.out.cell 6
  clear hd hR hK hv
  have HY : Hid (Blk (w6.setCell ⟨w.heap.size, 6, none⟩ (.string (text b6))) w.heap.size 46 [.string (text b0), .int .i64 n1, .slice A2 r2.length k2, .int .i64 n3, .int .i64 n4, .string (text b5), .string (text b6), .string ⟨#[]⟩]) := Lib.hid (HX.out.set_ 6 (.string (text b6)))
  have HKA : Hid (Keeps [46] w6 (w6.setCell ⟨w.heap.size, 6, none⟩ (.string (text b6)))) := Lib.hid ((Keeps.refl _ _).trans (Keeps.set_ HX.out.typ (by simp) (.string (text b6))))
  have HBA : Hid (Below w.heap.size w6 (w6.setCell ⟨w.heap.size, 6, none⟩ (.string (text b6)))) := Lib.hid ((Below.refl w.heap.size w6).setCell (Nat.le_refl _) _)
  replace HX := HY
  replace HR := Lib.hid (HR.out.keeps HKA.out (HBA.out.mono hlt) (by decide) (by decide) (by decide))
  replace R2 := Lib.hid (rows_keeps R2.out HKA.out (by decide))
  replace HB := Lib.hid (HB.out.trans (HBA.out.mono hlt))
  replace HK := Lib.hid (HK.out.below_new HBA.out)
  clear HY HKA HBA
  go_wp2_with fail
  refine (R_text base g l6 _ HR.out).mono ?_
  rintro e w7 ⟨hE, hK⟩
  rcases hE with ⟨d7, l7, v7, hd, rfl, hv, hR⟩ | ⟨hd, rfl⟩
  rotate_left
  · refine ⟨rfl, .inr ⟨?_, rfl⟩, HB.out.trans hK.below, HK.out.trans hK.keeps⟩
    rw [shRule, rds_some hd0.out, rds_some hd1.out, rds_some hd2.out, rds_some hd3.out, rds_some hd4.out, rds_some hd5.out, rds_some hd6.out, rds_none hd]
    rfl
  replace HB := Lib.hid (HB.out.trans hK.below)
  replace HK := Lib.hid (HK.out.trans hK.keeps)
  replace HX := Lib.hid (HX.out.keeps hK.keeps (by decide))
  replace R2 := Lib.hid (rows_keeps R2.out hK.keeps (by decide))
  have hd7 := Lib.hid hd
  obtain ⟨b7, rfl, rfl⟩ := hv.txt
  replace HR := Lib.hid hR
  have hsz7 := HK.out.size
  have hfz7 : w7.frozen? ⟨w.heap.size, 7, none⟩ = false := HX.out.frozen 7
  have hcx7_0 : w7.cell? ⟨w.heap.size, 7, none⟩ = some (.string ⟨#[]⟩) := HX.out.cell 7
  clear hd hR hK hv
  have HY : Hid (Blk (w7.setCell ⟨w.heap.size, 7, none⟩ (.string (text b7))) w.heap.size 46 [.string (text b0), .int .i64 n1, .slice A2 r2.length k2, .int .i64 n3, .int .i64 n4, .string (text b5), .string (text b6), .string (text b7)]) := Lib.hid (HX.out.set_ 7 (.string (text b7)))
  have HKA : Hid (Keeps [46] w7 (w7.setCell ⟨w.heap.size, 7, none⟩ (.string (text b7)))) := Lib.hid ((Keeps.refl _ _).trans (Keeps.set_ HX.out.typ (by simp) (.string (text b7))))
  have HBA : Hid (Below w.heap.size w7 (w7.setCell ⟨w.heap.size, 7, none⟩ (.string (text b7)))) := Lib.hid ((Below.refl w.heap.size w7).setCell (Nat.le_refl _) _)
  replace HX := HY
  replace HR := Lib.hid (HR.out.keeps HKA.out (HBA.out.mono hlt) (by decide) (by decide) (by decide))
  replace R2 := Lib.hid (rows_keeps R2.out HKA.out (by decide))
  replace HB := Lib.hid (HB.out.trans (HBA.out.mono hlt))
  replace HK := Lib.hid (HK.out.below_new HBA.out)
  clear HY HKA HBA
  have HRG := Lib.hid HX.out.range0
  have HTE : Hid (World.there _ w.heap.size 0 (List.toArray ([.string (text b0), .int .i64 n1, .slice A2 r2.length k2, .int .i64 n3, .int .i64 n4, .string (text b5), .string (text b6), .string (text b7)] : List Value)).size) := Lib.hid (HX.out.there 0 8 (by simp))
  have hiV : Hid ((Try.prog.info? 46).map (·.size) = some (List.length ([.string (text b0), .int .i64 n1, .slice A2 r2.length k2, .int .i64 n3, .int .i64 n4, .string (text b5), .string (text b6), .string (text b7)] : List Value))) := Lib.hid hi.out
  have hsV : Hid ((Try.prog.info? 46).map (·.size) = some (List.toArray ([.string (text b0), .int .i64 n1, .slice A2 r2.length k2, .int .i64 n3, .int .i64 n4, .string (text b5), .string (text b6), .string (text b7)] : List Value)).size) := Lib.hid hi.out
  have h1V : Hid ((List.toArray ([.string (text b0), .int .i64 n1, .slice A2 r2.length k2, .int .i64 n3, .int .i64 n4, .string (text b5), .string (text b6), .string (text b7)] : List Value)).all (·.oneCell') = true) := Lib.hid (all_oneCell_toArray (by simp [Value.oneCell']))
  go_wp2_with (first | (with_reducible refine wpList_load_mid rfl 46 _ rfl w.heap.size 0 rfl [.string (text b0), .int .i64 n1, .slice A2 r2.length k2, .int .i64 n3, .int .i64 n4, .string (text b5), .string (text b6), .string (text b7)] _ HRG.out Try.underlying46 rfl hiV.out ?_) | (with_reducible refine wpList_store_mid rfl 46 _ _ rfl w.heap.size 0 (List.toArray ([.string (text b0), .int .i64 n1, .slice A2 r2.length k2, .int .i64 n3, .int .i64 n4, .string (text b5), .string (text b6), .string (text b7)] : List Value)) rfl rfl HTE.out hsV.out h1V.out ?_))
  have HXE := Lib.hid (HX.out.setCells0 [.string (text b0), .int .i64 n1, .slice A2 r2.length k2, .int .i64 n3, .int .i64 n4, .string (text b5), .string (text b6), .string (text b7)] rfl)
  have HKE := Lib.hid (Keeps.setCells (ts := [46]) (t := 46) (by simp) HX.out.typ 0 [.string (text b0), .int .i64 n1, .slice A2 r2.length k2, .int .i64 n3, .int .i64 n4, .string (text b5), .string (text b6), .string (text b7)])
  refine bodyPost_ret (results_cell rfl _ _ w.heap.size rfl [.string (text b0), .int .i64 n1, .slice A2 r2.length k2, .int .i64 n3, .int .i64 n4, .string (text b5), .string (text b6), .string (text b7)] _ HXE.out.range0 Try.underlying46 rfl hi.out) rfl ?_
  refine ⟨.inl ⟨[.text b0, .int n1, .rows r2, .int n3, .int n4, .text b5, .text b6, .text b7], l7, [.string (text b0), .int .i64 n1, .slice A2 r2.length k2, .int .i64 n3, .int .i64 n4, .string (text b5), .string (text b6), .string (text b7)], ?_, rfl, ?_, HR.out.keeps HKE.out (below_setCells_ hlt _ _) (by decide) (by decide) (by decide)⟩, HB.out.trans (below_setCells_ hlt _ _), HK.out.below_new (below_setCells_ (Nat.le_refl _) _ _)⟩
  · rw [shRule, rds_some hd0.out, rds_some hd1.out, rds_some hd2.out, rds_some hd3.out, rds_some hd4.out, rds_some hd5.out, rds_some hd6.out, rds_some hd7.out, rds_nil]
    rfl
  · exact (Cels.mk (Cel.mk_text b0) (Cels.mk (Cel.mk_num n1) (Cels.mk (((Cel.mk_rows k2 R2.out).keeps HKE.out (by decide)).inT_more (by decide)) (Cels.mk (Cel.mk_whole HW3.out) (Cels.mk (Cel.mk_whole HW4.out) (Cels.mk (Cel.mk_text b5) (Cels.mk (Cel.mk_text b6) (Cels.mk (Cel.mk_text b7) Cels.mk0))))))))

set_option maxHeartbeats 1600000 in
theorem R_config (base g : Nat) (l : List UInt8) (w : World) (h : RdAt w base g l) :
    Calls Try.prog 103 #[.pointer (some ⟨g, 0, none⟩)] w fun e w' => SEnd shConfig l [3] w' base g e ∧ Rds base w w' := by
  have hi : (Try.prog.info? 27).map (·.size) = some 2 := by kernel_rfl
  replace hi := Lib.hid hi
  have hlt := h.lt
  have HR := Lib.hid (h.below_ ((Below.refl _ _).alloc (Nat.le_refl _) (.cells #[.slice none 0 0, .slice none 0 0] 27)))
  have HX := Lib.hid (Blk.new w 27 [.slice none 0 0, .slice none 0 0])
  have HB : Hid (Below base w (w.alloc (.cells #[.slice none 0 0, .slice none 0 0] 27))) := Lib.hid ((Below.refl _ _).alloc hlt _)
  have HK : Hid (Keeps [137, 229] w (w.alloc (.cells #[.slice none 0 0, .slice none 0 0] 27))) := Lib.hid (Keeps.alloc _ _)
  clear h
  go_enter Try.func103, Try.ntmps103
  go_wp2_with fail
  refine (R_few_int base g l _ HR.out).mono ?_
  rintro e w0 ⟨hE, hK⟩
  rcases hE with ⟨d0, l0, v0, hd, rfl, hv, hR⟩ | ⟨hd, rfl⟩
  rotate_left
  · refine ⟨rfl, .inr ⟨?_, rfl⟩, HB.out.trans hK.below, HK.out.trans hK.keeps⟩
    rw [shConfig, rds_none hd]
  replace HB := Lib.hid (HB.out.trans hK.below)
  replace HK := Lib.hid (HK.out.trans hK.keeps)
  replace HX := Lib.hid (HX.out.keeps hK.keeps (by decide))
  have hd0 := Lib.hid hd
  obtain ⟨r0, A0, k0, rfl, rfl, R0⟩ := hv.rows
  replace R0 := Lib.hid R0
  replace HR := Lib.hid hR
  have hsz0 := HK.out.size
  have hfz0 : w0.frozen? ⟨w.heap.size, 0, none⟩ = false := HX.out.frozen 0
  have hcx0_0 : w0.cell? ⟨w.heap.size, 0, none⟩ = some (.slice none 0 0) := HX.out.cell 0
  clear hd hR hK hv
  have HY : Hid (Blk (w0.setCell ⟨w.heap.size, 0, none⟩ (.slice A0 r0.length k0)) w.heap.size 27 [.slice A0 r0.length k0, .slice none 0 0]) := Lib.hid (HX.out.set_ 0 (.slice A0 r0.length k0))
  have HKA : Hid (Keeps [27] w0 (w0.setCell ⟨w.heap.size, 0, none⟩ (.slice A0 r0.length k0))) := Lib.hid ((Keeps.refl _ _).trans (Keeps.set_ HX.out.typ (by simp) (.slice A0 r0.length k0)))
  have HBA : Hid (Below w.heap.size w0 (w0.setCell ⟨w.heap.size, 0, none⟩ (.slice A0 r0.length k0))) := Lib.hid ((Below.refl w.heap.size w0).setCell (Nat.le_refl _) _)
  replace HX := HY
  replace HR := Lib.hid (HR.out.keeps HKA.out (HBA.out.mono hlt) (by decide) (by decide) (by decide))
  replace R0 := Lib.hid (rows_keeps R0.out HKA.out (by decide))
  replace HB := Lib.hid (HB.out.trans (HBA.out.mono hlt))
  replace HK := Lib.hid (HK.out.below_new HBA.out)
  clear HY HKA HBA
  go_wp2_with fail
  refine (R_few_int base g l0 _ HR.out).mono ?_
  rintro e w1 ⟨hE, hK⟩
  rcases hE with ⟨d1, l1, v1, hd, rfl, hv, hR⟩ | ⟨hd, rfl⟩
  rotate_left
  · refine ⟨rfl, .inr ⟨?_, rfl⟩, HB.out.trans hK.below, HK.out.trans hK.keeps⟩
    rw [shConfig, rds_some hd0.out, rds_none hd]
    rfl
  replace HB := Lib.hid (HB.out.trans hK.below)
  replace HK := Lib.hid (HK.out.trans hK.keeps)
  replace HX := Lib.hid (HX.out.keeps hK.keeps (by decide))
  replace R0 := Lib.hid (rows_keeps R0.out hK.keeps (by decide))
  have hd1 := Lib.hid hd
  obtain ⟨r1, A1, k1, rfl, rfl, R1⟩ := hv.rows
  replace R1 := Lib.hid R1
  replace HR := Lib.hid hR
  have hsz1 := HK.out.size
  have hfz1 : w1.frozen? ⟨w.heap.size, 1, none⟩ = false := HX.out.frozen 1
  have hcx1_0 : w1.cell? ⟨w.heap.size, 1, none⟩ = some (.slice none 0 0) := HX.out.cell 1
  clear hd hR hK hv
  have HY : Hid (Blk (w1.setCell ⟨w.heap.size, 1, none⟩ (.slice A1 r1.length k1)) w.heap.size 27 [.slice A0 r0.length k0, .slice A1 r1.length k1]) := Lib.hid (HX.out.set_ 1 (.slice A1 r1.length k1))
  have HKA : Hid (Keeps [27] w1 (w1.setCell ⟨w.heap.size, 1, none⟩ (.slice A1 r1.length k1))) := Lib.hid ((Keeps.refl _ _).trans (Keeps.set_ HX.out.typ (by simp) (.slice A1 r1.length k1)))
  have HBA : Hid (Below w.heap.size w1 (w1.setCell ⟨w.heap.size, 1, none⟩ (.slice A1 r1.length k1))) := Lib.hid ((Below.refl w.heap.size w1).setCell (Nat.le_refl _) _)
  replace HX := HY
  replace HR := Lib.hid (HR.out.keeps HKA.out (HBA.out.mono hlt) (by decide) (by decide) (by decide))
  replace R0 := Lib.hid (rows_keeps R0.out HKA.out (by decide))
  replace R1 := Lib.hid (rows_keeps R1.out HKA.out (by decide))
  replace HB := Lib.hid (HB.out.trans (HBA.out.mono hlt))
  replace HK := Lib.hid (HK.out.below_new HBA.out)
  clear HY HKA HBA
  have HRG := Lib.hid HX.out.range0
  have HTE : Hid (World.there _ w.heap.size 0 (List.toArray ([.slice A0 r0.length k0, .slice A1 r1.length k1] : List Value)).size) := Lib.hid (HX.out.there 0 2 (by simp))
  have hiV : Hid ((Try.prog.info? 27).map (·.size) = some (List.length ([.slice A0 r0.length k0, .slice A1 r1.length k1] : List Value))) := Lib.hid hi.out
  have hsV : Hid ((Try.prog.info? 27).map (·.size) = some (List.toArray ([.slice A0 r0.length k0, .slice A1 r1.length k1] : List Value)).size) := Lib.hid hi.out
  have h1V : Hid ((List.toArray ([.slice A0 r0.length k0, .slice A1 r1.length k1] : List Value)).all (·.oneCell') = true) := Lib.hid (all_oneCell_toArray (by simp [Value.oneCell']))
  go_wp2_with (first | (with_reducible refine wpList_load_mid rfl 27 _ rfl w.heap.size 0 rfl [.slice A0 r0.length k0, .slice A1 r1.length k1] _ HRG.out Try.underlying27 rfl hiV.out ?_) | (with_reducible refine wpList_store_mid rfl 27 _ _ rfl w.heap.size 0 (List.toArray ([.slice A0 r0.length k0, .slice A1 r1.length k1] : List Value)) rfl rfl HTE.out hsV.out h1V.out ?_))
  have HXE := Lib.hid (HX.out.setCells0 [.slice A0 r0.length k0, .slice A1 r1.length k1] rfl)
  have HKE := Lib.hid (Keeps.setCells (ts := [27]) (t := 27) (by simp) HX.out.typ 0 [.slice A0 r0.length k0, .slice A1 r1.length k1])
  refine bodyPost_ret (results_cell rfl _ _ w.heap.size rfl [.slice A0 r0.length k0, .slice A1 r1.length k1] _ HXE.out.range0 Try.underlying27 rfl hi.out) rfl ?_
  refine ⟨.inl ⟨[.rows r0, .rows r1], l1, [.slice A0 r0.length k0, .slice A1 r1.length k1], ?_, rfl, ?_, HR.out.keeps HKE.out (below_setCells_ hlt _ _) (by decide) (by decide) (by decide)⟩, HB.out.trans (below_setCells_ hlt _ _), HK.out.below_new (below_setCells_ (Nat.le_refl _) _ _)⟩
  · rw [shConfig, rds_some hd0.out, rds_some hd1.out, rds_nil]
    rfl
  · exact (Cels.mk (((Cel.mk_rows k0 R0.out).keeps HKE.out (by decide)).inT_more (by decide)) (Cels.mk (((Cel.mk_rows k1 R1.out).keeps HKE.out (by decide)).inT_more (by decide)) Cels.mk0))

end Go.Proofs.Yteohhgkehkmgcaa
