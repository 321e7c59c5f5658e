/- Joined by mkmerge.py from the proof's texts Re3, Re4, Re5. Conditions: each theorem's own hypotheses. -/
import Derived.Test.YtkdmfjpfanmgmaaGreatDoorM38
import Derived.Test.YtkdmfjpfanmgmaaGreatDoorM08
namespace Go.Proofs.YtkdmfjpfanmgmaaGreatDoor
open Go.RowKit Le
/-! ### Plain. -/
theorem iter_snoc {α : Type} {f : List UInt8 → Option (α × List UInt8)} {n : Nat} {l l' l'' : List UInt8} {ds : List α} {d : α} (h : iter f n l = some (ds, l')) (hf : f l' = some (d, l'')) : iter f (n + 1) l = some (ds ++ [d], l'') := by
  induction n generalizing l ds l' with
  | zero =>
    simp only [iter, Option.some.injEq, Prod.mk.injEq] at h
    obtain ⟨rfl, rfl⟩ := h
    simp [iter, hf]
  | succ n ih =>
    simp only [iter] at h
    obtain ⟨⟨x, l1⟩, h1, h⟩ := Option.bind_eq_some_iff.1 h
    obtain ⟨⟨xs, l2⟩, h2, h⟩ := Option.bind_eq_some_iff.1 h
    simp only [Option.some.injEq, Prod.mk.injEq] at h
    obtain ⟨rfl, rfl⟩ := h
    have := ih h2 hf
    rw [iter, h1]
    simp only [Option.bind_some]
    rw [this]
    rfl
theorem iter_none {α : Type} {f : List UInt8 → Option (α × List UInt8)} {n m : Nat} {l l' : List UInt8} {ds : List α} (h : iter f n l = some (ds, l')) (hf : f l' = none) (hm : n < m) : iter f m l = none := by
  induction n generalizing l ds m l' with
  | zero =>
    simp only [iter, Option.some.injEq, Prod.mk.injEq] at h
    obtain ⟨rfl, rfl⟩ := h
    obtain ⟨k, rfl⟩ : ∃ k, m = k + 1 := ⟨m - 1, by omega⟩
    simp [iter, hf]
  | succ n ih =>
    simp only [iter] at h
    obtain ⟨⟨x, l1⟩, h1, h⟩ := Option.bind_eq_some_iff.1 h
    obtain ⟨⟨xs, l2⟩, h2, h⟩ := Option.bind_eq_some_iff.1 h
    obtain ⟨k, rfl⟩ : ∃ k, m = k + 1 := ⟨m - 1, by omega⟩
    simp only [Option.some.injEq, Prod.mk.injEq] at h
    obtain ⟨rfl, rfl⟩ := h
    have := ih (m := k) h2 hf (by omega)
    rw [iter, h1]
    simp only [Option.bind_some]
    rw [this]
    rfl
theorem iter_len {α : Type} {f : List UInt8 → Option (α × List UInt8)} {n : Nat} {l l' : List UInt8} {ds : List α} (h : iter f n l = some (ds, l')) : ds.length = n := by
  induction n generalizing l ds l' with
  | zero =>
    simp only [iter, Option.some.injEq, Prod.mk.injEq] at h
    rw [← h.1]
    rfl
  | succ n ih =>
    simp only [iter] at h
    obtain ⟨⟨x, l1⟩, h1, h⟩ := Option.bind_eq_some_iff.1 h
    obtain ⟨⟨xs, l2⟩, h2, h⟩ := Option.bind_eq_some_iff.1 h
    simp only [Option.some.injEq, Prod.mk.injEq] at h
    rw [← h.1, List.length_cons, ih h2]
theorem iter_len_snoc {α : Type} {f : List UInt8 → Option (α × List UInt8)} {n : Nat} {l l' : List UInt8} {ds : List α} {d : α} (h : iter f (n + 1) l = some (ds ++ [d], l')) : ds.length = n := by
  have := iter_len h
  simpa using this
theorem rd_num_inv {l l' : List UInt8} {d : Da} (h : rd .num l = some (d, l')) : ∃ N : Nat, d = .int N ∧ rdNum l = some (N, l') ∧ N ≤ 1000000000 := by
  simp only [rd] at h
  obtain ⟨⟨N, l1⟩, h1, h⟩ := Option.bind_eq_some_iff.1 h
  simp only [Option.some.injEq, Prod.mk.injEq] at h
  obtain ⟨rfl, rfl⟩ := h
  exact ⟨N, rfl, h1, (rdNum_some h1).2.2.1⟩
theorem rd_num_none {l : List UInt8} (h : rd .num l = none) : rdNum l = none := by
  simp only [rd] at h
  cases h1 : rdNum l with
  | none => rfl
  | some x => rw [h1] at h; simp at h
theorem rows_ok {sh : List Sh} {l l1 l2 : List UInt8} {N : Nat} {ds : List (List Da)} (h : rdNum l = some (N, l1)) (h4 : N ≤ 4096) (hi : iter (rds sh) N l1 = some (ds, l2)) : rd (.rows sh) l = some (.rows ds, l2) := by
  simp only [rd, h, Option.bind_some]
  rw [if_pos h4, hi]
  rfl
theorem rows_big {sh : List Sh} {l l1 : List UInt8} {N : Nat} (h : rdNum l = some (N, l1)) (h4 : ¬ N ≤ 4096) : rd (.rows sh) l = none := by
  simp only [rd, h, Option.bind_some]
  rw [if_neg h4]
theorem rows_none {sh : List Sh} {l l1 : List UInt8} {N : Nat} (h : rdNum l = some (N, l1)) (hi : iter (rds sh) N l1 = none) : rd (.rows sh) l = none := by
  simp only [rd, h, Option.bind_some]
  split
  · rw [hi]; rfl
  · rfl
theorem rows_num {sh : List Sh} {l : List UInt8} (h : rdNum l = none) : rd (.rows sh) l = none := by
  simp only [rd, h, Option.bind_none]
/-- How a reading of a struct ends. -/
def SEnd (sh : List Sh) (l : List UInt8) (us : List TypeId) (w' : World) (base g : Nat) (e : Ending) : Prop :=
  (∃ ds l' vs, rds sh l = some (ds, l') ∧ e = .returned (.agg vs.toArray) ∧ Cels w' (InT w' us) sh ds vs ∧ RdAt w' base g l') ∨ (rds sh l = none ∧ e = .panicked (thrown 11))
end Go.Proofs.YtkdmfjpfanmgmaaGreatDoor
namespace Go.Proofs.YtkdmfjpfanmgmaaGreatDoor
open Go.RowKit Le
set_option maxRecDepth 100000
set_option linter.unusedVariables false
set_option linter.unusedSimpArgs false
set_option maxHeartbeats 1600000 in
theorem R_few_int (base g : Nat) (l : List UInt8) (w : World) (h : RdAt w base g l) :
    Calls Tryz.prog 126 #[.pointer (some ⟨g, 0, none⟩), .func (.func 109) #[] #[]] w fun e w' => FEnd (.rows [.num]) l [3] w' base g e ∧ Rds base w w' := by
  obtain ⟨i0, hi0⟩ : ∃ i, Tryz.prog.info? 3 = some i := by
    cases hq : Tryz.prog.info? 3 with
    | none => have h0 : (Tryz.prog.info? 3).isSome = true := by kernel_rfl
              rw [hq] at h0; cases h0
    | some i => exact ⟨i, rfl⟩
  have hinf : (Tryz.prog.info? 3).map (fun i => (i.zero, i.size, decide (i.bytes ≤ 1000))) = some (some (.int .i64 0), 1, true) := by kernel_rfl
  rw [hi0] at hinf
  simp only [Option.map_some, Option.some.injEq, Prod.mk.injEq, decide_eq_true_eq] at hinf
  obtain ⟨hz0, hz1, hz2⟩ := hinf
  have hby := Nat.mul_le_mul_left 4097 hz2
  have HI := Lib.hid (And.intro hi0 (And.intro hz0 hz1))
  clear hi0 hz0 hz1
  have hlt := h.lt
  have C := Lib.hid (R_num base g l w h)
  clear h
  go_enter Tryz.func126, Tryz.ntmps126
  go_wp2_with fail
  refine (unhide C).mono ?_
  rintro e w1 ⟨hE, hK⟩
  rcases hE with ⟨d, l1, v, hd, rfl, hv, hR⟩ | ⟨hd, rfl⟩
  rotate_left
  · exact ⟨rfl, .inr ⟨rows_num (rd_num_none hd), rfl⟩, hK⟩
  obtain ⟨N, rfl, hN, hN9⟩ := rd_num_inv hd
  obtain ⟨_, h1, rfl⟩ := hv.num
  injection h1 with h1
  subst h1
  have HN := Lib.hid hN
  have HR1 := Lib.hid hR
  have HK1 := Lib.hid hK
  clear C hd hN hR hK hv
  by_cases h4 : N ≤ 4096
  rotate_left
  · go_wp2_with fail
    have hdv : decide ((N : Int) ≤ 4096) = false := decide_eq_false (by omega)
    first | rw [hdv] | skip
    refine (is_false _).mono ?_
    rintro e w' ⟨rfl, rfl⟩
    exact ⟨rfl, .inr ⟨rows_big HN.out h4, rfl⟩, HK1.out⟩
  go_wp2_with fail
  have hdv : decide ((N : Int) ≤ 4096) = true := decide_eq_true (by omega)
  rw [hdv]
  refine (is_true _).mono ?_
  rintro e w' ⟨rfl, rfl⟩
  clear hdv
  go_wp2
  go_loopw [6, 13] (fun v i wr => ∃ (j : Nat) (ds : List (List Da)) (lj : List UInt8) (A : Option Addr) (c : Nat) (xs : List Value), j ≤ N ∧ i = .int .i64 j ∧ v = .slice A j c ∧ Hid (iter (rds [.num]) j l1 = some (ds, lj)) ∧ Hid (RdAt wr base g lj) ∧ Hid (wr.ownsRow w.heap.size 3 1 (.slice A j c) j xs) ∧ Hid (Things wr [] [.num] ds xs) ∧ Hid (Rds base w wr) ∧ w.heap.size ≤ wr.heap.size) (fun _ i _ => N - (intOf i).toNat)
  case atStart => exact ⟨0, [], l1, none, 0, [], Nat.zero_le _, rfl, rfl, Lib.hid (by simp only [iter]), HR1, Lib.hid (World.ownsRow_nil _ w.heap.size 3 1), Lib.hid (Things.nil _ _ _ _), HK1, HK1.out.keeps.size⟩
  case round =>
    obtain ⟨j, ds, lj, A, c, xs, hj, rfl, rfl, HIT, HR, HO, HT, HK, hsz⟩ := hrel
    by_cases hlt2 : j < N
    · have C := Lib.hid (R_num base g lj wr HR.out)
      go_wp2_with fail
      refine (unhide C).mono ?_
      rintro e w2 ⟨hE, hK⟩
      rcases hE with ⟨d, l2, v, hd, rfl, hv, hR⟩ | ⟨hd, rfl⟩
      rotate_left
      · exact ⟨rfl, .inr ⟨rows_none HN.out (iter_none HIT.out (rds_none hd) hlt2), rfl⟩, HK.out.trans hK⟩
      have hit := iter_snoc HIT.out (show rds [.num] lj = some ([d], l2) by rw [rds_some hd, rds_nil]; rfl)
      have hC := Cels.one hv
      have hC : Cels w2 (InT w2 []) [.num] [d] [v] := hC
      obtain ⟨x0, rfl, rfl⟩ := hv.num
      have HC := Lib.hid hC
      have HR2 := Lib.hid hR
      have HIT2 := Lib.hid hit
      have HK2 := Lib.hid (HK.out.trans hK)
      have HO2 := Lib.hid (HO.out.keeps hK.keeps (by decide))
      have HT2 := Lib.hid (HT.out.keeps hK.keeps (by decide))
      have hsz2 := hK.keeps.size
      have hone := HC.out.oneCell
      clear C hC hR hit hK HR HO HT HK HIT
      go_wp2_with (at_builtin; refine wpList_appN rfl _ _ 24 rfl w.heap.size 3 i0 _ 1 i0.bytes Tryz.underlying24 HI.out.1 HI.out.2.1 HI.out.2.2 rfl rfl (by decide) (.slice A j c) j xs rfl (HO2.out.alloc _) ⟨w2.heap.size, 0, none⟩ 1 [.int .i64 x0] rfl rfl (Blk.new w2 _ [.int .i64 x0]).news hone (by unfold maxLen; omega) (Nat.le_trans (Nat.mul_le_mul_right _ (by omega)) (Nat.le_trans hby (by decide))) (by simp; omega) ?_; intro A3 c3 w3 HO3 HG3)
      have HKA : Hid (Keeps [3] w2 w3) := Lib.hid ((Keeps.alloc w2 _).trans (Keeps.grown (HO2.out.alloc _) HG3.out (by simp) HG3.out.size))
      have HBA : Hid (Below base w2 w3) := Lib.hid (((Below.refl _ _).alloc (by omega) _).grown HG3.out (by simp; omega) (by intro k hk; have := own_block_ge HO2.out k hk; omega))
      have hrel : ∃ (j' : Nat) (ds : List (List Da)) (lj : List UInt8) (A : Option Addr) (c : Nat) (xs : List Value), j' ≤ N ∧ Value.int .i64 ((j : Int) + 1) = .int .i64 j' ∧ Value.slice A3 (j + 1) c3 = .slice A j' c ∧ Hid (iter (rds [.num]) j' l1 = some (ds, lj)) ∧ Hid (RdAt w3 base g lj) ∧ Hid (w3.ownsRow w.heap.size 3 1 (.slice A j' c) j' xs) ∧ Hid (Things w3 [] [.num] ds xs) ∧ Hid (Rds base w w3) ∧ w.heap.size ≤ w3.heap.size := by
        refine ⟨j + 1, _, _, A3, c3, _, by omega, by simp, rfl, HIT2, Lib.hid (HR2.out.keeps HKA.out HBA.out (by decide) (by decide) (by decide)), HO3, Lib.hid ?_, Lib.hid ⟨HK2.out.below.trans HBA.out, ?_⟩, by have := HKA.out.size; omega⟩
        · exact (HT2.out.keeps HKA.out (by decide)).snoc (by have h1 := HO2.out.1; have h2 := iter_len_snoc HIT2.out; rw [h2]; exact h1) (HC.out.keeps HKA.out (by decide))
        · exact (HK2.out.keeps.then_below ((Below.refl _ _).alloc (Nat.le_refl _) _)).grown_new HG3.out (fun k hk => by have := own_block_ge HO2.out k hk; omega)
      clear HKA HBA HO3 HG3 HO2 HT2 HR2 HC HK2 HIT2
      go_wp2
      go_roundw
      case rel => obtain ⟨j', ds, lj, A, c, xs, h1, h2, h3, h4⟩ := hrel; exact ⟨j', ds, lj, A, c, xs, h1, by rw [← h2], h3, h4⟩
      case measure => simp [intOf]; omega
    · obtain rfl : j = N := by omega
      go_wp2
      go_ret
      have hl2 := iter_len HIT.out
      refine ⟨.inl ⟨.rows ds, lj, .slice A j c, rows_ok HN.out h4 HIT.out, rfl, ?_, HR.out⟩, HK.out⟩
      have hr := rowsAt_own (us := []) (l := [.num]) (ds := ds) (by decide) HO.out hl2 HT.out
      have := Cel.mk_rows c hr
      rwa [hl2] at this
set_option maxHeartbeats 1600000 in
theorem R_config (base g : Nat) (l : List UInt8) (w : World) (h : RdAt w base g l) :
    Calls Tryz.prog 110 #[.pointer (some ⟨g, 0, none⟩)] w fun e w' => SEnd shConfig l [3] w' base g e ∧ Rds base w w' := by
  have hi : (Tryz.prog.info? 27).map (·.size) = some 2 := by kernel_rfl
  replace hi := Lib.hid hi
  have hlt := h.lt
  have HR := Lib.hid (h.below_ ((Below.refl _ _).alloc (Nat.le_refl _) (.cells #[.slice none 0 0, .slice none 0 0] 27)))
  have HX := Lib.hid (Blk.new w 27 [.slice none 0 0, .slice none 0 0])
  have HB : Hid (Below base w (w.alloc (.cells #[.slice none 0 0, .slice none 0 0] 27))) := Lib.hid ((Below.refl _ _).alloc hlt _)
  have HK : Hid (Keeps [171, 189] w (w.alloc (.cells #[.slice none 0 0, .slice none 0 0] 27))) := Lib.hid (Keeps.alloc _ _)
  clear h
  go_enter Tryz.func110, Tryz.ntmps110
  go_wp2_with fail
  refine (R_few_int base g l _ HR.out).mono ?_
  rintro e w0 ⟨hE, hK⟩
  rcases hE with ⟨d0, l0, v0, hd, rfl, hv, hR⟩ | ⟨hd, rfl⟩
  rotate_left
  · refine ⟨rfl, .inr ⟨?_, rfl⟩, HB.out.trans hK.below, HK.out.trans hK.keeps⟩
    rw [shConfig, rds_none hd]
  replace HB := Lib.hid (HB.out.trans hK.below)
  replace HK := Lib.hid (HK.out.trans hK.keeps)
  replace HX := Lib.hid (HX.out.keeps hK.keeps (by decide))
  have hd0 := Lib.hid hd
  obtain ⟨r0, A0, k0, rfl, rfl, R0⟩ := hv.rows
  replace R0 := Lib.hid R0
  replace HR := Lib.hid hR
  have hsz0 := HK.out.size
  have hfz0 : w0.frozen? ⟨w.heap.size, 0, none⟩ = false := HX.out.frozen 0
  have hcx0_0 : w0.cell? ⟨w.heap.size, 0, none⟩ = some (.slice none 0 0) := HX.out.cell 0
  clear hd hR hK hv
  have HY : Hid (Blk (w0.setCell ⟨w.heap.size, 0, none⟩ (.slice A0 r0.length k0)) w.heap.size 27 [.slice A0 r0.length k0, .slice none 0 0]) := Lib.hid (HX.out.set_ 0 (.slice A0 r0.length k0))
  have HKA : Hid (Keeps [27] w0 (w0.setCell ⟨w.heap.size, 0, none⟩ (.slice A0 r0.length k0))) := Lib.hid ((Keeps.refl _ _).trans (Keeps.set_ HX.out.typ (by simp) (.slice A0 r0.length k0)))
  have HBA : Hid (Below w.heap.size w0 (w0.setCell ⟨w.heap.size, 0, none⟩ (.slice A0 r0.length k0))) := Lib.hid ((Below.refl w.heap.size w0).setCell (Nat.le_refl _) _)
  replace HX := HY
  replace HR := Lib.hid (HR.out.keeps HKA.out (HBA.out.mono hlt) (by decide) (by decide) (by decide))
  replace R0 := Lib.hid (rows_keeps R0.out HKA.out (by decide))
  replace HB := Lib.hid (HB.out.trans (HBA.out.mono hlt))
  replace HK := Lib.hid (HK.out.below_new HBA.out)
  clear HY HKA HBA
  go_wp2_with fail
  refine (R_few_int base g l0 _ HR.out).mono ?_
  rintro e w1 ⟨hE, hK⟩
  rcases hE with ⟨d1, l1, v1, hd, rfl, hv, hR⟩ | ⟨hd, rfl⟩
  rotate_left
  · refine ⟨rfl, .inr ⟨?_, rfl⟩, HB.out.trans hK.below, HK.out.trans hK.keeps⟩
    rw [shConfig, rds_some hd0.out, rds_none hd]
    rfl
  replace HB := Lib.hid (HB.out.trans hK.below)
  replace HK := Lib.hid (HK.out.trans hK.keeps)
  replace HX := Lib.hid (HX.out.keeps hK.keeps (by decide))
  replace R0 := Lib.hid (rows_keeps R0.out hK.keeps (by decide))
  have hd1 := Lib.hid hd
  obtain ⟨r1, A1, k1, rfl, rfl, R1⟩ := hv.rows
  replace R1 := Lib.hid R1
  replace HR := Lib.hid hR
  have hsz1 := HK.out.size
  have hfz1 : w1.frozen? ⟨w.heap.size, 1, none⟩ = false := HX.out.frozen 1
  have hcx1_0 : w1.cell? ⟨w.heap.size, 1, none⟩ = some (.slice none 0 0) := HX.out.cell 1
  clear hd hR hK hv
  have HY : Hid (Blk (w1.setCell ⟨w.heap.size, 1, none⟩ (.slice A1 r1.length k1)) w.heap.size 27 [.slice A0 r0.length k0, .slice A1 r1.length k1]) := Lib.hid (HX.out.set_ 1 (.slice A1 r1.length k1))
  have HKA : Hid (Keeps [27] w1 (w1.setCell ⟨w.heap.size, 1, none⟩ (.slice A1 r1.length k1))) := Lib.hid ((Keeps.refl _ _).trans (Keeps.set_ HX.out.typ (by simp) (.slice A1 r1.length k1)))
  have HBA : Hid (Below w.heap.size w1 (w1.setCell ⟨w.heap.size, 1, none⟩ (.slice A1 r1.length k1))) := Lib.hid ((Below.refl w.heap.size w1).setCell (Nat.le_refl _) _)
  replace HX := HY
  replace HR := Lib.hid (HR.out.keeps HKA.out (HBA.out.mono hlt) (by decide) (by decide) (by decide))
  replace R0 := Lib.hid (rows_keeps R0.out HKA.out (by decide))
  replace R1 := Lib.hid (rows_keeps R1.out HKA.out (by decide))
  replace HB := Lib.hid (HB.out.trans (HBA.out.mono hlt))
  replace HK := Lib.hid (HK.out.below_new HBA.out)
  clear HY HKA HBA
  have HRG := Lib.hid HX.out.range0
  have HTE : Hid (World.there _ w.heap.size 0 (List.toArray ([.slice A0 r0.length k0, .slice A1 r1.length k1] : List Value)).size) := Lib.hid (HX.out.there 0 2 (by simp))
  have hiV : Hid ((Tryz.prog.info? 27).map (·.size) = some (List.length ([.slice A0 r0.length k0, .slice A1 r1.length k1] : List Value))) := Lib.hid hi.out
  have hsV : Hid ((Tryz.prog.info? 27).map (·.size) = some (List.toArray ([.slice A0 r0.length k0, .slice A1 r1.length k1] : List Value)).size) := Lib.hid hi.out
  have h1V : Hid ((List.toArray ([.slice A0 r0.length k0, .slice A1 r1.length k1] : List Value)).all (·.oneCell') = true) := Lib.hid (all_oneCell_toArray (by simp [Value.oneCell']))
  go_wp2_with (first | (with_reducible refine wpList_load_mid rfl 27 _ rfl w.heap.size 0 rfl [.slice A0 r0.length k0, .slice A1 r1.length k1] _ HRG.out Tryz.underlying27 rfl hiV.out ?_) | (with_reducible refine wpList_store_mid rfl 27 _ _ rfl w.heap.size 0 (List.toArray ([.slice A0 r0.length k0, .slice A1 r1.length k1] : List Value)) rfl rfl HTE.out hsV.out h1V.out ?_))
  have HXE := Lib.hid (HX.out.setCells0 [.slice A0 r0.length k0, .slice A1 r1.length k1] rfl)
  have HKE := Lib.hid (Keeps.setCells (ts := [27]) (t := 27) (by simp) HX.out.typ 0 [.slice A0 r0.length k0, .slice A1 r1.length k1])
  refine bodyPost_ret (results_cell rfl _ _ w.heap.size rfl [.slice A0 r0.length k0, .slice A1 r1.length k1] _ HXE.out.range0 Tryz.underlying27 rfl hi.out) rfl ?_
  refine ⟨.inl ⟨[.rows r0, .rows r1], l1, [.slice A0 r0.length k0, .slice A1 r1.length k1], ?_, rfl, ?_, HR.out.keeps HKE.out (below_setCells_ hlt _ _) (by decide) (by decide) (by decide)⟩, HB.out.trans (below_setCells_ hlt _ _), HK.out.below_new (below_setCells_ (Nat.le_refl _) _ _)⟩
  · rw [shConfig, rds_some hd0.out, rds_some hd1.out, rds_nil]
    rfl
  · exact (Cels.mk (((Cel.mk_rows k0 R0.out).keeps HKE.out (by decide)).inT_more (by decide)) (Cels.mk (((Cel.mk_rows k1 R1.out).keeps HKE.out (by decide)).inT_more (by decide)) Cels.mk0))
end Go.Proofs.YtkdmfjpfanmgmaaGreatDoor
namespace Go.Proofs.YtkdmfjpfanmgmaaGreatDoor
open Go.RowKit Le
set_option maxRecDepth 100000
set_option linter.unusedVariables false
set_option linter.unusedSimpArgs false
set_option maxHeartbeats 1600000 in
theorem R_record (base g : Nat) (l : List UInt8) (w : World) (h : RdAt w base g l) :
    Calls Tryz.prog 69 #[.pointer (some ⟨g, 0, none⟩)] w fun e w' => SEnd shRecord l [3] w' base g e ∧ Rds base w w' := by
  have hi : (Tryz.prog.info? 33).map (·.size) = some 15 := by kernel_rfl
  replace hi := Lib.hid hi
  have hlt := h.lt
  have HR := Lib.hid (h.below_ ((Below.refl _ _).alloc (Nat.le_refl _) (.cells #[.int .i64 0, .int .i64 0, .int .i64 0, .int .i64 0, .int .i64 0, .int .i64 0, .slice none 0 0, .slice none 0 0, .string ⟨#[]⟩, .int .i64 0, .int .i64 0, .int .i64 0, .slice none 0 0, .slice none 0 0, .string ⟨#[]⟩] 33)))
  have HX := Lib.hid (Blk.new w 33 [.int .i64 0, .int .i64 0, .int .i64 0, .int .i64 0, .int .i64 0, .int .i64 0, .slice none 0 0, .slice none 0 0, .string ⟨#[]⟩, .int .i64 0, .int .i64 0, .int .i64 0, .slice none 0 0, .slice none 0 0, .string ⟨#[]⟩])
  have HB : Hid (Below base w (w.alloc (.cells #[.int .i64 0, .int .i64 0, .int .i64 0, .int .i64 0, .int .i64 0, .int .i64 0, .slice none 0 0, .slice none 0 0, .string ⟨#[]⟩, .int .i64 0, .int .i64 0, .int .i64 0, .slice none 0 0, .slice none 0 0, .string ⟨#[]⟩] 33))) := Lib.hid ((Below.refl _ _).alloc hlt _)
  have HK : Hid (Keeps [171, 189] w (w.alloc (.cells #[.int .i64 0, .int .i64 0, .int .i64 0, .int .i64 0, .int .i64 0, .int .i64 0, .slice none 0 0, .slice none 0 0, .string ⟨#[]⟩, .int .i64 0, .int .i64 0, .int .i64 0, .slice none 0 0, .slice none 0 0, .string ⟨#[]⟩] 33))) := Lib.hid (Keeps.alloc _ _)
  clear h
  go_enter Tryz.func69, Tryz.ntmps69
  go_wp2_with fail
  refine (R_num base g l _ HR.out).mono ?_
  rintro e w0 ⟨hE, hK⟩
  rcases hE with ⟨d0, l0, v0, hd, rfl, hv, hR⟩ | ⟨hd, rfl⟩
  rotate_left
  · refine ⟨rfl, .inr ⟨?_, rfl⟩, HB.out.trans hK.below, HK.out.trans hK.keeps⟩
    rw [shRecord, rds_none hd]
  replace HB := Lib.hid (HB.out.trans hK.below)
  replace HK := Lib.hid (HK.out.trans hK.keeps)
  replace HX := Lib.hid (HX.out.keeps hK.keeps (by decide))
  have hd0 := Lib.hid hd
  obtain ⟨n0, rfl, rfl⟩ := hv.num
  replace HR := Lib.hid hR
  have hsz0 := HK.out.size
  have hfz0 : w0.frozen? ⟨w.heap.size, 0, none⟩ = false := HX.out.frozen 0
  have hcx0_0 : w0.cell? ⟨w.heap.size, 0, none⟩ = some (.int .i64 0) := HX.out.cell 0
  clear hd hR hK hv
  have HY : Hid (Blk (w0.setCell ⟨w.heap.size, 0, none⟩ (.int .i64 n0)) w.heap.size 33 [.int .i64 n0, .int .i64 0, .int .i64 0, .int .i64 0, .int .i64 0, .int .i64 0, .slice none 0 0, .slice none 0 0, .string ⟨#[]⟩, .int .i64 0, .int .i64 0, .int .i64 0, .slice none 0 0, .slice none 0 0, .string ⟨#[]⟩]) := Lib.hid (HX.out.set_ 0 (.int .i64 n0))
  have HKA : Hid (Keeps [33] w0 (w0.setCell ⟨w.heap.size, 0, none⟩ (.int .i64 n0))) := Lib.hid ((Keeps.refl _ _).trans (Keeps.set_ HX.out.typ (by simp) (.int .i64 n0)))
  have HBA : Hid (Below w.heap.size w0 (w0.setCell ⟨w.heap.size, 0, none⟩ (.int .i64 n0))) := Lib.hid ((Below.refl w.heap.size w0).setCell (Nat.le_refl _) _)
  replace HX := HY
  replace HR := Lib.hid (HR.out.keeps HKA.out (HBA.out.mono hlt) (by decide) (by decide) (by decide))
  replace HB := Lib.hid (HB.out.trans (HBA.out.mono hlt))
  replace HK := Lib.hid (HK.out.below_new HBA.out)
  clear HY HKA HBA
  go_wp2_with fail
  refine (R_num base g l0 _ HR.out).mono ?_
  rintro e w1 ⟨hE, hK⟩
  rcases hE with ⟨d1, l1, v1, hd, rfl, hv, hR⟩ | ⟨hd, rfl⟩
  rotate_left
  · refine ⟨rfl, .inr ⟨?_, rfl⟩, HB.out.trans hK.below, HK.out.trans hK.keeps⟩
    rw [shRecord, rds_some hd0.out, rds_none hd]
    rfl
  replace HB := Lib.hid (HB.out.trans hK.below)
  replace HK := Lib.hid (HK.out.trans hK.keeps)
  replace HX := Lib.hid (HX.out.keeps hK.keeps (by decide))
  have hd1 := Lib.hid hd
  obtain ⟨n1, rfl, rfl⟩ := hv.num
  replace HR := Lib.hid hR
  have hsz1 := HK.out.size
  have hfz1 : w1.frozen? ⟨w.heap.size, 1, none⟩ = false := HX.out.frozen 1
  have hcx1_0 : w1.cell? ⟨w.heap.size, 1, none⟩ = some (.int .i64 0) := HX.out.cell 1
  clear hd hR hK hv
  have HY : Hid (Blk (w1.setCell ⟨w.heap.size, 1, none⟩ (.int .i64 n1)) w.heap.size 33 [.int .i64 n0, .int .i64 n1, .int .i64 0, .int .i64 0, .int .i64 0, .int .i64 0, .slice none 0 0, .slice none 0 0, .string ⟨#[]⟩, .int .i64 0, .int .i64 0, .int .i64 0, .slice none 0 0, .slice none 0 0, .string ⟨#[]⟩]) := Lib.hid (HX.out.set_ 1 (.int .i64 n1))
  have HKA : Hid (Keeps [33] w1 (w1.setCell ⟨w.heap.size, 1, none⟩ (.int .i64 n1))) := Lib.hid ((Keeps.refl _ _).trans (Keeps.set_ HX.out.typ (by simp) (.int .i64 n1)))
  have HBA : Hid (Below w.heap.size w1 (w1.setCell ⟨w.heap.size, 1, none⟩ (.int .i64 n1))) := Lib.hid ((Below.refl w.heap.size w1).setCell (Nat.le_refl _) _)
  replace HX := HY
  replace HR := Lib.hid (HR.out.keeps HKA.out (HBA.out.mono hlt) (by decide) (by decide) (by decide))
  replace HB := Lib.hid (HB.out.trans (HBA.out.mono hlt))
  replace HK := Lib.hid (HK.out.below_new HBA.out)
  clear HY HKA HBA
  go_wp2_with fail
  refine (R_num base g l1 _ HR.out).mono ?_
  rintro e w2 ⟨hE, hK⟩
  rcases hE with ⟨d2, l2, v2, hd, rfl, hv, hR⟩ | ⟨hd, rfl⟩
  rotate_left
  · refine ⟨rfl, .inr ⟨?_, rfl⟩, HB.out.trans hK.below, HK.out.trans hK.keeps⟩
    rw [shRecord, rds_some hd0.out, rds_some hd1.out, rds_none hd]
    rfl
  replace HB := Lib.hid (HB.out.trans hK.below)
  replace HK := Lib.hid (HK.out.trans hK.keeps)
  replace HX := Lib.hid (HX.out.keeps hK.keeps (by decide))
  have hd2 := Lib.hid hd
  obtain ⟨n2, rfl, rfl⟩ := hv.num
  replace HR := Lib.hid hR
  have hsz2 := HK.out.size
  have hfz2 : w2.frozen? ⟨w.heap.size, 2, none⟩ = false := HX.out.frozen 2
  have hcx2_0 : w2.cell? ⟨w.heap.size, 2, none⟩ = some (.int .i64 0) := HX.out.cell 2
  clear hd hR hK hv
  have HY : Hid (Blk (w2.setCell ⟨w.heap.size, 2, none⟩ (.int .i64 n2)) w.heap.size 33 [.int .i64 n0, .int .i64 n1, .int .i64 n2, .int .i64 0, .int .i64 0, .int .i64 0, .slice none 0 0, .slice none 0 0, .string ⟨#[]⟩, .int .i64 0, .int .i64 0, .int .i64 0, .slice none 0 0, .slice none 0 0, .string ⟨#[]⟩]) := Lib.hid (HX.out.set_ 2 (.int .i64 n2))
  have HKA : Hid (Keeps [33] w2 (w2.setCell ⟨w.heap.size, 2, none⟩ (.int .i64 n2))) := Lib.hid ((Keeps.refl _ _).trans (Keeps.set_ HX.out.typ (by simp) (.int .i64 n2)))
  have HBA : Hid (Below w.heap.size w2 (w2.setCell ⟨w.heap.size, 2, none⟩ (.int .i64 n2))) := Lib.hid ((Below.refl w.heap.size w2).setCell (Nat.le_refl _) _)
  replace HX := HY
  replace HR := Lib.hid (HR.out.keeps HKA.out (HBA.out.mono hlt) (by decide) (by decide) (by decide))
  replace HB := Lib.hid (HB.out.trans (HBA.out.mono hlt))
  replace HK := Lib.hid (HK.out.below_new HBA.out)
  clear HY HKA HBA
  go_wp2_with fail
  refine (R_num base g l2 _ HR.out).mono ?_
  rintro e w3 ⟨hE, hK⟩
  rcases hE with ⟨d3, l3, v3, hd, rfl, hv, hR⟩ | ⟨hd, rfl⟩
  rotate_left
  · refine ⟨rfl, .inr ⟨?_, rfl⟩, HB.out.trans hK.below, HK.out.trans hK.keeps⟩
    rw [shRecord, rds_some hd0.out, rds_some hd1.out, rds_some hd2.out, rds_none hd]
    rfl
  replace HB := Lib.hid (HB.out.trans hK.below)
  replace HK := Lib.hid (HK.out.trans hK.keeps)
  replace HX := Lib.hid (HX.out.keeps hK.keeps (by decide))
  have hd3 := Lib.hid hd
  obtain ⟨n3, rfl, rfl⟩ := hv.num
  replace HR := Lib.hid hR
  have hsz3 := HK.out.size
  have hfz3 : w3.frozen? ⟨w.heap.size, 3, none⟩ = false := HX.out.frozen 3
  have hcx3_0 : w3.cell? ⟨w.heap.size, 3, none⟩ = some (.int .i64 0) := HX.out.cell 3
  clear hd hR hK hv
  have HY : Hid (Blk (w3.setCell ⟨w.heap.size, 3, none⟩ (.int .i64 n3)) w.heap.size 33 [.int .i64 n0, .int .i64 n1, .int .i64 n2, .int .i64 n3, .int .i64 0, .int .i64 0, .slice none 0 0, .slice none 0 0, .string ⟨#[]⟩, .int .i64 0, .int .i64 0, .int .i64 0, .slice none 0 0, .slice none 0 0, .string ⟨#[]⟩]) := Lib.hid (HX.out.set_ 3 (.int .i64 n3))
  have HKA : Hid (Keeps [33] w3 (w3.setCell ⟨w.heap.size, 3, none⟩ (.int .i64 n3))) := Lib.hid ((Keeps.refl _ _).trans (Keeps.set_ HX.out.typ (by simp) (.int .i64 n3)))
  have HBA : Hid (Below w.heap.size w3 (w3.setCell ⟨w.heap.size, 3, none⟩ (.int .i64 n3))) := Lib.hid ((Below.refl w.heap.size w3).setCell (Nat.le_refl _) _)
  replace HX := HY
  replace HR := Lib.hid (HR.out.keeps HKA.out (HBA.out.mono hlt) (by decide) (by decide) (by decide))
  replace HB := Lib.hid (HB.out.trans (HBA.out.mono hlt))
  replace HK := Lib.hid (HK.out.below_new HBA.out)
  clear HY HKA HBA
  go_wp2_with fail
  refine (R_num base g l3 _ HR.out).mono ?_
  rintro e w4 ⟨hE, hK⟩
  rcases hE with ⟨d4, l4, v4, hd, rfl, hv, hR⟩ | ⟨hd, rfl⟩
  rotate_left
  · refine ⟨rfl, .inr ⟨?_, rfl⟩, HB.out.trans hK.below, HK.out.trans hK.keeps⟩
    rw [shRecord, rds_some hd0.out, rds_some hd1.out, rds_some hd2.out, rds_some hd3.out, rds_none hd]
    rfl
  replace HB := Lib.hid (HB.out.trans hK.below)
  replace HK := Lib.hid (HK.out.trans hK.keeps)
  replace HX := Lib.hid (HX.out.keeps hK.keeps (by decide))
  have hd4 := Lib.hid hd
  obtain ⟨n4, rfl, rfl⟩ := hv.num
  replace HR := Lib.hid hR
  have hsz4 := HK.out.size
  have hfz4 : w4.frozen? ⟨w.heap.size, 4, none⟩ = false := HX.out.frozen 4
  have hcx4_0 : w4.cell? ⟨w.heap.size, 4, none⟩ = some (.int .i64 0) := HX.out.cell 4
  clear hd hR hK hv
  have HY : Hid (Blk (w4.setCell ⟨w.heap.size, 4, none⟩ (.int .i64 n4)) w.heap.size 33 [.int .i64 n0, .int .i64 n1, .int .i64 n2, .int .i64 n3, .int .i64 n4, .int .i64 0, .slice none 0 0, .slice none 0 0, .string ⟨#[]⟩, .int .i64 0, .int .i64 0, .int .i64 0, .slice none 0 0, .slice none 0 0, .string ⟨#[]⟩]) := Lib.hid (HX.out.set_ 4 (.int .i64 n4))
  have HKA : Hid (Keeps [33] w4 (w4.setCell ⟨w.heap.size, 4, none⟩ (.int .i64 n4))) := Lib.hid ((Keeps.refl _ _).trans (Keeps.set_ HX.out.typ (by simp) (.int .i64 n4)))
  have HBA : Hid (Below w.heap.size w4 (w4.setCell ⟨w.heap.size, 4, none⟩ (.int .i64 n4))) := Lib.hid ((Below.refl w.heap.size w4).setCell (Nat.le_refl _) _)
  replace HX := HY
  replace HR := Lib.hid (HR.out.keeps HKA.out (HBA.out.mono hlt) (by decide) (by decide) (by decide))
  replace HB := Lib.hid (HB.out.trans (HBA.out.mono hlt))
  replace HK := Lib.hid (HK.out.below_new HBA.out)
  clear HY HKA HBA
  go_wp2_with fail
  refine (R_num base g l4 _ HR.out).mono ?_
  rintro e w5 ⟨hE, hK⟩
  rcases hE with ⟨d5, l5, v5, hd, rfl, hv, hR⟩ | ⟨hd, rfl⟩
  rotate_left
  · refine ⟨rfl, .inr ⟨?_, rfl⟩, HB.out.trans hK.below, HK.out.trans hK.keeps⟩
    rw [shRecord, rds_some hd0.out, rds_some hd1.out, rds_some hd2.out, rds_some hd3.out, rds_some hd4.out, rds_none hd]
    rfl
  replace HB := Lib.hid (HB.out.trans hK.below)
  replace HK := Lib.hid (HK.out.trans hK.keeps)
  replace HX := Lib.hid (HX.out.keeps hK.keeps (by decide))
  have hd5 := Lib.hid hd
  obtain ⟨n5, rfl, rfl⟩ := hv.num
  replace HR := Lib.hid hR
  have hsz5 := HK.out.size
  have hfz5 : w5.frozen? ⟨w.heap.size, 5, none⟩ = false := HX.out.frozen 5
  have hcx5_0 : w5.cell? ⟨w.heap.size, 5, none⟩ = some (.int .i64 0) := HX.out.cell 5
  clear hd hR hK hv
  have HY : Hid (Blk (w5.setCell ⟨w.heap.size, 5, none⟩ (.int .i64 n5)) w.heap.size 33 [.int .i64 n0, .int .i64 n1, .int .i64 n2, .int .i64 n3, .int .i64 n4, .int .i64 n5, .slice none 0 0, .slice none 0 0, .string ⟨#[]⟩, .int .i64 0, .int .i64 0, .int .i64 0, .slice none 0 0, .slice none 0 0, .string ⟨#[]⟩]) := Lib.hid (HX.out.set_ 5 (.int .i64 n5))
  have HKA : Hid (Keeps [33] w5 (w5.setCell ⟨w.heap.size, 5, none⟩ (.int .i64 n5))) := Lib.hid ((Keeps.refl _ _).trans (Keeps.set_ HX.out.typ (by simp) (.int .i64 n5)))
  have HBA : Hid (Below w.heap.size w5 (w5.setCell ⟨w.heap.size, 5, none⟩ (.int .i64 n5))) := Lib.hid ((Below.refl w.heap.size w5).setCell (Nat.le_refl _) _)
  replace HX := HY
  replace HR := Lib.hid (HR.out.keeps HKA.out (HBA.out.mono hlt) (by decide) (by decide) (by decide))
  replace HB := Lib.hid (HB.out.trans (HBA.out.mono hlt))
  replace HK := Lib.hid (HK.out.below_new HBA.out)
  clear HY HKA HBA
  go_wp2_with fail
  refine (R_config base g l5 _ HR.out).mono ?_
  rintro e w6 ⟨hE, hK⟩
  rcases hE with ⟨ds6, l6, vs6, hd, rfl, hv, hR⟩ | ⟨hd, rfl⟩
  rotate_left
  · refine ⟨rfl, .inr ⟨?_, rfl⟩, HB.out.trans hK.below, HK.out.trans hK.keeps⟩
    rw [shRecord, rds_some hd0.out, rds_some hd1.out, rds_some hd2.out, rds_some hd3.out, rds_some hd4.out, rds_some hd5.out]
    have hn := rds_append_none [.text, .num, .num, .num, .rows [.num], .rows [.num], .text] hd
    replace hn : rds [.rows [.num], .rows [.num], .text, .num, .num, .num, .rows [.num], .rows [.num], .text] l5 = none := hn
    rw [hn]
    rfl
  replace HB := Lib.hid (HB.out.trans hK.below)
  replace HK := Lib.hid (HK.out.trans hK.keeps)
  replace HX := Lib.hid (HX.out.keeps hK.keeps (by decide))
  replace hv : Cels _ _ [.rows [.num], .rows [.num]] ds6 vs6 := hv
  obtain ⟨_, _, _, _, rfl, rfl, c6, hv⟩ := hv.cons
  obtain ⟨_, _, _, _, rfl, rfl, c7, hv⟩ := hv.cons
  obtain ⟨rfl, rfl⟩ := hv.nil
  obtain ⟨r6, A6, k6, rfl, rfl, R6⟩ := c6.rows
  replace R6 := Lib.hid R6
  obtain ⟨r7, A7, k7, rfl, rfl, R7⟩ := c7.rows
  replace R7 := Lib.hid R7
  have hs6 := rds_append_some [.text, .num, .num, .num, .rows [.num], .rows [.num], .text] hd
  have hd6 : Hid (rds [.rows [.num], .rows [.num], .text, .num, .num, .num, .rows [.num], .rows [.num], .text] l5 = _) := Lib.hid hs6
  clear hs6
  replace HR := Lib.hid hR
  have hsz6 := HK.out.size
  have hfz6 : w6.frozen? ⟨w.heap.size, 6, none⟩ = false := HX.out.frozen 6
  have hcx6_0 : w6.cell? ⟨w.heap.size, 6, none⟩ = some (.slice none 0 0) := HX.out.cell 6
  have hcx6_1 : w6.cell? ⟨w.heap.size, 7, none⟩ = some (.slice none 0 0) := HX.out.cell 7
  have hfz6_1 : w6.frozen? ⟨w.heap.size, 7, none⟩ = false := HX.out.frozen 7
  clear hd hR hK 
  have HY : Hid (Blk ((w6.setCell ⟨w.heap.size, 6, none⟩ (.slice A6 r6.length k6)).setCell ⟨w.heap.size, 7, none⟩ (.slice A7 r7.length k7)) w.heap.size 33 [.int .i64 n0, .int .i64 n1, .int .i64 n2, .int .i64 n3, .int .i64 n4, .int .i64 n5, .slice A6 r6.length k6, .slice A7 r7.length k7, .string ⟨#[]⟩, .int .i64 0, .int .i64 0, .int .i64 0, .slice none 0 0, .slice none 0 0, .string ⟨#[]⟩]) := Lib.hid ((HX.out.set_ 6 (.slice A6 r6.length k6)).set_ 7 (.slice A7 r7.length k7))
  have HKA : Hid (Keeps [33] w6 ((w6.setCell ⟨w.heap.size, 6, none⟩ (.slice A6 r6.length k6)).setCell ⟨w.heap.size, 7, none⟩ (.slice A7 r7.length k7))) := Lib.hid (((Keeps.refl _ _).trans (Keeps.set_ HX.out.typ (by simp) (.slice A6 r6.length k6))).trans (Keeps.set_ (HX.out.set_ 6 (.slice A6 r6.length k6)).typ (by simp) (.slice A7 r7.length k7)))
  have HBA : Hid (Below w.heap.size w6 ((w6.setCell ⟨w.heap.size, 6, none⟩ (.slice A6 r6.length k6)).setCell ⟨w.heap.size, 7, none⟩ (.slice A7 r7.length k7))) := Lib.hid (((Below.refl w.heap.size w6).setCell (Nat.le_refl _) _).setCell (Nat.le_refl _) _)
  replace HX := HY
  replace HR := Lib.hid (HR.out.keeps HKA.out (HBA.out.mono hlt) (by decide) (by decide) (by decide))
  replace R6 := Lib.hid (rows_keeps R6.out HKA.out (by decide))
  replace R7 := Lib.hid (rows_keeps R7.out HKA.out (by decide))
  replace HB := Lib.hid (HB.out.trans (HBA.out.mono hlt))
  replace HK := Lib.hid (HK.out.below_new HBA.out)
  clear HY HKA HBA
  go_wp2_with fail
  refine (R_text base g l6 _ HR.out).mono ?_
  rintro e w7 ⟨hE, hK⟩
  rcases hE with ⟨d8, l7, v8, hd, rfl, hv, hR⟩ | ⟨hd, rfl⟩
  rotate_left
  · refine ⟨rfl, .inr ⟨?_, rfl⟩, HB.out.trans hK.below, HK.out.trans hK.keeps⟩
    rw [shRecord, rds_some hd0.out, rds_some hd1.out, rds_some hd2.out, rds_some hd3.out, rds_some hd4.out, rds_some hd5.out, hd6.out, rds_none hd]
    rfl
  replace HB := Lib.hid (HB.out.trans hK.below)
  replace HK := Lib.hid (HK.out.trans hK.keeps)
  replace HX := Lib.hid (HX.out.keeps hK.keeps (by decide))
  replace R6 := Lib.hid (rows_keeps R6.out hK.keeps (by decide))
  replace R7 := Lib.hid (rows_keeps R7.out hK.keeps (by decide))
  have hd7 := Lib.hid hd
  obtain ⟨b8, rfl, rfl⟩ := hv.txt
  replace HR := Lib.hid hR
  have hsz7 := HK.out.size
  have hfz7 : w7.frozen? ⟨w.heap.size, 8, none⟩ = false := HX.out.frozen 8
  have hcx7_0 : w7.cell? ⟨w.heap.size, 8, none⟩ = some (.string ⟨#[]⟩) := HX.out.cell 8
  clear hd hR hK hv
  have HY : Hid (Blk (w7.setCell ⟨w.heap.size, 8, none⟩ (.string (text b8))) w.heap.size 33 [.int .i64 n0, .int .i64 n1, .int .i64 n2, .int .i64 n3, .int .i64 n4, .int .i64 n5, .slice A6 r6.length k6, .slice A7 r7.length k7, .string (text b8), .int .i64 0, .int .i64 0, .int .i64 0, .slice none 0 0, .slice none 0 0, .string ⟨#[]⟩]) := Lib.hid (HX.out.set_ 8 (.string (text b8)))
  have HKA : Hid (Keeps [33] w7 (w7.setCell ⟨w.heap.size, 8, none⟩ (.string (text b8)))) := Lib.hid ((Keeps.refl _ _).trans (Keeps.set_ HX.out.typ (by simp) (.string (text b8))))
  have HBA : Hid (Below w.heap.size w7 (w7.setCell ⟨w.heap.size, 8, none⟩ (.string (text b8)))) := Lib.hid ((Below.refl w.heap.size w7).setCell (Nat.le_refl _) _)
  replace HX := HY
  replace HR := Lib.hid (HR.out.keeps HKA.out (HBA.out.mono hlt) (by decide) (by decide) (by decide))
  replace R6 := Lib.hid (rows_keeps R6.out HKA.out (by decide))
  replace R7 := Lib.hid (rows_keeps R7.out HKA.out (by decide))
  replace HB := Lib.hid (HB.out.trans (HBA.out.mono hlt))
  replace HK := Lib.hid (HK.out.below_new HBA.out)
  clear HY HKA HBA
  go_wp2_with fail
  refine (R_num base g l7 _ HR.out).mono ?_
  rintro e w8 ⟨hE, hK⟩
  rcases hE with ⟨d9, l8, v9, hd, rfl, hv, hR⟩ | ⟨hd, rfl⟩
  rotate_left
  · refine ⟨rfl, .inr ⟨?_, rfl⟩, HB.out.trans hK.below, HK.out.trans hK.keeps⟩
    rw [shRecord, rds_some hd0.out, rds_some hd1.out, rds_some hd2.out, rds_some hd3.out, rds_some hd4.out, rds_some hd5.out, hd6.out, rds_some hd7.out, rds_none hd]
    rfl
  replace HB := Lib.hid (HB.out.trans hK.below)
  replace HK := Lib.hid (HK.out.trans hK.keeps)
  replace HX := Lib.hid (HX.out.keeps hK.keeps (by decide))
  replace R6 := Lib.hid (rows_keeps R6.out hK.keeps (by decide))
  replace R7 := Lib.hid (rows_keeps R7.out hK.keeps (by decide))
  have hd8 := Lib.hid hd
  obtain ⟨n9, rfl, rfl⟩ := hv.num
  replace HR := Lib.hid hR
  have hsz8 := HK.out.size
  have hfz8 : w8.frozen? ⟨w.heap.size, 9, none⟩ = false := HX.out.frozen 9
  have hcx8_0 : w8.cell? ⟨w.heap.size, 9, none⟩ = some (.int .i64 0) := HX.out.cell 9
  clear hd hR hK hv
  have HY : Hid (Blk (w8.setCell ⟨w.heap.size, 9, none⟩ (.int .i64 n9)) w.heap.size 33 [.int .i64 n0, .int .i64 n1, .int .i64 n2, .int .i64 n3, .int .i64 n4, .int .i64 n5, .slice A6 r6.length k6, .slice A7 r7.length k7, .string (text b8), .int .i64 n9, .int .i64 0, .int .i64 0, .slice none 0 0, .slice none 0 0, .string ⟨#[]⟩]) := Lib.hid (HX.out.set_ 9 (.int .i64 n9))
  have HKA : Hid (Keeps [33] w8 (w8.setCell ⟨w.heap.size, 9, none⟩ (.int .i64 n9))) := Lib.hid ((Keeps.refl _ _).trans (Keeps.set_ HX.out.typ (by simp) (.int .i64 n9)))
  have HBA : Hid (Below w.heap.size w8 (w8.setCell ⟨w.heap.size, 9, none⟩ (.int .i64 n9))) := Lib.hid ((Below.refl w.heap.size w8).setCell (Nat.le_refl _) _)
  replace HX := HY
  replace HR := Lib.hid (HR.out.keeps HKA.out (HBA.out.mono hlt) (by decide) (by decide) (by decide))
  replace R6 := Lib.hid (rows_keeps R6.out HKA.out (by decide))
  replace R7 := Lib.hid (rows_keeps R7.out HKA.out (by decide))
  replace HB := Lib.hid (HB.out.trans (HBA.out.mono hlt))
  replace HK := Lib.hid (HK.out.below_new HBA.out)
  clear HY HKA HBA
  go_wp2_with fail
  refine (R_num base g l8 _ HR.out).mono ?_
  rintro e w9 ⟨hE, hK⟩
  rcases hE with ⟨d10, l9, v10, hd, rfl, hv, hR⟩ | ⟨hd, rfl⟩
  rotate_left
  · refine ⟨rfl, .inr ⟨?_, rfl⟩, HB.out.trans hK.below, HK.out.trans hK.keeps⟩
    rw [shRecord, rds_some hd0.out, rds_some hd1.out, rds_some hd2.out, rds_some hd3.out, rds_some hd4.out, rds_some hd5.out, hd6.out, rds_some hd7.out, rds_some hd8.out, rds_none hd]
    rfl
  replace HB := Lib.hid (HB.out.trans hK.below)
  replace HK := Lib.hid (HK.out.trans hK.keeps)
  replace HX := Lib.hid (HX.out.keeps hK.keeps (by decide))
  replace R6 := Lib.hid (rows_keeps R6.out hK.keeps (by decide))
  replace R7 := Lib.hid (rows_keeps R7.out hK.keeps (by decide))
  have hd9 := Lib.hid hd
  obtain ⟨n10, rfl, rfl⟩ := hv.num
  replace HR := Lib.hid hR
  have hsz9 := HK.out.size
  have hfz9 : w9.frozen? ⟨w.heap.size, 10, none⟩ = false := HX.out.frozen 10
  have hcx9_0 : w9.cell? ⟨w.heap.size, 10, none⟩ = some (.int .i64 0) := HX.out.cell 10
  clear hd hR hK hv
  have HY : Hid (Blk (w9.setCell ⟨w.heap.size, 10, none⟩ (.int .i64 n10)) w.heap.size 33 [.int .i64 n0, .int .i64 n1, .int .i64 n2, .int .i64 n3, .int .i64 n4, .int .i64 n5, .slice A6 r6.length k6, .slice A7 r7.length k7, .string (text b8), .int .i64 n9, .int .i64 n10, .int .i64 0, .slice none 0 0, .slice none 0 0, .string ⟨#[]⟩]) := Lib.hid (HX.out.set_ 10 (.int .i64 n10))
  have HKA : Hid (Keeps [33] w9 (w9.setCell ⟨w.heap.size, 10, none⟩ (.int .i64 n10))) := Lib.hid ((Keeps.refl _ _).trans (Keeps.set_ HX.out.typ (by simp) (.int .i64 n10)))
  have HBA : Hid (Below w.heap.size w9 (w9.setCell ⟨w.heap.size, 10, none⟩ (.int .i64 n10))) := Lib.hid ((Below.refl w.heap.size w9).setCell (Nat.le_refl _) _)
  replace HX := HY
  replace HR := Lib.hid (HR.out.keeps HKA.out (HBA.out.mono hlt) (by decide) (by decide) (by decide))
  replace R6 := Lib.hid (rows_keeps R6.out HKA.out (by decide))
  replace R7 := Lib.hid (rows_keeps R7.out HKA.out (by decide))
  replace HB := Lib.hid (HB.out.trans (HBA.out.mono hlt))
  replace HK := Lib.hid (HK.out.below_new HBA.out)
  clear HY HKA HBA
  go_wp2_with fail
  refine (R_num base g l9 _ HR.out).mono ?_
  rintro e w10 ⟨hE, hK⟩
  rcases hE with ⟨d11, l10, v11, hd, rfl, hv, hR⟩ | ⟨hd, rfl⟩
  rotate_left
  · refine ⟨rfl, .inr ⟨?_, rfl⟩, HB.out.trans hK.below, HK.out.trans hK.keeps⟩
    rw [shRecord, rds_some hd0.out, rds_some hd1.out, rds_some hd2.out, rds_some hd3.out, rds_some hd4.out, rds_some hd5.out, hd6.out, rds_some hd7.out, rds_some hd8.out, rds_some hd9.out, rds_none hd]
    rfl
  replace HB := Lib.hid (HB.out.trans hK.below)
  replace HK := Lib.hid (HK.out.trans hK.keeps)
  replace HX := Lib.hid (HX.out.keeps hK.keeps (by decide))
  replace R6 := Lib.hid (rows_keeps R6.out hK.keeps (by decide))
  replace R7 := Lib.hid (rows_keeps R7.out hK.keeps (by decide))
  have hd10 := Lib.hid hd
  obtain ⟨n11, rfl, rfl⟩ := hv.num
  replace HR := Lib.hid hR
  have hsz10 := HK.out.size
  have hfz10 : w10.frozen? ⟨w.heap.size, 11, none⟩ = false := HX.out.frozen 11
  have hcx10_0 : w10.cell? ⟨w.heap.size, 11, none⟩ = some (.int .i64 0) := HX.out.cell 11
  clear hd hR hK hv
  have HY : Hid (Blk (w10.setCell ⟨w.heap.size, 11, none⟩ (.int .i64 n11)) w.heap.size 33 [.int .i64 n0, .int .i64 n1, .int .i64 n2, .int .i64 n3, .int .i64 n4, .int .i64 n5, .slice A6 r6.length k6, .slice A7 r7.length k7, .string (text b8), .int .i64 n9, .int .i64 n10, .int .i64 n11, .slice none 0 0, .slice none 0 0, .string ⟨#[]⟩]) := Lib.hid (HX.out.set_ 11 (.int .i64 n11))
  have HKA : Hid (Keeps [33] w10 (w10.setCell ⟨w.heap.size, 11, none⟩ (.int .i64 n11))) := Lib.hid ((Keeps.refl _ _).trans (Keeps.set_ HX.out.typ (by simp) (.int .i64 n11)))
  have HBA : Hid (Below w.heap.size w10 (w10.setCell ⟨w.heap.size, 11, none⟩ (.int .i64 n11))) := Lib.hid ((Below.refl w.heap.size w10).setCell (Nat.le_refl _) _)
  replace HX := HY
  replace HR := Lib.hid (HR.out.keeps HKA.out (HBA.out.mono hlt) (by decide) (by decide) (by decide))
  replace R6 := Lib.hid (rows_keeps R6.out HKA.out (by decide))
  replace R7 := Lib.hid (rows_keeps R7.out HKA.out (by decide))
  replace HB := Lib.hid (HB.out.trans (HBA.out.mono hlt))
  replace HK := Lib.hid (HK.out.below_new HBA.out)
  clear HY HKA HBA
  go_wp2_with fail
  refine (R_config base g l10 _ HR.out).mono ?_
  rintro e w11 ⟨hE, hK⟩
  rcases hE with ⟨ds12, l11, vs12, hd, rfl, hv, hR⟩ | ⟨hd, rfl⟩
  rotate_left
  · refine ⟨rfl, .inr ⟨?_, rfl⟩, HB.out.trans hK.below, HK.out.trans hK.keeps⟩
    rw [shRecord, rds_some hd0.out, rds_some hd1.out, rds_some hd2.out, rds_some hd3.out, rds_some hd4.out, rds_some hd5.out, hd6.out, rds_some hd7.out, rds_some hd8.out, rds_some hd9.out, rds_some hd10.out]
    have hn := rds_append_none [.text] hd
    replace hn : rds [.rows [.num], .rows [.num], .text] l10 = none := hn
    rw [hn]
    rfl
  replace HB := Lib.hid (HB.out.trans hK.below)
  replace HK := Lib.hid (HK.out.trans hK.keeps)
  replace HX := Lib.hid (HX.out.keeps hK.keeps (by decide))
  replace R6 := Lib.hid (rows_keeps R6.out hK.keeps (by decide))
  replace R7 := Lib.hid (rows_keeps R7.out hK.keeps (by decide))
  replace hv : Cels _ _ [.rows [.num], .rows [.num]] ds12 vs12 := hv
  obtain ⟨_, _, _, _, rfl, rfl, c12, hv⟩ := hv.cons
  obtain ⟨_, _, _, _, rfl, rfl, c13, hv⟩ := hv.cons
  obtain ⟨rfl, rfl⟩ := hv.nil
  obtain ⟨r12, A12, k12, rfl, rfl, R12⟩ := c12.rows
  replace R12 := Lib.hid R12
  obtain ⟨r13, A13, k13, rfl, rfl, R13⟩ := c13.rows
  replace R13 := Lib.hid R13
  have hs11 := rds_append_some [.text] hd
  have hd11 : Hid (rds [.rows [.num], .rows [.num], .text] l10 = _) := Lib.hid hs11
  clear hs11
  replace HR := Lib.hid hR
  have hsz11 := HK.out.size
  have hfz11 : w11.frozen? ⟨w.heap.size, 12, none⟩ = false := HX.out.frozen 12
  have hcx11_0 : w11.cell? ⟨w.heap.size, 12, none⟩ = some (.slice none 0 0) := HX.out.cell 12
  have hcx11_1 : w11.cell? ⟨w.heap.size, 13, none⟩ = some (.slice none 0 0) := HX.out.cell 13
  have hfz11_1 : w11.frozen? ⟨w.heap.size, 13, none⟩ = false := HX.out.frozen 13
  clear hd hR hK 
  have HY : Hid (Blk ((w11.setCell ⟨w.heap.size, 12, none⟩ (.slice A12 r12.length k12)).setCell ⟨w.heap.size, 13, none⟩ (.slice A13 r13.length k13)) w.heap.size 33 [.int .i64 n0, .int .i64 n1, .int .i64 n2, .int .i64 n3, .int .i64 n4, .int .i64 n5, .slice A6 r6.length k6, .slice A7 r7.length k7, .string (text b8), .int .i64 n9, .int .i64 n10, .int .i64 n11, .slice A12 r12.length k12, .slice A13 r13.length k13, .string ⟨#[]⟩]) := Lib.hid ((HX.out.set_ 12 (.slice A12 r12.length k12)).set_ 13 (.slice A13 r13.length k13))
  have HKA : Hid (Keeps [33] w11 ((w11.setCell ⟨w.heap.size, 12, none⟩ (.slice A12 r12.length k12)).setCell ⟨w.heap.size, 13, none⟩ (.slice A13 r13.length k13))) := Lib.hid (((Keeps.refl _ _).trans (Keeps.set_ HX.out.typ (by simp) (.slice A12 r12.length k12))).trans (Keeps.set_ (HX.out.set_ 12 (.slice A12 r12.length k12)).typ (by simp) (.slice A13 r13.length k13)))
  have HBA : Hid (Below w.heap.size w11 ((w11.setCell ⟨w.heap.size, 12, none⟩ (.slice A12 r12.length k12)).setCell ⟨w.heap.size, 13, none⟩ (.slice A13 r13.length k13))) := Lib.hid (((Below.refl w.heap.size w11).setCell (Nat.le_refl _) _).setCell (Nat.le_refl _) _)
  replace HX := HY
  replace HR := Lib.hid (HR.out.keeps HKA.out (HBA.out.mono hlt) (by decide) (by decide) (by decide))
  replace R6 := Lib.hid (rows_keeps R6.out HKA.out (by decide))
  replace R7 := Lib.hid (rows_keeps R7.out HKA.out (by decide))
  replace R12 := Lib.hid (rows_keeps R12.out HKA.out (by decide))
  replace R13 := Lib.hid (rows_keeps R13.out HKA.out (by decide))
  replace HB := Lib.hid (HB.out.trans (HBA.out.mono hlt))
  replace HK := Lib.hid (HK.out.below_new HBA.out)
  clear HY HKA HBA
  go_wp2_with fail
  refine (R_text base g l11 _ HR.out).mono ?_
  rintro e w12 ⟨hE, hK⟩
  rcases hE with ⟨d14, l12, v14, hd, rfl, hv, hR⟩ | ⟨hd, rfl⟩
  rotate_left
  · refine ⟨rfl, .inr ⟨?_, rfl⟩, HB.out.trans hK.below, HK.out.trans hK.keeps⟩
    rw [shRecord, rds_some hd0.out, rds_some hd1.out, rds_some hd2.out, rds_some hd3.out, rds_some hd4.out, rds_some hd5.out, hd6.out, rds_some hd7.out, rds_some hd8.out, rds_some hd9.out, rds_some hd10.out, hd11.out, rds_none hd]
    rfl
  replace HB := Lib.hid (HB.out.trans hK.below)
  replace HK := Lib.hid (HK.out.trans hK.keeps)
  replace HX := Lib.hid (HX.out.keeps hK.keeps (by decide))
  replace R6 := Lib.hid (rows_keeps R6.out hK.keeps (by decide))
  replace R7 := Lib.hid (rows_keeps R7.out hK.keeps (by decide))
  replace R12 := Lib.hid (rows_keeps R12.out hK.keeps (by decide))
  replace R13 := Lib.hid (rows_keeps R13.out hK.keeps (by decide))
  have hd12 := Lib.hid hd
  obtain ⟨b14, rfl, rfl⟩ := hv.txt
  replace HR := Lib.hid hR
  have hsz12 := HK.out.size
  have hfz12 : w12.frozen? ⟨w.heap.size, 14, none⟩ = false := HX.out.frozen 14
  have hcx12_0 : w12.cell? ⟨w.heap.size, 14, none⟩ = some (.string ⟨#[]⟩) := HX.out.cell 14
  clear hd hR hK hv
  have HY : Hid (Blk (w12.setCell ⟨w.heap.size, 14, none⟩ (.string (text b14))) w.heap.size 33 [.int .i64 n0, .int .i64 n1, .int .i64 n2, .int .i64 n3, .int .i64 n4, .int .i64 n5, .slice A6 r6.length k6, .slice A7 r7.length k7, .string (text b8), .int .i64 n9, .int .i64 n10, .int .i64 n11, .slice A12 r12.length k12, .slice A13 r13.length k13, .string (text b14)]) := Lib.hid (HX.out.set_ 14 (.string (text b14)))
  have HKA : Hid (Keeps [33] w12 (w12.setCell ⟨w.heap.size, 14, none⟩ (.string (text b14)))) := Lib.hid ((Keeps.refl _ _).trans (Keeps.set_ HX.out.typ (by simp) (.string (text b14))))
  have HBA : Hid (Below w.heap.size w12 (w12.setCell ⟨w.heap.size, 14, none⟩ (.string (text b14)))) := Lib.hid ((Below.refl w.heap.size w12).setCell (Nat.le_refl _) _)
  replace HX := HY
  replace HR := Lib.hid (HR.out.keeps HKA.out (HBA.out.mono hlt) (by decide) (by decide) (by decide))
  replace R6 := Lib.hid (rows_keeps R6.out HKA.out (by decide))
  replace R7 := Lib.hid (rows_keeps R7.out HKA.out (by decide))
  replace R12 := Lib.hid (rows_keeps R12.out HKA.out (by decide))
  replace R13 := Lib.hid (rows_keeps R13.out HKA.out (by decide))
  replace HB := Lib.hid (HB.out.trans (HBA.out.mono hlt))
  replace HK := Lib.hid (HK.out.below_new HBA.out)
  clear HY HKA HBA
  have HRG := Lib.hid HX.out.range0
  have HTE : Hid (World.there _ w.heap.size 0 (List.toArray ([.int .i64 n0, .int .i64 n1, .int .i64 n2, .int .i64 n3, .int .i64 n4, .int .i64 n5, .slice A6 r6.length k6, .slice A7 r7.length k7, .string (text b8), .int .i64 n9, .int .i64 n10, .int .i64 n11, .slice A12 r12.length k12, .slice A13 r13.length k13, .string (text b14)] : List Value)).size) := Lib.hid (HX.out.there 0 15 (by simp))
  have hiV : Hid ((Tryz.prog.info? 33).map (·.size) = some (List.length ([.int .i64 n0, .int .i64 n1, .int .i64 n2, .int .i64 n3, .int .i64 n4, .int .i64 n5, .slice A6 r6.length k6, .slice A7 r7.length k7, .string (text b8), .int .i64 n9, .int .i64 n10, .int .i64 n11, .slice A12 r12.length k12, .slice A13 r13.length k13, .string (text b14)] : List Value))) := Lib.hid hi.out
  have hsV : Hid ((Tryz.prog.info? 33).map (·.size) = some (List.toArray ([.int .i64 n0, .int .i64 n1, .int .i64 n2, .int .i64 n3, .int .i64 n4, .int .i64 n5, .slice A6 r6.length k6, .slice A7 r7.length k7, .string (text b8), .int .i64 n9, .int .i64 n10, .int .i64 n11, .slice A12 r12.length k12, .slice A13 r13.length k13, .string (text b14)] : List Value)).size) := Lib.hid hi.out
  have h1V : Hid ((List.toArray ([.int .i64 n0, .int .i64 n1, .int .i64 n2, .int .i64 n3, .int .i64 n4, .int .i64 n5, .slice A6 r6.length k6, .slice A7 r7.length k7, .string (text b8), .int .i64 n9, .int .i64 n10, .int .i64 n11, .slice A12 r12.length k12, .slice A13 r13.length k13, .string (text b14)] : List Value)).all (·.oneCell') = true) := Lib.hid (all_oneCell_toArray (by simp [Value.oneCell']))
  go_wp2_with (first | (with_reducible refine wpList_load_mid rfl 33 _ rfl w.heap.size 0 rfl [.int .i64 n0, .int .i64 n1, .int .i64 n2, .int .i64 n3, .int .i64 n4, .int .i64 n5, .slice A6 r6.length k6, .slice A7 r7.length k7, .string (text b8), .int .i64 n9, .int .i64 n10, .int .i64 n11, .slice A12 r12.length k12, .slice A13 r13.length k13, .string (text b14)] _ HRG.out Tryz.underlying33 rfl hiV.out ?_) | (with_reducible refine wpList_store_mid rfl 33 _ _ rfl w.heap.size 0 (List.toArray ([.int .i64 n0, .int .i64 n1, .int .i64 n2, .int .i64 n3, .int .i64 n4, .int .i64 n5, .slice A6 r6.length k6, .slice A7 r7.length k7, .string (text b8), .int .i64 n9, .int .i64 n10, .int .i64 n11, .slice A12 r12.length k12, .slice A13 r13.length k13, .string (text b14)] : List Value)) rfl rfl HTE.out hsV.out h1V.out ?_))
  have HXE := Lib.hid (HX.out.setCells0 [.int .i64 n0, .int .i64 n1, .int .i64 n2, .int .i64 n3, .int .i64 n4, .int .i64 n5, .slice A6 r6.length k6, .slice A7 r7.length k7, .string (text b8), .int .i64 n9, .int .i64 n10, .int .i64 n11, .slice A12 r12.length k12, .slice A13 r13.length k13, .string (text b14)] rfl)
  have HKE := Lib.hid (Keeps.setCells (ts := [33]) (t := 33) (by simp) HX.out.typ 0 [.int .i64 n0, .int .i64 n1, .int .i64 n2, .int .i64 n3, .int .i64 n4, .int .i64 n5, .slice A6 r6.length k6, .slice A7 r7.length k7, .string (text b8), .int .i64 n9, .int .i64 n10, .int .i64 n11, .slice A12 r12.length k12, .slice A13 r13.length k13, .string (text b14)])
  refine bodyPost_ret (results_cell rfl _ _ w.heap.size rfl [.int .i64 n0, .int .i64 n1, .int .i64 n2, .int .i64 n3, .int .i64 n4, .int .i64 n5, .slice A6 r6.length k6, .slice A7 r7.length k7, .string (text b8), .int .i64 n9, .int .i64 n10, .int .i64 n11, .slice A12 r12.length k12, .slice A13 r13.length k13, .string (text b14)] _ HXE.out.range0 Tryz.underlying33 rfl hi.out) rfl ?_
  refine ⟨.inl ⟨[.int n0, .int n1, .int n2, .int n3, .int n4, .int n5, .rows r6, .rows r7, .text b8, .int n9, .int n10, .int n11, .rows r12, .rows r13, .text b14], l12, [.int .i64 n0, .int .i64 n1, .int .i64 n2, .int .i64 n3, .int .i64 n4, .int .i64 n5, .slice A6 r6.length k6, .slice A7 r7.length k7, .string (text b8), .int .i64 n9, .int .i64 n10, .int .i64 n11, .slice A12 r12.length k12, .slice A13 r13.length k13, .string (text b14)], ?_, rfl, ?_, HR.out.keeps HKE.out (below_setCells_ hlt _ _) (by decide) (by decide) (by decide)⟩, HB.out.trans (below_setCells_ hlt _ _), HK.out.below_new (below_setCells_ (Nat.le_refl _) _ _)⟩
  · rw [shRecord, rds_some hd0.out, rds_some hd1.out, rds_some hd2.out, rds_some hd3.out, rds_some hd4.out, rds_some hd5.out, hd6.out, rds_some hd7.out, rds_some hd8.out, rds_some hd9.out, rds_some hd10.out, hd11.out, rds_some hd12.out, rds_nil]
    rfl
  · exact (Cels.mk (Cel.mk_num n0) (Cels.mk (Cel.mk_num n1) (Cels.mk (Cel.mk_num n2) (Cels.mk (Cel.mk_num n3) (Cels.mk (Cel.mk_num n4) (Cels.mk (Cel.mk_num n5) (Cels.mk (((Cel.mk_rows k6 R6.out).keeps HKE.out (by decide)).inT_more (by decide)) (Cels.mk (((Cel.mk_rows k7 R7.out).keeps HKE.out (by decide)).inT_more (by decide)) (Cels.mk (Cel.mk_text b8) (Cels.mk (Cel.mk_num n9) (Cels.mk (Cel.mk_num n10) (Cels.mk (Cel.mk_num n11) (Cels.mk (((Cel.mk_rows k12 R12.out).keeps HKE.out (by decide)).inT_more (by decide)) (Cels.mk (((Cel.mk_rows k13 R13.out).keeps HKE.out (by decide)).inT_more (by decide)) (Cels.mk (Cel.mk_text b14) Cels.mk0)))))))))))))))
end Go.Proofs.YtkdmfjpfanmgmaaGreatDoor
