/- The walks of the reference that reads: lists and structs. Printed by mkcu.py. -/
import Derived.Test.YteohhgkehkmgcaaGreatCu7
namespace Go.Proofs.YteohhgkehkmgcaaGreat
open Go.RowKit Le
set_option maxRecDepth 100000
set_option linter.unusedVariables false
set_option linter.unusedSimpArgs false

theorem setCells_size (b : Nat) : ∀ (w : World) (o : Nat) (vs : List Value), (w.setCells b o vs).heap.size = w.heap.size
  | _, _, [] => rfl
  | w, o, u :: r => by
    rw [World.setCells, setCells_size b _ (o + 1) r]
    simp [World.setCell]
set_option maxHeartbeats 1600000 in
theorem C_table (base g : Nat) (o : Option (List UInt8)) (w : World) (h : CutAt w base g o) :
    Calls Tryz.prog 80 #[.pointer (some ⟨g, 0, none⟩)] w fun e w' => (∃ vs, e = .returned (.agg vs.toArray) ∧ Kinds shTable vs) ∧ CutAt w' base g (stepS shTable o) ∧ Cuts base w w' := by
  have hi : (Tryz.prog.info? 134).map (·.size) = some 5 := by kernel_rfl
  replace hi := Lib.hid hi
  have hbs := h.lt
  have hgx : w.heap.size ≤ w.heap.size + 1 := Nat.le_succ _
  have HX : Hid (Blk ((w.alloc (.cells #[.string ⟨#[]⟩, .string ⟨#[]⟩, .string ⟨#[]⟩, .slice none 0 0, .slice none 0 0] 134)).alloc (.cells #[.string ⟨#[]⟩, .string ⟨#[]⟩, .string ⟨#[]⟩, .slice none 0 0, .slice none 0 0] 134)) (w.heap.size + 1) 134 [.string ⟨#[]⟩, .string ⟨#[]⟩, .string ⟨#[]⟩, .slice none 0 0, .slice none 0 0]) := Lib.hid (by have := Blk.new (w.alloc (.cells #[.string ⟨#[]⟩, .string ⟨#[]⟩, .string ⟨#[]⟩, .slice none 0 0, .slice none 0 0] 134)) 134 [.string ⟨#[]⟩, .string ⟨#[]⟩, .string ⟨#[]⟩, .slice none 0 0, .slice none 0 0]; simpa using this)
  have HRes : Hid (Blk ((w.alloc (.cells #[.string ⟨#[]⟩, .string ⟨#[]⟩, .string ⟨#[]⟩, .slice none 0 0, .slice none 0 0] 134)).alloc (.cells #[.string ⟨#[]⟩, .string ⟨#[]⟩, .string ⟨#[]⟩, .slice none 0 0, .slice none 0 0] 134)) w.heap.size 134 [.string ⟨#[]⟩, .string ⟨#[]⟩, .string ⟨#[]⟩, .slice none 0 0, .slice none 0 0]) := Lib.hid ((Blk.new w 134 [.string ⟨#[]⟩, .string ⟨#[]⟩, .string ⟨#[]⟩, .slice none 0 0, .slice none 0 0]).alloc _)
  have hbw : Below w.heap.size w ((w.alloc (.cells #[.string ⟨#[]⟩, .string ⟨#[]⟩, .string ⟨#[]⟩, .slice none 0 0, .slice none 0 0] 134)).alloc (.cells #[.string ⟨#[]⟩, .string ⟨#[]⟩, .string ⟨#[]⟩, .slice none 0 0, .slice none 0 0] 134)) := ((Below.refl _ _).alloc (Nat.le_refl _) _).alloc (by simp) _
  have HTZ : Hid (World.there ((w.alloc (.cells #[.string ⟨#[]⟩, .string ⟨#[]⟩, .string ⟨#[]⟩, .slice none 0 0, .slice none 0 0] 134)).alloc (.cells #[.string ⟨#[]⟩, .string ⟨#[]⟩, .string ⟨#[]⟩, .slice none 0 0, .slice none 0 0] 134)) (w.heap.size + 1) 0 (List.toArray ([.string ⟨#[]⟩, .string ⟨#[]⟩, .string ⟨#[]⟩, .slice none 0 0, .slice none 0 0] : List Value)).size) := Lib.hid (HX.out.there 0 5 (by simp))
  have hsZ : Hid ((Tryz.prog.info? 134).map (·.size) = some (List.toArray ([.string ⟨#[]⟩, .string ⟨#[]⟩, .string ⟨#[]⟩, .slice none 0 0, .slice none 0 0] : List Value)).size) := Lib.hid (by kernel_rfl)
  have h1Z : Hid ((List.toArray ([.string ⟨#[]⟩, .string ⟨#[]⟩, .string ⟨#[]⟩, .slice none 0 0, .slice none 0 0] : List Value)).all (·.oneCell') = true) := Lib.hid (all_oneCell_toArray (by simp [Value.oneCell']))
  have hbw3 : Below w.heap.size w (((w.alloc (.cells #[.string ⟨#[]⟩, .string ⟨#[]⟩, .string ⟨#[]⟩, .slice none 0 0, .slice none 0 0] 134)).alloc (.cells #[.string ⟨#[]⟩, .string ⟨#[]⟩, .string ⟨#[]⟩, .slice none 0 0, .slice none 0 0] 134)).setCells (w.heap.size + 1) 0 [.string ⟨#[]⟩, .string ⟨#[]⟩, .string ⟨#[]⟩, .slice none 0 0, .slice none 0 0]) := hbw.trans (below_setCells_ hgx 0 [.string ⟨#[]⟩, .string ⟨#[]⟩, .string ⟨#[]⟩, .slice none 0 0, .slice none 0 0])
  have HR := Lib.hid (h.below_ hbw3)
  have HB : Hid (Below base w (((w.alloc (.cells #[.string ⟨#[]⟩, .string ⟨#[]⟩, .string ⟨#[]⟩, .slice none 0 0, .slice none 0 0] 134)).alloc (.cells #[.string ⟨#[]⟩, .string ⟨#[]⟩, .string ⟨#[]⟩, .slice none 0 0, .slice none 0 0] 134)).setCells (w.heap.size + 1) 0 [.string ⟨#[]⟩, .string ⟨#[]⟩, .string ⟨#[]⟩, .slice none 0 0, .slice none 0 0])) := Lib.hid (hbw3.mono hbs)
  have HK : Hid (Keeps [108, 106] w (((w.alloc (.cells #[.string ⟨#[]⟩, .string ⟨#[]⟩, .string ⟨#[]⟩, .slice none 0 0, .slice none 0 0] 134)).alloc (.cells #[.string ⟨#[]⟩, .string ⟨#[]⟩, .string ⟨#[]⟩, .slice none 0 0, .slice none 0 0] 134)).setCells (w.heap.size + 1) 0 [.string ⟨#[]⟩, .string ⟨#[]⟩, .string ⟨#[]⟩, .slice none 0 0, .slice none 0 0])) := Lib.hid (Keeps.of_below hbw3 (Nat.le_refl _))
  replace HX : Hid (Blk (((w.alloc (.cells #[.string ⟨#[]⟩, .string ⟨#[]⟩, .string ⟨#[]⟩, .slice none 0 0, .slice none 0 0] 134)).alloc (.cells #[.string ⟨#[]⟩, .string ⟨#[]⟩, .string ⟨#[]⟩, .slice none 0 0, .slice none 0 0] 134)).setCells (w.heap.size + 1) 0 [.string ⟨#[]⟩, .string ⟨#[]⟩, .string ⟨#[]⟩, .slice none 0 0, .slice none 0 0]) (w.heap.size + 1) 134 [.string ⟨#[]⟩, .string ⟨#[]⟩, .string ⟨#[]⟩, .slice none 0 0, .slice none 0 0]) := Lib.hid (HX.out.setCells0 [.string ⟨#[]⟩, .string ⟨#[]⟩, .string ⟨#[]⟩, .slice none 0 0, .slice none 0 0] rfl)
  replace HRes : Hid (Blk (((w.alloc (.cells #[.string ⟨#[]⟩, .string ⟨#[]⟩, .string ⟨#[]⟩, .slice none 0 0, .slice none 0 0] 134)).alloc (.cells #[.string ⟨#[]⟩, .string ⟨#[]⟩, .string ⟨#[]⟩, .slice none 0 0, .slice none 0 0] 134)).setCells (w.heap.size + 1) 0 [.string ⟨#[]⟩, .string ⟨#[]⟩, .string ⟨#[]⟩, .slice none 0 0, .slice none 0 0]) w.heap.size 134 [.string ⟨#[]⟩, .string ⟨#[]⟩, .string ⟨#[]⟩, .slice none 0 0, .slice none 0 0]) := Lib.hid (Blk.far_setCells (by omega) 0 [.string ⟨#[]⟩, .string ⟨#[]⟩, .string ⟨#[]⟩, .slice none 0 0, .slice none 0 0] HRes.out)
  clear h hbw hbw3
  go_enter Tryz.func80, Tryz.ntmps80
  go_wp2_with (with_reducible refine wpList_store_mid rfl 134 _ _ rfl (w.heap.size + 1) 0 (List.toArray ([.string ⟨#[]⟩, .string ⟨#[]⟩, .string ⟨#[]⟩, .slice none 0 0, .slice none 0 0] : List Value)) rfl rfl HTZ.out hsZ.out h1Z.out ?_)
  refine (C_text base g (o) _ HR.out).mono ?_
  rintro e ws4_0 ⟨⟨v, rfl, _⟩, hA, hK⟩
  obtain ⟨bw0, rfl⟩ : ∃ x, x = v := ⟨v, rfl⟩
  replace HR := Lib.hid hA
  replace HB := Lib.hid (HB.out.trans hK.below)
  replace HK := Lib.hid (HK.out.trans hK.keeps)
  replace HX := Lib.hid (HX.out.keeps hK.keeps (by decide))
  replace HRes := Lib.hid (HRes.out.keeps hK.keeps (by decide))
  have hszws4_0 := HK.out.size
  clear hA hK
  have hcxws4_0_0 : ws4_0.cell? ⟨w.heap.size + 1, 0, none⟩ = some (.string ⟨#[]⟩) := HX.out.cell 0
  have hfzws4_0_0 : ws4_0.frozen? ⟨w.heap.size + 1, 0, none⟩ = false := HX.out.frozen 0
  have HY : Hid (Blk (ws4_0.setCell ⟨w.heap.size + 1, 0, none⟩ (.string bw0)) (w.heap.size + 1) 134 [.string bw0, .string ⟨#[]⟩, .string ⟨#[]⟩, .slice none 0 0, .slice none 0 0]) := Lib.hid (HX.out.set_ 0 (.string bw0))
  have HKA : Hid (Keeps [134] ws4_0 (ws4_0.setCell ⟨w.heap.size + 1, 0, none⟩ (.string bw0))) := Lib.hid ((Keeps.refl _ _).trans (Keeps.set_ HX.out.typ (by simp) (.string bw0)))
  have HBA : Hid (Below w.heap.size ws4_0 (ws4_0.setCell ⟨w.heap.size + 1, 0, none⟩ (.string bw0))) := Lib.hid ((Below.refl w.heap.size ws4_0).setCell hgx _)
  replace HRes := Lib.hid (HRes.out.far (p := ⟨w.heap.size + 1, 0, none⟩) (by dsimp only; omega) (.string bw0))
  replace HX := HY
  replace HR := Lib.hid (HR.out.keeps HKA.out (HBA.out.mono hbs) (by decide) (by decide))
  replace HB := Lib.hid (HB.out.trans (HBA.out.mono hbs))
  replace HK := Lib.hid (HK.out.below_new HBA.out)
  clear HY HKA HBA
  go_wp2_with fail
  refine (C_text base g (stepO .text (o)) _ HR.out).mono ?_
  rintro e ws4_1 ⟨⟨v, rfl, _⟩, hA, hK⟩
  obtain ⟨bw1, rfl⟩ : ∃ x, x = v := ⟨v, rfl⟩
  replace HR := Lib.hid hA
  replace HB := Lib.hid (HB.out.trans hK.below)
  replace HK := Lib.hid (HK.out.trans hK.keeps)
  replace HX := Lib.hid (HX.out.keeps hK.keeps (by decide))
  replace HRes := Lib.hid (HRes.out.keeps hK.keeps (by decide))
  have hszws4_1 := HK.out.size
  clear hA hK
  have hcxws4_1_0 : ws4_1.cell? ⟨w.heap.size + 1, 1, none⟩ = some (.string ⟨#[]⟩) := HX.out.cell 1
  have hfzws4_1_0 : ws4_1.frozen? ⟨w.heap.size + 1, 1, none⟩ = false := HX.out.frozen 1
  have HY : Hid (Blk (ws4_1.setCell ⟨w.heap.size + 1, 1, none⟩ (.string bw1)) (w.heap.size + 1) 134 [.string bw0, .string bw1, .string ⟨#[]⟩, .slice none 0 0, .slice none 0 0]) := Lib.hid (HX.out.set_ 1 (.string bw1))
  have HKA : Hid (Keeps [134] ws4_1 (ws4_1.setCell ⟨w.heap.size + 1, 1, none⟩ (.string bw1))) := Lib.hid ((Keeps.refl _ _).trans (Keeps.set_ HX.out.typ (by simp) (.string bw1)))
  have HBA : Hid (Below w.heap.size ws4_1 (ws4_1.setCell ⟨w.heap.size + 1, 1, none⟩ (.string bw1))) := Lib.hid ((Below.refl w.heap.size ws4_1).setCell hgx _)
  replace HRes := Lib.hid (HRes.out.far (p := ⟨w.heap.size + 1, 1, none⟩) (by dsimp only; omega) (.string bw1))
  replace HX := HY
  replace HR := Lib.hid (HR.out.keeps HKA.out (HBA.out.mono hbs) (by decide) (by decide))
  replace HB := Lib.hid (HB.out.trans (HBA.out.mono hbs))
  replace HK := Lib.hid (HK.out.below_new HBA.out)
  clear HY HKA HBA
  go_wp2_with fail
  refine (C_text base g (stepO .text (stepO .text (o))) _ HR.out).mono ?_
  rintro e ws4_2 ⟨⟨v, rfl, _⟩, hA, hK⟩
  obtain ⟨bw2, rfl⟩ : ∃ x, x = v := ⟨v, rfl⟩
  replace HR := Lib.hid hA
  replace HB := Lib.hid (HB.out.trans hK.below)
  replace HK := Lib.hid (HK.out.trans hK.keeps)
  replace HX := Lib.hid (HX.out.keeps hK.keeps (by decide))
  replace HRes := Lib.hid (HRes.out.keeps hK.keeps (by decide))
  have hszws4_2 := HK.out.size
  clear hA hK
  have hcxws4_2_0 : ws4_2.cell? ⟨w.heap.size + 1, 2, none⟩ = some (.string ⟨#[]⟩) := HX.out.cell 2
  have hfzws4_2_0 : ws4_2.frozen? ⟨w.heap.size + 1, 2, none⟩ = false := HX.out.frozen 2
  have HY : Hid (Blk (ws4_2.setCell ⟨w.heap.size + 1, 2, none⟩ (.string bw2)) (w.heap.size + 1) 134 [.string bw0, .string bw1, .string bw2, .slice none 0 0, .slice none 0 0]) := Lib.hid (HX.out.set_ 2 (.string bw2))
  have HKA : Hid (Keeps [134] ws4_2 (ws4_2.setCell ⟨w.heap.size + 1, 2, none⟩ (.string bw2))) := Lib.hid ((Keeps.refl _ _).trans (Keeps.set_ HX.out.typ (by simp) (.string bw2)))
  have HBA : Hid (Below w.heap.size ws4_2 (ws4_2.setCell ⟨w.heap.size + 1, 2, none⟩ (.string bw2))) := Lib.hid ((Below.refl w.heap.size ws4_2).setCell hgx _)
  replace HRes := Lib.hid (HRes.out.far (p := ⟨w.heap.size + 1, 2, none⟩) (by dsimp only; omega) (.string bw2))
  replace HX := HY
  replace HR := Lib.hid (HR.out.keeps HKA.out (HBA.out.mono hbs) (by decide) (by decide))
  replace HB := Lib.hid (HB.out.trans (HBA.out.mono hbs))
  replace HK := Lib.hid (HK.out.below_new HBA.out)
  clear HY HKA HBA
  go_wp2_with fail
  refine (C_columns base g (stepO .text (stepO .text (stepO .text (o)))) _ HR.out).mono ?_
  rintro e ws4_3 ⟨⟨Aw3, mw3, kw3, rfl⟩, hA, hK⟩
  replace HR := Lib.hid hA
  replace HB := Lib.hid (HB.out.trans hK.below)
  replace HK := Lib.hid (HK.out.trans hK.keeps)
  replace HX := Lib.hid (HX.out.keeps hK.keeps (by decide))
  replace HRes := Lib.hid (HRes.out.keeps hK.keeps (by decide))
  have hszws4_3 := HK.out.size
  clear hA hK
  have hcxws4_3_0 : ws4_3.cell? ⟨w.heap.size + 1, 3, none⟩ = some (.slice none 0 0) := HX.out.cell 3
  have hfzws4_3_0 : ws4_3.frozen? ⟨w.heap.size + 1, 3, none⟩ = false := HX.out.frozen 3
  have HY : Hid (Blk (ws4_3.setCell ⟨w.heap.size + 1, 3, none⟩ (.slice Aw3 mw3 kw3)) (w.heap.size + 1) 134 [.string bw0, .string bw1, .string bw2, .slice Aw3 mw3 kw3, .slice none 0 0]) := Lib.hid (HX.out.set_ 3 (.slice Aw3 mw3 kw3))
  have HKA : Hid (Keeps [134] ws4_3 (ws4_3.setCell ⟨w.heap.size + 1, 3, none⟩ (.slice Aw3 mw3 kw3))) := Lib.hid ((Keeps.refl _ _).trans (Keeps.set_ HX.out.typ (by simp) (.slice Aw3 mw3 kw3)))
  have HBA : Hid (Below w.heap.size ws4_3 (ws4_3.setCell ⟨w.heap.size + 1, 3, none⟩ (.slice Aw3 mw3 kw3))) := Lib.hid ((Below.refl w.heap.size ws4_3).setCell hgx _)
  replace HRes := Lib.hid (HRes.out.far (p := ⟨w.heap.size + 1, 3, none⟩) (by dsimp only; omega) (.slice Aw3 mw3 kw3))
  replace HX := HY
  replace HR := Lib.hid (HR.out.keeps HKA.out (HBA.out.mono hbs) (by decide) (by decide))
  replace HB := Lib.hid (HB.out.trans (HBA.out.mono hbs))
  replace HK := Lib.hid (HK.out.below_new HBA.out)
  clear HY HKA HBA
  go_wp2_with fail
  refine (C_many base g (stepO (.rows shColumn) (stepO .text (stepO .text (stepO .text (o))))) _ HR.out).mono ?_
  rintro e wmw4 ⟨⟨Nw4, rfl, hN4, hN⟩, hA, hK⟩
  have HRSw4 := Lib.hid (rows_step (sh := shRule) hN)
  obtain ⟨ow4, ho1⟩ : ∃ o1, stepM (stepO (.rows shColumn) (stepO .text (stepO .text (stepO .text (o))))) = o1 := ⟨_, rfl⟩
  rw [ho1] at hA HRSw4
  replace HR := Lib.hid hA
  replace HB := Lib.hid (HB.out.trans hK.below)
  replace HK := Lib.hid (HK.out.trans hK.keeps)
  replace HX := Lib.hid (HX.out.keeps hK.keeps (by decide))
  replace HRes := Lib.hid (HRes.out.keeps hK.keeps (by decide))
  clear hN hA hK ho1
  go_wp2
  go_loopw [5] (fun i wr => ∃ (j : Nat) (A : Option Addr) (c : Nat) (xs : List Value), j ≤ Nw4 ∧ i = .int .i64 j ∧ Hid (CutAt wr base g (iterO shRule j ow4)) ∧ Hid (wr.ownsRow w.heap.size 64 8 (.slice A j c) j xs) ∧ Hid (Blk wr (w.heap.size + 1) 134 [.string bw0, .string bw1, .string bw2, .slice Aw3 mw3 kw3, .slice A j c]) ∧ Hid (Blk wr w.heap.size 134 [.string ⟨#[]⟩, .string ⟨#[]⟩, .string ⟨#[]⟩, .slice none 0 0, .slice none 0 0]) ∧ Hid (Below base w wr) ∧ Hid (Keeps [108, 106] w wr)) (fun i _ => Nw4 - (intOf i).toNat)
  case atStart => exact ⟨0, none, 0, [], Nat.zero_le _, rfl, Lib.hid (by rw [iterO_zero]; exact HR.out), Lib.hid (World.ownsRow_nil _ w.heap.size 64 8), HX, HRes, HB, HK⟩
  case round =>
    clear HR HX HRes HB HK
    obtain ⟨mw4, Aw4, kw4, xs, hj, rfl, HR, HO, HX, HRes, HB, HK⟩ := hrel
    obtain ⟨nb, hnb⟩ : ∃ nb, (iterO shRule mw4 ow4).isNone = nb := ⟨_, rfl⟩
    have hcb : wr.cell? ⟨g, 1, none⟩ = some (.bool nb) := by
      obtain ⟨r, A', n, c', i, lb, hB, _⟩ := HR.out
      rw [← hnb]
      exact hB.cell 1
    have HNB := Lib.hid hnb
    clear hnb
    have hwr := HB.out.size
    have hwz := HK.out.size
    by_cases hlt2 : mw4 < Nw4
    rotate_left
    · have hjN : mw4 = Nw4 := by omega
      replace HR : Hid (CutAt wr base g (stepO (.rows shRule) (stepO (.rows shColumn) (stepO .text (stepO .text (stepO .text (o))))))) := Lib.hid (by rw [HRSw4.out, ← hjN]; exact HR.out)
      clear hjN
      have HRG := Lib.hid HX.out.range0
      have HTE : Hid (World.there _ w.heap.size 0 (List.toArray ([.string bw0, .string bw1, .string bw2, .slice Aw3 mw3 kw3, .slice Aw4 mw4 kw4] : List Value)).size) := Lib.hid (HRes.out.there 0 5 (by simp))
      have hiV : Hid ((Tryz.prog.info? 134).map (·.size) = some (List.length ([.string bw0, .string bw1, .string bw2, .slice Aw3 mw3 kw3, .slice Aw4 mw4 kw4] : List Value))) := Lib.hid hi.out
      have hsV : Hid ((Tryz.prog.info? 134).map (·.size) = some (List.toArray ([.string bw0, .string bw1, .string bw2, .slice Aw3 mw3 kw3, .slice Aw4 mw4 kw4] : List Value)).size) := Lib.hid hi.out
      have h1V : Hid ((List.toArray ([.string bw0, .string bw1, .string bw2, .slice Aw3 mw3 kw3, .slice Aw4 mw4 kw4] : List Value)).all (·.oneCell') = true) := Lib.hid (all_oneCell_toArray (by simp [Value.oneCell']))
      go_wp2_with (first | (with_reducible refine wpList_load_mid rfl 134 _ rfl (w.heap.size + 1) 0 rfl [.string bw0, .string bw1, .string bw2, .slice Aw3 mw3 kw3, .slice Aw4 mw4 kw4] _ HRG.out Tryz.underlying134 rfl hiV.out ?_) | (with_reducible refine wpList_store_mid rfl 134 _ _ rfl w.heap.size 0 (List.toArray ([.string bw0, .string bw1, .string bw2, .slice Aw3 mw3 kw3, .slice Aw4 mw4 kw4] : List Value)) rfl rfl HTE.out hsV.out h1V.out ?_))
      have HXE := Lib.hid (HRes.out.setCells0 [.string bw0, .string bw1, .string bw2, .slice Aw3 mw3 kw3, .slice Aw4 mw4 kw4] rfl)
      have HKE := Lib.hid (Keeps.setCells (ts := [134]) (t := 134) (by simp) HRes.out.typ 0 [.string bw0, .string bw1, .string bw2, .slice Aw3 mw3 kw3, .slice Aw4 mw4 kw4])
      refine bodyPost_ret (results_cell rfl _ _ w.heap.size rfl [.string bw0, .string bw1, .string bw2, .slice Aw3 mw3 kw3, .slice Aw4 mw4 kw4] _ HXE.out.range0 Tryz.underlying134 rfl hiV.out) rfl ?_
      refine ⟨⟨[.string bw0, .string bw1, .string bw2, .slice Aw3 mw3 kw3, .slice Aw4 mw4 kw4], rfl, (Kinds.mk (Kind1.text bw0) (Kinds.mk (Kind1.text bw1) (Kinds.mk (Kind1.text bw2) (Kinds.mk (Kind1.rows _ Aw3 mw3 kw3) (Kinds.mk (Kind1.rows _ Aw4 mw4 kw4) Kinds.mk0)))))⟩, ?_, HB.out.trans (below_setCells_ hbs _ _), HK.out.below_new (below_setCells_ (Nat.le_refl _) _ _)⟩
      have hfin := HR.out.keeps HKE.out (below_setCells_ hbs _ _) (by decide) (by decide)
      simpa only [shTable, stepS_cons, stepS_nil] using hfin

    cases nb with
    | true =>
      replace HR : Hid (CutAt wr base g (stepO (.rows shRule) (stepO (.rows shColumn) (stepO .text (stepO .text (stepO .text (o))))))) := Lib.hid (by
        have h1 : iterO shRule mw4 ow4 = none := by have := HNB.out; simpa using this
        rw [HRSw4.out, iterO_none h1 (by omega), ← h1]
        exact HR.out)
      have HRG := Lib.hid HX.out.range0
      have HTE : Hid (World.there _ w.heap.size 0 (List.toArray ([.string bw0, .string bw1, .string bw2, .slice Aw3 mw3 kw3, .slice Aw4 mw4 kw4] : List Value)).size) := Lib.hid (HRes.out.there 0 5 (by simp))
      have hiV : Hid ((Tryz.prog.info? 134).map (·.size) = some (List.length ([.string bw0, .string bw1, .string bw2, .slice Aw3 mw3 kw3, .slice Aw4 mw4 kw4] : List Value))) := Lib.hid hi.out
      have hsV : Hid ((Tryz.prog.info? 134).map (·.size) = some (List.toArray ([.string bw0, .string bw1, .string bw2, .slice Aw3 mw3 kw3, .slice Aw4 mw4 kw4] : List Value)).size) := Lib.hid hi.out
      have h1V : Hid ((List.toArray ([.string bw0, .string bw1, .string bw2, .slice Aw3 mw3 kw3, .slice Aw4 mw4 kw4] : List Value)).all (·.oneCell') = true) := Lib.hid (all_oneCell_toArray (by simp [Value.oneCell']))
      go_wp2_with (first | (with_reducible refine wpList_load_mid rfl 134 _ rfl (w.heap.size + 1) 0 rfl [.string bw0, .string bw1, .string bw2, .slice Aw3 mw3 kw3, .slice Aw4 mw4 kw4] _ HRG.out Tryz.underlying134 rfl hiV.out ?_) | (with_reducible refine wpList_store_mid rfl 134 _ _ rfl w.heap.size 0 (List.toArray ([.string bw0, .string bw1, .string bw2, .slice Aw3 mw3 kw3, .slice Aw4 mw4 kw4] : List Value)) rfl rfl HTE.out hsV.out h1V.out ?_))
      have HXE := Lib.hid (HRes.out.setCells0 [.string bw0, .string bw1, .string bw2, .slice Aw3 mw3 kw3, .slice Aw4 mw4 kw4] rfl)
      have HKE := Lib.hid (Keeps.setCells (ts := [134]) (t := 134) (by simp) HRes.out.typ 0 [.string bw0, .string bw1, .string bw2, .slice Aw3 mw3 kw3, .slice Aw4 mw4 kw4])
      refine bodyPost_ret (results_cell rfl _ _ w.heap.size rfl [.string bw0, .string bw1, .string bw2, .slice Aw3 mw3 kw3, .slice Aw4 mw4 kw4] _ HXE.out.range0 Tryz.underlying134 rfl hiV.out) rfl ?_
      refine ⟨⟨[.string bw0, .string bw1, .string bw2, .slice Aw3 mw3 kw3, .slice Aw4 mw4 kw4], rfl, (Kinds.mk (Kind1.text bw0) (Kinds.mk (Kind1.text bw1) (Kinds.mk (Kind1.text bw2) (Kinds.mk (Kind1.rows _ Aw3 mw3 kw3) (Kinds.mk (Kind1.rows _ Aw4 mw4 kw4) Kinds.mk0)))))⟩, ?_, HB.out.trans (below_setCells_ hbs _ _), HK.out.below_new (below_setCells_ (Nat.le_refl _) _ _)⟩
      have hfin := HR.out.keeps HKE.out (below_setCells_ hbs _ _) (by decide) (by decide)
      simpa only [shTable, stepS_cons, stepS_nil] using hfin

    | false =>
      have hbs0 := hbs
      go_wp2_with fail
      refine (C_rule base g (iterO shRule mw4 ow4) _ HR.out).mono ?_
      rintro e w2 ⟨⟨vs, rfl, hv⟩, hA, hK⟩
      have hst : stepS shRule (iterO shRule mw4 ow4) = iterO shRule (mw4 + 1) ow4 := (iterO_succ _ _ _).symm
      rw [hst] at hA
      have hlen : vs.length = 8 := hv.len
      obtain ⟨x0, vt0, rfl, hl0⟩ := len_cons (n := 7) hlen
      obtain ⟨x1, vt1, rfl, hl1⟩ := len_cons (n := 6) hl0
      obtain ⟨x2, vt2, rfl, hl2⟩ := len_cons (n := 5) hl1
      obtain ⟨x3, vt3, rfl, hl3⟩ := len_cons (n := 4) hl2
      obtain ⟨x4, vt4, rfl, hl4⟩ := len_cons (n := 3) hl3
      obtain ⟨x5, vt5, rfl, hl5⟩ := len_cons (n := 2) hl4
      obtain ⟨x6, vt6, rfl, hl6⟩ := len_cons (n := 1) hl5
      obtain ⟨x7, vt7, rfl, hl7⟩ := len_cons (n := 0) hl6
      obtain rfl := len_nil hl7
      have hone := hv.oneCell
      have HV1 := Lib.hid hone
      have HXe := Lib.hid (Blk.new w2 64 [.string ⟨#[]⟩, .int .i64 0, .slice none 0 0, .int .i64 0, .int .i64 0, .string ⟨#[]⟩, .string ⟨#[]⟩, .string ⟨#[]⟩])
      have HTZ : Hid (World.there (w2.alloc (.cells #[.string ⟨#[]⟩, .int .i64 0, .slice none 0 0, .int .i64 0, .int .i64 0, .string ⟨#[]⟩, .string ⟨#[]⟩, .string ⟨#[]⟩] 64)) w2.heap.size 0 (List.toArray ([x0, x1, x2, x3, x4, x5, x6, x7] : List Value)).size) := Lib.hid (HXe.out.there 0 _ (by simp))
      have hsZ : Hid ((Tryz.prog.info? 64).map (·.size) = some (List.toArray ([x0, x1, x2, x3, x4, x5, x6, x7] : List Value)).size) := Lib.hid (by kernel_rfl)
      have hiZ : Hid ((Tryz.prog.info? 64).map (·.size) = some (List.length ([x0, x1, x2, x3, x4, x5, x6, x7] : List Value))) := Lib.hid (by kernel_rfl)
      have h1Z : Hid ((List.toArray ([x0, x1, x2, x3, x4, x5, x6, x7] : List Value)).all (·.oneCell') = true) := Lib.hid (all_oneCell_toArray hone)
      have hbw : Below w2.heap.size w2 ((w2.alloc (.cells #[.string ⟨#[]⟩, .int .i64 0, .slice none 0 0, .int .i64 0, .int .i64 0, .string ⟨#[]⟩, .string ⟨#[]⟩, .string ⟨#[]⟩] 64)).setCells w2.heap.size 0 [x0, x1, x2, x3, x4, x5, x6, x7]) := ((Below.refl _ _).alloc (Nat.le_refl _) _).trans (below_setCells_ (Nat.le_refl _) 0 [x0, x1, x2, x3, x4, x5, x6, x7])
      have hsz2 := hK.keeps.size
      have hwr2 : w.heap.size ≤ w2.heap.size := by omega
      replace HXe : Hid (Blk ((w2.alloc (.cells #[.string ⟨#[]⟩, .int .i64 0, .slice none 0 0, .int .i64 0, .int .i64 0, .string ⟨#[]⟩, .string ⟨#[]⟩, .string ⟨#[]⟩] 64)).setCells w2.heap.size 0 [x0, x1, x2, x3, x4, x5, x6, x7]) w2.heap.size 64 [x0, x1, x2, x3, x4, x5, x6, x7]) := Lib.hid (HXe.out.setCells0 [x0, x1, x2, x3, x4, x5, x6, x7] rfl)
      have HA2 := Lib.hid (hA.below_ hbw)
      have HB2 := Lib.hid ((HB.out.trans hK.below).trans (hbw.mono (by omega)))
      have HK2 := Lib.hid ((HK.out.trans hK.keeps).then_below hbw)
      have HX2 := Lib.hid ((HX.out.keeps hK.keeps (by decide)).below hbw (by have := (HX.out.keeps hK.keeps (by decide)).lt; omega))
      have HRes2 := Lib.hid ((HRes.out.keeps hK.keeps (by decide)).below hbw (by have := (HRes.out.keeps hK.keeps (by decide)).lt; omega))
      have HO2 := Lib.hid ((HO.out.keeps hK.keeps (by decide)).below_ hbw)
      have hsz3 := hbw.size
      clear hA hK hv hone hbw HR HB HK HX HRes HO hst hcb
      obtain ⟨i0, hi0⟩ : ∃ i, Tryz.prog.info? 64 = some i := by
        cases hq : Tryz.prog.info? 64 with
        | none => have h0 : (Tryz.prog.info? 64).isSome = true := by kernel_rfl
                  rw [hq] at h0; cases h0
        | some i => exact ⟨i, rfl⟩
      have hinf : (Tryz.prog.info? 64).map (fun i => (i.zero, i.size, decide (i.bytes ≤ 1000))) = some (some (.agg #[.string ⟨#[]⟩, .int .i64 0, .slice none 0 0, .int .i64 0, .int .i64 0, .string ⟨#[]⟩, .string ⟨#[]⟩, .string ⟨#[]⟩]), 8, true) := by kernel_rfl
      rw [hi0] at hinf
      simp only [Option.map_some, Option.some.injEq, Prod.mk.injEq, decide_eq_true_eq] at hinf
      obtain ⟨hz0, hz1, hz2⟩ := hinf
      have hby := Nat.mul_le_mul_left 4097 hz2
      have HI := Lib.hid (And.intro hi0 (And.intro hz0 hz1))
      clear hi0 hz0 hz1
      have hszn : ((w2.alloc (.cells #[.string ⟨#[]⟩, .int .i64 0, .slice none 0 0, .int .i64 0, .int .i64 0, .string ⟨#[]⟩, .string ⟨#[]⟩, .string ⟨#[]⟩] 64)).setCells w2.heap.size 0 [x0, x1, x2, x3, x4, x5, x6, x7]).heap.size = w2.heap.size + 1 := by rw [setCells_size]; simp
      have HNB2 : Hid (Blk (((w2.alloc (.cells #[.string ⟨#[]⟩, .int .i64 0, .slice none 0 0, .int .i64 0, .int .i64 0, .string ⟨#[]⟩, .string ⟨#[]⟩, .string ⟨#[]⟩] 64)).setCells w2.heap.size 0 [x0, x1, x2, x3, x4, x5, x6, x7]).alloc (.cells (List.toArray ([x0, x1, x2, x3, x4, x5, x6, x7] : List Value)) 64)) (w2.heap.size + 1) 64 [x0, x1, x2, x3, x4, x5, x6, x7]) := Lib.hid (by have := Blk.new ((w2.alloc (.cells #[.string ⟨#[]⟩, .int .i64 0, .slice none 0 0, .int .i64 0, .int .i64 0, .string ⟨#[]⟩, .string ⟨#[]⟩, .string ⟨#[]⟩] 64)).setCells w2.heap.size 0 [x0, x1, x2, x3, x4, x5, x6, x7]) 64 [x0, x1, x2, x3, x4, x5, x6, x7]; rwa [hszn] at this)
      have HRG := Lib.hid HXe.out.range0
      have hcxf : ((w2.alloc (.cells #[.string ⟨#[]⟩, .int .i64 0, .slice none 0 0, .int .i64 0, .int .i64 0, .string ⟨#[]⟩, .string ⟨#[]⟩, .string ⟨#[]⟩] 64)).setCells w2.heap.size 0 [x0, x1, x2, x3, x4, x5, x6, x7]).cell? ⟨w.heap.size + 1, 4, none⟩ = some (.slice Aw4 mw4 kw4) := HX2.out.cell 4
      have hbase2 := HK2.out.size
      go_wp2_with (first | (with_reducible refine wpList_store_mid rfl 64 _ _ rfl w2.heap.size 0 (List.toArray ([x0, x1, x2, x3, x4, x5, x6, x7] : List Value)) rfl rfl HTZ.out hsZ.out h1Z.out ?_) | (with_reducible refine wpList_load_mid rfl 64 _ rfl (w2.heap.size) 0 rfl [x0, x1, x2, x3, x4, x5, x6, x7] _ HRG.out Tryz.underlying64 rfl hiZ.out ?_) | (at_builtin; refine wpList_appN rfl _ _ 132 rfl w.heap.size 64 i0 _ 8 i0.bytes Tryz.underlying132 HI.out.1 HI.out.2.1 HI.out.2.2 rfl rfl (by decide) (.slice Aw4 mw4 kw4) mw4 xs rfl (HO2.out.alloc _) ⟨w2.heap.size + 1, 0, none⟩ 1 [x0, x1, x2, x3, x4, x5, x6, x7] rfl rfl HNB2.out.news HV1.out (by unfold maxLen; omega) (Nat.le_trans (Nat.mul_le_mul_right _ (by omega)) (Nat.le_trans hby (by decide))) (by simp at hbase2 ⊢; omega) ?_; intro A3 c3 w3 HO3 HG3; have HXA := Lib.hid ((HX2.out.alloc _).keeps (Keeps.grown (ts := [64]) (HO2.out.alloc _) HG3.out (by simp) HG3.out.size) (by decide)); have hcxa : w3.cell? ⟨w.heap.size + 1, 4, none⟩ = some (.slice Aw4 mw4 kw4) := HXA.out.cell 4; have hfxa : w3.frozen? ⟨w.heap.size + 1, 4, none⟩ = false := HXA.out.frozen 4))
      have HKA : Hid (Keeps [64] ((w2.alloc (.cells #[.string ⟨#[]⟩, .int .i64 0, .slice none 0 0, .int .i64 0, .int .i64 0, .string ⟨#[]⟩, .string ⟨#[]⟩, .string ⟨#[]⟩] 64)).setCells w2.heap.size 0 [x0, x1, x2, x3, x4, x5, x6, x7]) w3) := Lib.hid ((Keeps.alloc ((w2.alloc (.cells #[.string ⟨#[]⟩, .int .i64 0, .slice none 0 0, .int .i64 0, .int .i64 0, .string ⟨#[]⟩, .string ⟨#[]⟩, .string ⟨#[]⟩] 64)).setCells w2.heap.size 0 [x0, x1, x2, x3, x4, x5, x6, x7]) _).trans (Keeps.grown (HO2.out.alloc _) HG3.out (by simp) HG3.out.size))
      have HBA : Hid (Below base ((w2.alloc (.cells #[.string ⟨#[]⟩, .int .i64 0, .slice none 0 0, .int .i64 0, .int .i64 0, .string ⟨#[]⟩, .string ⟨#[]⟩, .string ⟨#[]⟩] 64)).setCells w2.heap.size 0 [x0, x1, x2, x3, x4, x5, x6, x7]) w3) := Lib.hid (((Below.refl _ _).alloc (by omega) _).grown HG3.out (by simp; omega) (by intro k hk; have := own_block_ge HO2.out k hk; omega))
      have HKF : Hid (Keeps [134] w3 (w3.setCell ⟨w.heap.size + 1, 4, none⟩ (.slice A3 (mw4 + 1) c3))) := Lib.hid (Keeps.set_ HXA.out.typ (by simp) _)
      have HBF : Hid (Below w.heap.size w3 (w3.setCell ⟨w.heap.size + 1, 4, none⟩ (.slice A3 (mw4 + 1) c3))) := Lib.hid ((Below.refl _ _).setCell hgx _)
      have hrel : ∃ (j' : Nat) (A : Option Addr) (c : Nat) (xs : List Value), j' ≤ Nw4 ∧ Value.int .i64 ((mw4 : Int) + 1) = .int .i64 j' ∧ Hid (CutAt (w3.setCell ⟨w.heap.size + 1, 4, none⟩ (.slice A3 (mw4 + 1) c3)) base g (iterO shRule j' ow4)) ∧ Hid ((w3.setCell ⟨w.heap.size + 1, 4, none⟩ (.slice A3 (mw4 + 1) c3)).ownsRow w.heap.size 64 8 (.slice A j' c) j' xs) ∧ Hid (Blk (w3.setCell ⟨w.heap.size + 1, 4, none⟩ (.slice A3 (mw4 + 1) c3)) (w.heap.size + 1) 134 [.string bw0, .string bw1, .string bw2, .slice Aw3 mw3 kw3, .slice A j' c]) ∧ Hid (Blk (w3.setCell ⟨w.heap.size + 1, 4, none⟩ (.slice A3 (mw4 + 1) c3)) w.heap.size 134 [.string ⟨#[]⟩, .string ⟨#[]⟩, .string ⟨#[]⟩, .slice none 0 0, .slice none 0 0]) ∧ Hid (Below base w (w3.setCell ⟨w.heap.size + 1, 4, none⟩ (.slice A3 (mw4 + 1) c3))) ∧ Hid (Keeps [108, 106] w (w3.setCell ⟨w.heap.size + 1, 4, none⟩ (.slice A3 (mw4 + 1) c3))) := by
        refine ⟨mw4 + 1, A3, c3, _, by omega, by simp, Lib.hid ((HA2.out.keeps HKA.out HBA.out (by decide) (by decide)).keeps HKF.out (HBF.out.mono hbs0) (by decide) (by decide)), Lib.hid (HO3.out.kept (grownBy_setCell (World.grownBy.refl _ _) 4 _) (.inr (blk_own_ne HXA.out HO3.out (by decide)).symm)), Lib.hid (HXA.out.set_ 4 _), Lib.hid ((HRes2.out.keeps HKA.out (by decide)).far (by dsimp only; omega) _), Lib.hid ((HB2.out.trans HBA.out).trans (HBF.out.mono hbs0)), Lib.hid (Keeps.below_new ?_ HBF.out)⟩
        exact (HK2.out.then_below ((Below.refl _ _).alloc (Nat.le_refl _) _)).grown_new HG3.out (fun k hk => by have := own_block_ge HO2.out k hk; omega)
      clear HKA HBA HKF HBF HXA HO3 HG3 HO2 HA2 HK2 HB2 HX2 HRes2
      go_wp2
      go_roundw
      case rel => obtain ⟨j', A, c, xs, h1, h2, h3⟩ := hrel; exact ⟨j', A, c, xs, h1, by rw [← h2], h3⟩
      case measure => simp [intOf]; omega

end Go.Proofs.YteohhgkehkmgcaaGreat
