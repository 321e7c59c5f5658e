/- The walks of the reference that reads: lists and structs. Printed by mkcu.py. -/
import Derived.Test.YteohhgkehkmgcaaGreatCu9
namespace Go.Proofs.YteohhgkehkmgcaaGreat
open Go.RowKit Le
set_option maxRecDepth 100000
set_option linter.unusedVariables false
set_option linter.unusedSimpArgs false

set_option maxHeartbeats 1600000 in
theorem C_Catalog (base g : Nat) (o : Option (List UInt8)) (w : World) (h : CutAt w base g o) :
    Calls Tryz.prog 31 #[.pointer (some ⟨g, 0, none⟩)] w fun e w' => (∃ vs, e = .returned (.agg vs.toArray) ∧ Kinds shCatalog vs) ∧ CutAt w' base g (stepS shCatalog o) ∧ Cuts base w w' := by
  have hi : (Tryz.prog.info? 34).map (·.size) = some 7 := by kernel_rfl
  replace hi := Lib.hid hi
  have hbs := h.lt
  have hgx : w.heap.size ≤ w.heap.size + 1 := Nat.le_succ _
  have HX : Hid (Blk ((w.alloc (.cells #[.int .i64 0, .int .i64 0, .slice none 0 0, .slice none 0 0, .slice none 0 0, .slice none 0 0, .slice none 0 0] 34)).alloc (.cells #[.int .i64 0, .int .i64 0, .slice none 0 0, .slice none 0 0, .slice none 0 0, .slice none 0 0, .slice none 0 0] 34)) (w.heap.size + 1) 34 [.int .i64 0, .int .i64 0, .slice none 0 0, .slice none 0 0, .slice none 0 0, .slice none 0 0, .slice none 0 0]) := Lib.hid (by have := Blk.new (w.alloc (.cells #[.int .i64 0, .int .i64 0, .slice none 0 0, .slice none 0 0, .slice none 0 0, .slice none 0 0, .slice none 0 0] 34)) 34 [.int .i64 0, .int .i64 0, .slice none 0 0, .slice none 0 0, .slice none 0 0, .slice none 0 0, .slice none 0 0]; simpa using this)
  have HRes : Hid (Blk ((w.alloc (.cells #[.int .i64 0, .int .i64 0, .slice none 0 0, .slice none 0 0, .slice none 0 0, .slice none 0 0, .slice none 0 0] 34)).alloc (.cells #[.int .i64 0, .int .i64 0, .slice none 0 0, .slice none 0 0, .slice none 0 0, .slice none 0 0, .slice none 0 0] 34)) w.heap.size 34 [.int .i64 0, .int .i64 0, .slice none 0 0, .slice none 0 0, .slice none 0 0, .slice none 0 0, .slice none 0 0]) := Lib.hid ((Blk.new w 34 [.int .i64 0, .int .i64 0, .slice none 0 0, .slice none 0 0, .slice none 0 0, .slice none 0 0, .slice none 0 0]).alloc _)
  have hbw : Below w.heap.size w ((w.alloc (.cells #[.int .i64 0, .int .i64 0, .slice none 0 0, .slice none 0 0, .slice none 0 0, .slice none 0 0, .slice none 0 0] 34)).alloc (.cells #[.int .i64 0, .int .i64 0, .slice none 0 0, .slice none 0 0, .slice none 0 0, .slice none 0 0, .slice none 0 0] 34)) := ((Below.refl _ _).alloc (Nat.le_refl _) _).alloc (by simp) _
  have HTZ : Hid (World.there ((w.alloc (.cells #[.int .i64 0, .int .i64 0, .slice none 0 0, .slice none 0 0, .slice none 0 0, .slice none 0 0, .slice none 0 0] 34)).alloc (.cells #[.int .i64 0, .int .i64 0, .slice none 0 0, .slice none 0 0, .slice none 0 0, .slice none 0 0, .slice none 0 0] 34)) (w.heap.size + 1) 0 (List.toArray ([.int .i64 0, .int .i64 0, .slice none 0 0, .slice none 0 0, .slice none 0 0, .slice none 0 0, .slice none 0 0] : List Value)).size) := Lib.hid (HX.out.there 0 7 (by simp))
  have hsZ : Hid ((Tryz.prog.info? 34).map (·.size) = some (List.toArray ([.int .i64 0, .int .i64 0, .slice none 0 0, .slice none 0 0, .slice none 0 0, .slice none 0 0, .slice none 0 0] : List Value)).size) := Lib.hid (by kernel_rfl)
  have h1Z : Hid ((List.toArray ([.int .i64 0, .int .i64 0, .slice none 0 0, .slice none 0 0, .slice none 0 0, .slice none 0 0, .slice none 0 0] : List Value)).all (·.oneCell') = true) := Lib.hid (all_oneCell_toArray (by simp [Value.oneCell']))
  have hbw3 : Below w.heap.size w (((w.alloc (.cells #[.int .i64 0, .int .i64 0, .slice none 0 0, .slice none 0 0, .slice none 0 0, .slice none 0 0, .slice none 0 0] 34)).alloc (.cells #[.int .i64 0, .int .i64 0, .slice none 0 0, .slice none 0 0, .slice none 0 0, .slice none 0 0, .slice none 0 0] 34)).setCells (w.heap.size + 1) 0 [.int .i64 0, .int .i64 0, .slice none 0 0, .slice none 0 0, .slice none 0 0, .slice none 0 0, .slice none 0 0]) := hbw.trans (below_setCells_ hgx 0 [.int .i64 0, .int .i64 0, .slice none 0 0, .slice none 0 0, .slice none 0 0, .slice none 0 0, .slice none 0 0])
  have HR := Lib.hid (h.below_ hbw3)
  have HB : Hid (Below base w (((w.alloc (.cells #[.int .i64 0, .int .i64 0, .slice none 0 0, .slice none 0 0, .slice none 0 0, .slice none 0 0, .slice none 0 0] 34)).alloc (.cells #[.int .i64 0, .int .i64 0, .slice none 0 0, .slice none 0 0, .slice none 0 0, .slice none 0 0, .slice none 0 0] 34)).setCells (w.heap.size + 1) 0 [.int .i64 0, .int .i64 0, .slice none 0 0, .slice none 0 0, .slice none 0 0, .slice none 0 0, .slice none 0 0])) := Lib.hid (hbw3.mono hbs)
  have HK : Hid (Keeps [108, 106] w (((w.alloc (.cells #[.int .i64 0, .int .i64 0, .slice none 0 0, .slice none 0 0, .slice none 0 0, .slice none 0 0, .slice none 0 0] 34)).alloc (.cells #[.int .i64 0, .int .i64 0, .slice none 0 0, .slice none 0 0, .slice none 0 0, .slice none 0 0, .slice none 0 0] 34)).setCells (w.heap.size + 1) 0 [.int .i64 0, .int .i64 0, .slice none 0 0, .slice none 0 0, .slice none 0 0, .slice none 0 0, .slice none 0 0])) := Lib.hid (Keeps.of_below hbw3 (Nat.le_refl _))
  replace HX : Hid (Blk (((w.alloc (.cells #[.int .i64 0, .int .i64 0, .slice none 0 0, .slice none 0 0, .slice none 0 0, .slice none 0 0, .slice none 0 0] 34)).alloc (.cells #[.int .i64 0, .int .i64 0, .slice none 0 0, .slice none 0 0, .slice none 0 0, .slice none 0 0, .slice none 0 0] 34)).setCells (w.heap.size + 1) 0 [.int .i64 0, .int .i64 0, .slice none 0 0, .slice none 0 0, .slice none 0 0, .slice none 0 0, .slice none 0 0]) (w.heap.size + 1) 34 [.int .i64 0, .int .i64 0, .slice none 0 0, .slice none 0 0, .slice none 0 0, .slice none 0 0, .slice none 0 0]) := Lib.hid (HX.out.setCells0 [.int .i64 0, .int .i64 0, .slice none 0 0, .slice none 0 0, .slice none 0 0, .slice none 0 0, .slice none 0 0] rfl)
  replace HRes : Hid (Blk (((w.alloc (.cells #[.int .i64 0, .int .i64 0, .slice none 0 0, .slice none 0 0, .slice none 0 0, .slice none 0 0, .slice none 0 0] 34)).alloc (.cells #[.int .i64 0, .int .i64 0, .slice none 0 0, .slice none 0 0, .slice none 0 0, .slice none 0 0, .slice none 0 0] 34)).setCells (w.heap.size + 1) 0 [.int .i64 0, .int .i64 0, .slice none 0 0, .slice none 0 0, .slice none 0 0, .slice none 0 0, .slice none 0 0]) w.heap.size 34 [.int .i64 0, .int .i64 0, .slice none 0 0, .slice none 0 0, .slice none 0 0, .slice none 0 0, .slice none 0 0]) := Lib.hid (Blk.far_setCells (by omega) 0 [.int .i64 0, .int .i64 0, .slice none 0 0, .slice none 0 0, .slice none 0 0, .slice none 0 0, .slice none 0 0] HRes.out)
  clear h hbw hbw3
  go_enter Tryz.func31, Tryz.ntmps31
  go_wp2_with (with_reducible refine wpList_store_mid rfl 34 _ _ rfl (w.heap.size + 1) 0 (List.toArray ([.int .i64 0, .int .i64 0, .slice none 0 0, .slice none 0 0, .slice none 0 0, .slice none 0 0, .slice none 0 0] : List Value)) rfl rfl HTZ.out hsZ.out h1Z.out ?_)
  refine (C_num base g (o) _ HR.out).mono ?_
  rintro e ws4_0 ⟨⟨v, rfl, _⟩, hA, hK⟩
  obtain ⟨nw0, rfl⟩ : ∃ x, x = v := ⟨v, rfl⟩
  replace HR := Lib.hid hA
  replace HB := Lib.hid (HB.out.trans hK.below)
  replace HK := Lib.hid (HK.out.trans hK.keeps)
  replace HX := Lib.hid (HX.out.keeps hK.keeps (by decide))
  replace HRes := Lib.hid (HRes.out.keeps hK.keeps (by decide))
  have hszws4_0 := HK.out.size
  clear hA hK
  have hcxws4_0_0 : ws4_0.cell? ⟨w.heap.size + 1, 0, none⟩ = some (.int .i64 0) := HX.out.cell 0
  have hfzws4_0_0 : ws4_0.frozen? ⟨w.heap.size + 1, 0, none⟩ = false := HX.out.frozen 0
  have HY : Hid (Blk (ws4_0.setCell ⟨w.heap.size + 1, 0, none⟩ (.int .i64 nw0)) (w.heap.size + 1) 34 [.int .i64 nw0, .int .i64 0, .slice none 0 0, .slice none 0 0, .slice none 0 0, .slice none 0 0, .slice none 0 0]) := Lib.hid (HX.out.set_ 0 (.int .i64 nw0))
  have HKA : Hid (Keeps [34] ws4_0 (ws4_0.setCell ⟨w.heap.size + 1, 0, none⟩ (.int .i64 nw0))) := Lib.hid ((Keeps.refl _ _).trans (Keeps.set_ HX.out.typ (by simp) (.int .i64 nw0)))
  have HBA : Hid (Below w.heap.size ws4_0 (ws4_0.setCell ⟨w.heap.size + 1, 0, none⟩ (.int .i64 nw0))) := Lib.hid ((Below.refl w.heap.size ws4_0).setCell hgx _)
  replace HRes := Lib.hid (HRes.out.far (p := ⟨w.heap.size + 1, 0, none⟩) (by dsimp only; omega) (.int .i64 nw0))
  replace HX := HY
  replace HR := Lib.hid (HR.out.keeps HKA.out (HBA.out.mono hbs) (by decide) (by decide))
  replace HB := Lib.hid (HB.out.trans (HBA.out.mono hbs))
  replace HK := Lib.hid (HK.out.below_new HBA.out)
  clear HY HKA HBA
  go_wp2_with fail
  refine (C_num base g (stepO .num (o)) _ HR.out).mono ?_
  rintro e ws4_1 ⟨⟨v, rfl, _⟩, hA, hK⟩
  obtain ⟨nw1, rfl⟩ : ∃ x, x = v := ⟨v, rfl⟩
  replace HR := Lib.hid hA
  replace HB := Lib.hid (HB.out.trans hK.below)
  replace HK := Lib.hid (HK.out.trans hK.keeps)
  replace HX := Lib.hid (HX.out.keeps hK.keeps (by decide))
  replace HRes := Lib.hid (HRes.out.keeps hK.keeps (by decide))
  have hszws4_1 := HK.out.size
  clear hA hK
  have hcxws4_1_0 : ws4_1.cell? ⟨w.heap.size + 1, 1, none⟩ = some (.int .i64 0) := HX.out.cell 1
  have hfzws4_1_0 : ws4_1.frozen? ⟨w.heap.size + 1, 1, none⟩ = false := HX.out.frozen 1
  have HY : Hid (Blk (ws4_1.setCell ⟨w.heap.size + 1, 1, none⟩ (.int .i64 nw1)) (w.heap.size + 1) 34 [.int .i64 nw0, .int .i64 nw1, .slice none 0 0, .slice none 0 0, .slice none 0 0, .slice none 0 0, .slice none 0 0]) := Lib.hid (HX.out.set_ 1 (.int .i64 nw1))
  have HKA : Hid (Keeps [34] ws4_1 (ws4_1.setCell ⟨w.heap.size + 1, 1, none⟩ (.int .i64 nw1))) := Lib.hid ((Keeps.refl _ _).trans (Keeps.set_ HX.out.typ (by simp) (.int .i64 nw1)))
  have HBA : Hid (Below w.heap.size ws4_1 (ws4_1.setCell ⟨w.heap.size + 1, 1, none⟩ (.int .i64 nw1))) := Lib.hid ((Below.refl w.heap.size ws4_1).setCell hgx _)
  replace HRes := Lib.hid (HRes.out.far (p := ⟨w.heap.size + 1, 1, none⟩) (by dsimp only; omega) (.int .i64 nw1))
  replace HX := HY
  replace HR := Lib.hid (HR.out.keeps HKA.out (HBA.out.mono hbs) (by decide) (by decide))
  replace HB := Lib.hid (HB.out.trans (HBA.out.mono hbs))
  replace HK := Lib.hid (HK.out.below_new HBA.out)
  clear HY HKA HBA
  go_wp2_with fail
  refine (C_objects base g (stepO .num (stepO .num (o))) _ HR.out).mono ?_
  rintro e ws4_2 ⟨⟨vs, rfl, hv⟩, hA, hK⟩
  replace hv : Kinds [.rows shSchema, .rows shTable] vs := hv
  obtain ⟨_, vs, rfl, c2, hv⟩ := hv
  obtain ⟨_, vs, rfl, c3, hv⟩ := hv
  obtain rfl : vs = [] := hv
  obtain ⟨Aw2, mw2, kw2, rfl⟩ := c2
  obtain ⟨Aw3, mw3, kw3, rfl⟩ := c3
  simp only [shObjects, stepS_cons, stepS_nil] at hA
  replace HR := Lib.hid hA
  replace HB := Lib.hid (HB.out.trans hK.below)
  replace HK := Lib.hid (HK.out.trans hK.keeps)
  replace HX := Lib.hid (HX.out.keeps hK.keeps (by decide))
  replace HRes := Lib.hid (HRes.out.keeps hK.keeps (by decide))
  have hszws4_2 := HK.out.size
  clear hA hK
  have hcxws4_2_0 : ws4_2.cell? ⟨w.heap.size + 1, 2, none⟩ = some (.slice none 0 0) := HX.out.cell 2
  have hfzws4_2_0 : ws4_2.frozen? ⟨w.heap.size + 1, 2, none⟩ = false := HX.out.frozen 2
  have hcxws4_2_1 : ws4_2.cell? ⟨w.heap.size + 1, 3, none⟩ = some (.slice none 0 0) := HX.out.cell 3
  have hfzws4_2_1 : ws4_2.frozen? ⟨w.heap.size + 1, 3, none⟩ = false := HX.out.frozen 3
  have HY : Hid (Blk ((ws4_2.setCell ⟨w.heap.size + 1, 2, none⟩ (.slice Aw2 mw2 kw2)).setCell ⟨w.heap.size + 1, 3, none⟩ (.slice Aw3 mw3 kw3)) (w.heap.size + 1) 34 [.int .i64 nw0, .int .i64 nw1, .slice Aw2 mw2 kw2, .slice Aw3 mw3 kw3, .slice none 0 0, .slice none 0 0, .slice none 0 0]) := Lib.hid ((HX.out.set_ 2 (.slice Aw2 mw2 kw2)).set_ 3 (.slice Aw3 mw3 kw3))
  have HKA : Hid (Keeps [34] ws4_2 ((ws4_2.setCell ⟨w.heap.size + 1, 2, none⟩ (.slice Aw2 mw2 kw2)).setCell ⟨w.heap.size + 1, 3, none⟩ (.slice Aw3 mw3 kw3))) := Lib.hid (((Keeps.refl _ _).trans (Keeps.set_ HX.out.typ (by simp) (.slice Aw2 mw2 kw2))).trans (Keeps.set_ (HX.out.set_ 2 (.slice Aw2 mw2 kw2)).typ (by simp) (.slice Aw3 mw3 kw3)))
  have HBA : Hid (Below w.heap.size ws4_2 ((ws4_2.setCell ⟨w.heap.size + 1, 2, none⟩ (.slice Aw2 mw2 kw2)).setCell ⟨w.heap.size + 1, 3, none⟩ (.slice Aw3 mw3 kw3))) := Lib.hid (((Below.refl w.heap.size ws4_2).setCell hgx _).setCell hgx _)
  replace HRes := Lib.hid ((HRes.out.far (p := ⟨w.heap.size + 1, 2, none⟩) (by dsimp only; omega) (.slice Aw2 mw2 kw2)).far (p := ⟨w.heap.size + 1, 3, none⟩) (by dsimp only; omega) (.slice Aw3 mw3 kw3))
  replace HX := HY
  replace HR := Lib.hid (HR.out.keeps HKA.out (HBA.out.mono hbs) (by decide) (by decide))
  replace HB := Lib.hid (HB.out.trans (HBA.out.mono hbs))
  replace HK := Lib.hid (HK.out.below_new HBA.out)
  clear HY HKA HBA
  go_wp2_with fail
  refine (C_texts base g (stepO (.rows shTable) (stepO (.rows shSchema) (stepO .num (stepO .num (o))))) _ HR.out).mono ?_
  rintro e ws4_3 ⟨⟨Aw4, mw4, kw4, rfl⟩, hA, hK⟩
  replace HR := Lib.hid hA
  replace HB := Lib.hid (HB.out.trans hK.below)
  replace HK := Lib.hid (HK.out.trans hK.keeps)
  replace HX := Lib.hid (HX.out.keeps hK.keeps (by decide))
  replace HRes := Lib.hid (HRes.out.keeps hK.keeps (by decide))
  have hszws4_3 := HK.out.size
  clear hA hK
  have hcxws4_3_0 : ws4_3.cell? ⟨w.heap.size + 1, 4, none⟩ = some (.slice none 0 0) := HX.out.cell 4
  have hfzws4_3_0 : ws4_3.frozen? ⟨w.heap.size + 1, 4, none⟩ = false := HX.out.frozen 4
  have HY : Hid (Blk (ws4_3.setCell ⟨w.heap.size + 1, 4, none⟩ (.slice Aw4 mw4 kw4)) (w.heap.size + 1) 34 [.int .i64 nw0, .int .i64 nw1, .slice Aw2 mw2 kw2, .slice Aw3 mw3 kw3, .slice Aw4 mw4 kw4, .slice none 0 0, .slice none 0 0]) := Lib.hid (HX.out.set_ 4 (.slice Aw4 mw4 kw4))
  have HKA : Hid (Keeps [34] ws4_3 (ws4_3.setCell ⟨w.heap.size + 1, 4, none⟩ (.slice Aw4 mw4 kw4))) := Lib.hid ((Keeps.refl _ _).trans (Keeps.set_ HX.out.typ (by simp) (.slice Aw4 mw4 kw4)))
  have HBA : Hid (Below w.heap.size ws4_3 (ws4_3.setCell ⟨w.heap.size + 1, 4, none⟩ (.slice Aw4 mw4 kw4))) := Lib.hid ((Below.refl w.heap.size ws4_3).setCell hgx _)
  replace HRes := Lib.hid (HRes.out.far (p := ⟨w.heap.size + 1, 4, none⟩) (by dsimp only; omega) (.slice Aw4 mw4 kw4))
  replace HX := HY
  replace HR := Lib.hid (HR.out.keeps HKA.out (HBA.out.mono hbs) (by decide) (by decide))
  replace HB := Lib.hid (HB.out.trans (HBA.out.mono hbs))
  replace HK := Lib.hid (HK.out.below_new HBA.out)
  clear HY HKA HBA
  go_wp2_with fail
  refine (C_many base g (stepO (.rows [.text]) (stepO (.rows shTable) (stepO (.rows shSchema) (stepO .num (stepO .num (o)))))) _ HR.out).mono ?_
  rintro e wmw5 ⟨⟨Nw5, rfl, hN4, hN⟩, hA, hK⟩
  have HRSw5 := Lib.hid (rows_step (sh := shMember) hN)
  obtain ⟨ow5, ho1⟩ : ∃ o1, stepM (stepO (.rows [.text]) (stepO (.rows shTable) (stepO (.rows shSchema) (stepO .num (stepO .num (o)))))) = o1 := ⟨_, rfl⟩
  rw [ho1] at hA HRSw5
  replace HR := Lib.hid hA
  replace HB := Lib.hid (HB.out.trans hK.below)
  replace HK := Lib.hid (HK.out.trans hK.keeps)
  replace HX := Lib.hid (HX.out.keeps hK.keeps (by decide))
  replace HRes := Lib.hid (HRes.out.keeps hK.keeps (by decide))
  clear hN hA hK ho1
  go_wp2
  go_loopw [5] (fun i wr => ∃ (j : Nat) (A : Option Addr) (c : Nat) (xs : List Value), j ≤ Nw5 ∧ i = .int .i64 j ∧ Hid (CutAt wr base g (iterO shMember j ow5)) ∧ Hid (wr.ownsRow w.heap.size 142 2 (.slice A j c) j xs) ∧ Hid (Blk wr (w.heap.size + 1) 34 [.int .i64 nw0, .int .i64 nw1, .slice Aw2 mw2 kw2, .slice Aw3 mw3 kw3, .slice Aw4 mw4 kw4, .slice A j c, .slice none 0 0]) ∧ Hid (Blk wr w.heap.size 34 [.int .i64 0, .int .i64 0, .slice none 0 0, .slice none 0 0, .slice none 0 0, .slice none 0 0, .slice none 0 0]) ∧ Hid (Below base w wr) ∧ Hid (Keeps [108, 106] w wr)) (fun i _ => Nw5 - (intOf i).toNat)
  case atStart => exact ⟨0, none, 0, [], Nat.zero_le _, rfl, Lib.hid (by rw [iterO_zero]; exact HR.out), Lib.hid (World.ownsRow_nil _ w.heap.size 142 2), HX, HRes, HB, HK⟩
  case round =>
    clear HR HX HRes HB HK
    obtain ⟨mw5, Aw5, kw5, xs, hj, rfl, HR, HO, HX, HRes, HB, HK⟩ := hrel
    obtain ⟨nb, hnb⟩ : ∃ nb, (iterO shMember mw5 ow5).isNone = nb := ⟨_, rfl⟩
    have hcb : wr.cell? ⟨g, 1, none⟩ = some (.bool nb) := by
      obtain ⟨r, A', n, c', i, lb, hB, _⟩ := HR.out
      rw [← hnb]
      exact hB.cell 1
    have HNB := Lib.hid hnb
    clear hnb
    have hwr := HB.out.size
    have hwz := HK.out.size
    by_cases hlt2 : mw5 < Nw5
    rotate_left
    · have hjN : mw5 = Nw5 := by omega
      replace HR : Hid (CutAt wr base g (stepO (.rows shMember) (stepO (.rows [.text]) (stepO (.rows shTable) (stepO (.rows shSchema) (stepO .num (stepO .num (o)))))))) := Lib.hid (by rw [HRSw5.out, ← hjN]; exact HR.out)
      clear hjN
      go_wp2_with fail
      refine (C_many base g (stepO (.rows shMember) (stepO (.rows [.text]) (stepO (.rows shTable) (stepO (.rows shSchema) (stepO .num (stepO .num (o))))))) _ HR.out).mono ?_
      rintro e wmw6 ⟨⟨Nw6, rfl, hN4, hN⟩, hA, hK⟩
      have HRSw6 := Lib.hid (rows_step (sh := shGrant) hN)
      obtain ⟨ow6, ho1⟩ : ∃ o1, stepM (stepO (.rows shMember) (stepO (.rows [.text]) (stepO (.rows shTable) (stepO (.rows shSchema) (stepO .num (stepO .num (o))))))) = o1 := ⟨_, rfl⟩
      rw [ho1] at hA HRSw6
      replace HR := Lib.hid hA
      replace HB := Lib.hid (HB.out.trans hK.below)
      replace HK := Lib.hid (HK.out.trans hK.keeps)
      replace HX := Lib.hid (HX.out.keeps hK.keeps (by decide))
      replace HRes := Lib.hid (HRes.out.keeps hK.keeps (by decide))
      clear hN hA hK ho1
      go_wp2
      go_loopw [7] (fun i wr => ∃ (j : Nat) (A : Option Addr) (c : Nat) (xs : List Value), j ≤ Nw6 ∧ i = .int .i64 j ∧ Hid (CutAt wr base g (iterO shGrant j ow6)) ∧ Hid (wr.ownsRow w.heap.size 147 6 (.slice A j c) j xs) ∧ Hid (Blk wr (w.heap.size + 1) 34 [.int .i64 nw0, .int .i64 nw1, .slice Aw2 mw2 kw2, .slice Aw3 mw3 kw3, .slice Aw4 mw4 kw4, .slice Aw5 mw5 kw5, .slice A j c]) ∧ Hid (Blk wr w.heap.size 34 [.int .i64 0, .int .i64 0, .slice none 0 0, .slice none 0 0, .slice none 0 0, .slice none 0 0, .slice none 0 0]) ∧ Hid (Below base w wr) ∧ Hid (Keeps [108, 106] w wr)) (fun i _ => Nw6 - (intOf i).toNat)
      case atStart => exact ⟨0, none, 0, [], Nat.zero_le _, rfl, Lib.hid (by rw [iterO_zero]; exact HR.out), Lib.hid (World.ownsRow_nil _ w.heap.size 147 6), HX, HRes, HB, HK⟩
      case round =>
        clear HR HX HRes HB HK
        obtain ⟨mw6, Aw6, kw6, xs, hj, rfl, HR, HO, HX, HRes, HB, HK⟩ := hrel
        obtain ⟨nb, hnb⟩ : ∃ nb, (iterO shGrant mw6 ow6).isNone = nb := ⟨_, rfl⟩
        have hcb : wr.cell? ⟨g, 1, none⟩ = some (.bool nb) := by
          obtain ⟨r, A', n, c', i, lb, hB, _⟩ := HR.out
          rw [← hnb]
          exact hB.cell 1
        have HNB := Lib.hid hnb
        clear hnb
        have hwr := HB.out.size
        have hwz := HK.out.size
        by_cases hlt2 : mw6 < Nw6
        rotate_left
        · have hjN : mw6 = Nw6 := by omega
          replace HR : Hid (CutAt wr base g (stepO (.rows shGrant) (stepO (.rows shMember) (stepO (.rows [.text]) (stepO (.rows shTable) (stepO (.rows shSchema) (stepO .num (stepO .num (o))))))))) := Lib.hid (by rw [HRSw6.out, ← hjN]; exact HR.out)
          clear hjN
          have HRG := Lib.hid HX.out.range0
          have HTE : Hid (World.there _ w.heap.size 0 (List.toArray ([.int .i64 nw0, .int .i64 nw1, .slice Aw2 mw2 kw2, .slice Aw3 mw3 kw3, .slice Aw4 mw4 kw4, .slice Aw5 mw5 kw5, .slice Aw6 mw6 kw6] : List Value)).size) := Lib.hid (HRes.out.there 0 7 (by simp))
          have hiV : Hid ((Tryz.prog.info? 34).map (·.size) = some (List.length ([.int .i64 nw0, .int .i64 nw1, .slice Aw2 mw2 kw2, .slice Aw3 mw3 kw3, .slice Aw4 mw4 kw4, .slice Aw5 mw5 kw5, .slice Aw6 mw6 kw6] : List Value))) := Lib.hid hi.out
          have hsV : Hid ((Tryz.prog.info? 34).map (·.size) = some (List.toArray ([.int .i64 nw0, .int .i64 nw1, .slice Aw2 mw2 kw2, .slice Aw3 mw3 kw3, .slice Aw4 mw4 kw4, .slice Aw5 mw5 kw5, .slice Aw6 mw6 kw6] : List Value)).size) := Lib.hid hi.out
          have h1V : Hid ((List.toArray ([.int .i64 nw0, .int .i64 nw1, .slice Aw2 mw2 kw2, .slice Aw3 mw3 kw3, .slice Aw4 mw4 kw4, .slice Aw5 mw5 kw5, .slice Aw6 mw6 kw6] : List Value)).all (·.oneCell') = true) := Lib.hid (all_oneCell_toArray (by simp [Value.oneCell']))
          go_wp2_with (first | (with_reducible refine wpList_load_mid rfl 34 _ rfl (w.heap.size + 1) 0 rfl [.int .i64 nw0, .int .i64 nw1, .slice Aw2 mw2 kw2, .slice Aw3 mw3 kw3, .slice Aw4 mw4 kw4, .slice Aw5 mw5 kw5, .slice Aw6 mw6 kw6] _ HRG.out Tryz.underlying34 rfl hiV.out ?_) | (with_reducible refine wpList_store_mid rfl 34 _ _ rfl w.heap.size 0 (List.toArray ([.int .i64 nw0, .int .i64 nw1, .slice Aw2 mw2 kw2, .slice Aw3 mw3 kw3, .slice Aw4 mw4 kw4, .slice Aw5 mw5 kw5, .slice Aw6 mw6 kw6] : List Value)) rfl rfl HTE.out hsV.out h1V.out ?_))
          have HXE := Lib.hid (HRes.out.setCells0 [.int .i64 nw0, .int .i64 nw1, .slice Aw2 mw2 kw2, .slice Aw3 mw3 kw3, .slice Aw4 mw4 kw4, .slice Aw5 mw5 kw5, .slice Aw6 mw6 kw6] rfl)
          have HKE := Lib.hid (Keeps.setCells (ts := [34]) (t := 34) (by simp) HRes.out.typ 0 [.int .i64 nw0, .int .i64 nw1, .slice Aw2 mw2 kw2, .slice Aw3 mw3 kw3, .slice Aw4 mw4 kw4, .slice Aw5 mw5 kw5, .slice Aw6 mw6 kw6])
          refine bodyPost_ret (results_cell rfl _ _ w.heap.size rfl [.int .i64 nw0, .int .i64 nw1, .slice Aw2 mw2 kw2, .slice Aw3 mw3 kw3, .slice Aw4 mw4 kw4, .slice Aw5 mw5 kw5, .slice Aw6 mw6 kw6] _ HXE.out.range0 Tryz.underlying34 rfl hiV.out) rfl ?_
          refine ⟨⟨[.int .i64 nw0, .int .i64 nw1, .slice Aw2 mw2 kw2, .slice Aw3 mw3 kw3, .slice Aw4 mw4 kw4, .slice Aw5 mw5 kw5, .slice Aw6 mw6 kw6], rfl, (Kinds.mk (Kind1.num nw0) (Kinds.mk (Kind1.num nw1) (Kinds.mk (Kind1.rows _ Aw2 mw2 kw2) (Kinds.mk (Kind1.rows _ Aw3 mw3 kw3) (Kinds.mk (Kind1.rows _ Aw4 mw4 kw4) (Kinds.mk (Kind1.rows _ Aw5 mw5 kw5) (Kinds.mk (Kind1.rows _ Aw6 mw6 kw6) Kinds.mk0)))))))⟩, ?_, HB.out.trans (below_setCells_ hbs _ _), HK.out.below_new (below_setCells_ (Nat.le_refl _) _ _)⟩
          have hfin := HR.out.keeps HKE.out (below_setCells_ hbs _ _) (by decide) (by decide)
          simpa only [shCatalog, stepS_cons, stepS_nil] using hfin

        cases nb with
        | true =>
          replace HR : Hid (CutAt wr base g (stepO (.rows shGrant) (stepO (.rows shMember) (stepO (.rows [.text]) (stepO (.rows shTable) (stepO (.rows shSchema) (stepO .num (stepO .num (o))))))))) := Lib.hid (by
            have h1 : iterO shGrant mw6 ow6 = none := by have := HNB.out; simpa using this
            rw [HRSw6.out, iterO_none h1 (by omega), ← h1]
            exact HR.out)
          have HRG := Lib.hid HX.out.range0
          have HTE : Hid (World.there _ w.heap.size 0 (List.toArray ([.int .i64 nw0, .int .i64 nw1, .slice Aw2 mw2 kw2, .slice Aw3 mw3 kw3, .slice Aw4 mw4 kw4, .slice Aw5 mw5 kw5, .slice Aw6 mw6 kw6] : List Value)).size) := Lib.hid (HRes.out.there 0 7 (by simp))
          have hiV : Hid ((Tryz.prog.info? 34).map (·.size) = some (List.length ([.int .i64 nw0, .int .i64 nw1, .slice Aw2 mw2 kw2, .slice Aw3 mw3 kw3, .slice Aw4 mw4 kw4, .slice Aw5 mw5 kw5, .slice Aw6 mw6 kw6] : List Value))) := Lib.hid hi.out
          have hsV : Hid ((Tryz.prog.info? 34).map (·.size) = some (List.toArray ([.int .i64 nw0, .int .i64 nw1, .slice Aw2 mw2 kw2, .slice Aw3 mw3 kw3, .slice Aw4 mw4 kw4, .slice Aw5 mw5 kw5, .slice Aw6 mw6 kw6] : List Value)).size) := Lib.hid hi.out
          have h1V : Hid ((List.toArray ([.int .i64 nw0, .int .i64 nw1, .slice Aw2 mw2 kw2, .slice Aw3 mw3 kw3, .slice Aw4 mw4 kw4, .slice Aw5 mw5 kw5, .slice Aw6 mw6 kw6] : List Value)).all (·.oneCell') = true) := Lib.hid (all_oneCell_toArray (by simp [Value.oneCell']))
          go_wp2_with (first | (with_reducible refine wpList_load_mid rfl 34 _ rfl (w.heap.size + 1) 0 rfl [.int .i64 nw0, .int .i64 nw1, .slice Aw2 mw2 kw2, .slice Aw3 mw3 kw3, .slice Aw4 mw4 kw4, .slice Aw5 mw5 kw5, .slice Aw6 mw6 kw6] _ HRG.out Tryz.underlying34 rfl hiV.out ?_) | (with_reducible refine wpList_store_mid rfl 34 _ _ rfl w.heap.size 0 (List.toArray ([.int .i64 nw0, .int .i64 nw1, .slice Aw2 mw2 kw2, .slice Aw3 mw3 kw3, .slice Aw4 mw4 kw4, .slice Aw5 mw5 kw5, .slice Aw6 mw6 kw6] : List Value)) rfl rfl HTE.out hsV.out h1V.out ?_))
          have HXE := Lib.hid (HRes.out.setCells0 [.int .i64 nw0, .int .i64 nw1, .slice Aw2 mw2 kw2, .slice Aw3 mw3 kw3, .slice Aw4 mw4 kw4, .slice Aw5 mw5 kw5, .slice Aw6 mw6 kw6] rfl)
          have HKE := Lib.hid (Keeps.setCells (ts := [34]) (t := 34) (by simp) HRes.out.typ 0 [.int .i64 nw0, .int .i64 nw1, .slice Aw2 mw2 kw2, .slice Aw3 mw3 kw3, .slice Aw4 mw4 kw4, .slice Aw5 mw5 kw5, .slice Aw6 mw6 kw6])
          refine bodyPost_ret (results_cell rfl _ _ w.heap.size rfl [.int .i64 nw0, .int .i64 nw1, .slice Aw2 mw2 kw2, .slice Aw3 mw3 kw3, .slice Aw4 mw4 kw4, .slice Aw5 mw5 kw5, .slice Aw6 mw6 kw6] _ HXE.out.range0 Tryz.underlying34 rfl hiV.out) rfl ?_
          refine ⟨⟨[.int .i64 nw0, .int .i64 nw1, .slice Aw2 mw2 kw2, .slice Aw3 mw3 kw3, .slice Aw4 mw4 kw4, .slice Aw5 mw5 kw5, .slice Aw6 mw6 kw6], rfl, (Kinds.mk (Kind1.num nw0) (Kinds.mk (Kind1.num nw1) (Kinds.mk (Kind1.rows _ Aw2 mw2 kw2) (Kinds.mk (Kind1.rows _ Aw3 mw3 kw3) (Kinds.mk (Kind1.rows _ Aw4 mw4 kw4) (Kinds.mk (Kind1.rows _ Aw5 mw5 kw5) (Kinds.mk (Kind1.rows _ Aw6 mw6 kw6) Kinds.mk0)))))))⟩, ?_, HB.out.trans (below_setCells_ hbs _ _), HK.out.below_new (below_setCells_ (Nat.le_refl _) _ _)⟩
          have hfin := HR.out.keeps HKE.out (below_setCells_ hbs _ _) (by decide) (by decide)
          simpa only [shCatalog, stepS_cons, stepS_nil] using hfin

        | false =>
          have hbs0 := hbs
          have hobx : ∀ k, (Value.slice Aw6 mw6 kw6).ownBlock = some k → k < wr.heap.size := fun k hk => (HO.out.lt k hk).2
          have HXo := HX
          have HBo := HB
          have HKo := HK
          have hbs1 : base ≤ wr.heap.size := by omega
          replace HX : Hid (Blk (wr.alloc (.cells #[.string ⟨#[]⟩, .string ⟨#[]⟩, .int .i64 0, .string ⟨#[]⟩, .string ⟨#[]⟩, .bool false] 147)) wr.heap.size 147 [.string ⟨#[]⟩, .string ⟨#[]⟩, .int .i64 0, .string ⟨#[]⟩, .string ⟨#[]⟩, .bool false]) := Lib.hid (Blk.new wr 147 [.string ⟨#[]⟩, .string ⟨#[]⟩, .int .i64 0, .string ⟨#[]⟩, .string ⟨#[]⟩, .bool false])
          have HTZ : Hid (World.there (wr.alloc (.cells #[.string ⟨#[]⟩, .string ⟨#[]⟩, .int .i64 0, .string ⟨#[]⟩, .string ⟨#[]⟩, .bool false] 147)) (wr.heap.size) 0 (List.toArray ([.string ⟨#[]⟩, .string ⟨#[]⟩, .int .i64 0, .string ⟨#[]⟩, .string ⟨#[]⟩, .bool false] : List Value)).size) := Lib.hid (HX.out.there 0 6 (by simp))
          have hsZ : Hid ((Tryz.prog.info? 147).map (·.size) = some (List.toArray ([.string ⟨#[]⟩, .string ⟨#[]⟩, .int .i64 0, .string ⟨#[]⟩, .string ⟨#[]⟩, .bool false] : List Value)).size) := Lib.hid (by kernel_rfl)
          have h1Z : Hid ((List.toArray ([.string ⟨#[]⟩, .string ⟨#[]⟩, .int .i64 0, .string ⟨#[]⟩, .string ⟨#[]⟩, .bool false] : List Value)).all (·.oneCell') = true) := Lib.hid (all_oneCell_toArray (by simp [Value.oneCell']))
          have hbw3 : Below wr.heap.size wr ((wr.alloc (.cells #[.string ⟨#[]⟩, .string ⟨#[]⟩, .int .i64 0, .string ⟨#[]⟩, .string ⟨#[]⟩, .bool false] 147)).setCells (wr.heap.size) 0 [.string ⟨#[]⟩, .string ⟨#[]⟩, .int .i64 0, .string ⟨#[]⟩, .string ⟨#[]⟩, .bool false]) := ((Below.refl _ _).alloc (Nat.le_refl _) _).trans (below_setCells_ (Nat.le_refl _) 0 [.string ⟨#[]⟩, .string ⟨#[]⟩, .int .i64 0, .string ⟨#[]⟩, .string ⟨#[]⟩, .bool false])
          replace HR := Lib.hid (HR.out.below_ hbw3)
          replace HB : Hid (Below base wr ((wr.alloc (.cells #[.string ⟨#[]⟩, .string ⟨#[]⟩, .int .i64 0, .string ⟨#[]⟩, .string ⟨#[]⟩, .bool false] 147)).setCells (wr.heap.size) 0 [.string ⟨#[]⟩, .string ⟨#[]⟩, .int .i64 0, .string ⟨#[]⟩, .string ⟨#[]⟩, .bool false])) := Lib.hid (hbw3.mono hbs1)
          replace HK : Hid (Keeps [108, 106] wr ((wr.alloc (.cells #[.string ⟨#[]⟩, .string ⟨#[]⟩, .int .i64 0, .string ⟨#[]⟩, .string ⟨#[]⟩, .bool false] 147)).setCells (wr.heap.size) 0 [.string ⟨#[]⟩, .string ⟨#[]⟩, .int .i64 0, .string ⟨#[]⟩, .string ⟨#[]⟩, .bool false])) := Lib.hid (Keeps.of_below hbw3 (Nat.le_refl _))
          replace HX : Hid (Blk ((wr.alloc (.cells #[.string ⟨#[]⟩, .string ⟨#[]⟩, .int .i64 0, .string ⟨#[]⟩, .string ⟨#[]⟩, .bool false] 147)).setCells (wr.heap.size) 0 [.string ⟨#[]⟩, .string ⟨#[]⟩, .int .i64 0, .string ⟨#[]⟩, .string ⟨#[]⟩, .bool false]) wr.heap.size 147 [.string ⟨#[]⟩, .string ⟨#[]⟩, .int .i64 0, .string ⟨#[]⟩, .string ⟨#[]⟩, .bool false]) := Lib.hid (HX.out.setCells0 [.string ⟨#[]⟩, .string ⟨#[]⟩, .int .i64 0, .string ⟨#[]⟩, .string ⟨#[]⟩, .bool false] rfl)
          replace HXo := Lib.hid (HXo.out.below hbw3 HXo.out.lt)
          replace HRes := Lib.hid (HRes.out.below hbw3 HRes.out.lt)
          replace HO := Lib.hid (HO.out.below_ hbw3)
          clear hbw3
          have hob := hobx
          have hgx0 := hgx
          have hgx : wr.heap.size ≤ wr.heap.size := Nat.le_refl _
          have hbs := hbs1
          go_wp2_with (with_reducible refine wpList_store_mid rfl 147 _ _ rfl (wr.heap.size) 0 (List.toArray ([.string ⟨#[]⟩, .string ⟨#[]⟩, .int .i64 0, .string ⟨#[]⟩, .string ⟨#[]⟩, .bool false] : List Value)) rfl rfl HTZ.out hsZ.out h1Z.out ?_)
          refine (C_text base g (iterO shGrant mw6 ow6) _ HR.out).mono ?_
          rintro e u6_0 ⟨⟨v, rfl, _⟩, hA, hK⟩
          obtain ⟨bu0, rfl⟩ : ∃ x, x = v := ⟨v, rfl⟩
          replace HR := Lib.hid hA
          replace HB := Lib.hid (HB.out.trans hK.below)
          replace HK := Lib.hid (HK.out.trans hK.keeps)
          replace HX := Lib.hid (HX.out.keeps hK.keeps (by decide))
          replace HO := Lib.hid (HO.out.keeps hK.keeps (by decide))
          replace HXo := Lib.hid (HXo.out.keeps hK.keeps (by decide))
          replace HRes := Lib.hid (HRes.out.keeps hK.keeps (by decide))
          have hszu6_0 := HK.out.size
          clear hA hK
          have hcxu6_0_0 : u6_0.cell? ⟨wr.heap.size, 0, none⟩ = some (.string ⟨#[]⟩) := HX.out.cell 0
          have hfzu6_0_0 : u6_0.frozen? ⟨wr.heap.size, 0, none⟩ = false := HX.out.frozen 0
          have HY : Hid (Blk (u6_0.setCell ⟨wr.heap.size, 0, none⟩ (.string bu0)) (wr.heap.size) 147 [.string bu0, .string ⟨#[]⟩, .int .i64 0, .string ⟨#[]⟩, .string ⟨#[]⟩, .bool false]) := Lib.hid (HX.out.set_ 0 (.string bu0))
          have HKA : Hid (Keeps [147] u6_0 (u6_0.setCell ⟨wr.heap.size, 0, none⟩ (.string bu0))) := Lib.hid ((Keeps.refl _ _).trans (Keeps.set_ HX.out.typ (by simp) (.string bu0)))
          have HBA : Hid (Below wr.heap.size u6_0 (u6_0.setCell ⟨wr.heap.size, 0, none⟩ (.string bu0))) := Lib.hid ((Below.refl wr.heap.size u6_0).setCell hgx _)
          replace HO := Lib.hid (own_set HO.out hob 0 (.string bu0))
          replace HX := HY
          replace HXo := Lib.hid (HXo.out.keeps HKA.out (by decide))
          replace HRes := Lib.hid (HRes.out.keeps HKA.out (by decide))
          replace HR := Lib.hid (HR.out.keeps HKA.out (HBA.out.mono hbs) (by decide) (by decide))
          replace HB := Lib.hid (HB.out.trans (HBA.out.mono hbs))
          replace HK := Lib.hid (HK.out.below_new HBA.out)
          clear HY HKA HBA
          go_wp2_with fail
          refine (C_text base g (stepO .text (iterO shGrant mw6 ow6)) _ HR.out).mono ?_
          rintro e u6_1 ⟨⟨v, rfl, _⟩, hA, hK⟩
          obtain ⟨bu1, rfl⟩ : ∃ x, x = v := ⟨v, rfl⟩
          replace HR := Lib.hid hA
          replace HB := Lib.hid (HB.out.trans hK.below)
          replace HK := Lib.hid (HK.out.trans hK.keeps)
          replace HX := Lib.hid (HX.out.keeps hK.keeps (by decide))
          replace HO := Lib.hid (HO.out.keeps hK.keeps (by decide))
          replace HXo := Lib.hid (HXo.out.keeps hK.keeps (by decide))
          replace HRes := Lib.hid (HRes.out.keeps hK.keeps (by decide))
          have hszu6_1 := HK.out.size
          clear hA hK
          have hcxu6_1_0 : u6_1.cell? ⟨wr.heap.size, 1, none⟩ = some (.string ⟨#[]⟩) := HX.out.cell 1
          have hfzu6_1_0 : u6_1.frozen? ⟨wr.heap.size, 1, none⟩ = false := HX.out.frozen 1
          have HY : Hid (Blk (u6_1.setCell ⟨wr.heap.size, 1, none⟩ (.string bu1)) (wr.heap.size) 147 [.string bu0, .string bu1, .int .i64 0, .string ⟨#[]⟩, .string ⟨#[]⟩, .bool false]) := Lib.hid (HX.out.set_ 1 (.string bu1))
          have HKA : Hid (Keeps [147] u6_1 (u6_1.setCell ⟨wr.heap.size, 1, none⟩ (.string bu1))) := Lib.hid ((Keeps.refl _ _).trans (Keeps.set_ HX.out.typ (by simp) (.string bu1)))
          have HBA : Hid (Below wr.heap.size u6_1 (u6_1.setCell ⟨wr.heap.size, 1, none⟩ (.string bu1))) := Lib.hid ((Below.refl wr.heap.size u6_1).setCell hgx _)
          replace HO := Lib.hid (own_set HO.out hob 1 (.string bu1))
          replace HX := HY
          replace HXo := Lib.hid (HXo.out.keeps HKA.out (by decide))
          replace HRes := Lib.hid (HRes.out.keeps HKA.out (by decide))
          replace HR := Lib.hid (HR.out.keeps HKA.out (HBA.out.mono hbs) (by decide) (by decide))
          replace HB := Lib.hid (HB.out.trans (HBA.out.mono hbs))
          replace HK := Lib.hid (HK.out.below_new HBA.out)
          clear HY HKA HBA
          go_wp2_with fail
          refine (C_num base g (stepO .text (stepO .text (iterO shGrant mw6 ow6))) _ HR.out).mono ?_
          rintro e u6_2 ⟨⟨v, rfl, _⟩, hA, hK⟩
          obtain ⟨nu2, rfl⟩ : ∃ x, x = v := ⟨v, rfl⟩
          replace HR := Lib.hid hA
          replace HB := Lib.hid (HB.out.trans hK.below)
          replace HK := Lib.hid (HK.out.trans hK.keeps)
          replace HX := Lib.hid (HX.out.keeps hK.keeps (by decide))
          replace HO := Lib.hid (HO.out.keeps hK.keeps (by decide))
          replace HXo := Lib.hid (HXo.out.keeps hK.keeps (by decide))
          replace HRes := Lib.hid (HRes.out.keeps hK.keeps (by decide))
          have hszu6_2 := HK.out.size
          clear hA hK
          have hcxu6_2_0 : u6_2.cell? ⟨wr.heap.size, 2, none⟩ = some (.int .i64 0) := HX.out.cell 2
          have hfzu6_2_0 : u6_2.frozen? ⟨wr.heap.size, 2, none⟩ = false := HX.out.frozen 2
          have HY : Hid (Blk (u6_2.setCell ⟨wr.heap.size, 2, none⟩ (.int .i64 nu2)) (wr.heap.size) 147 [.string bu0, .string bu1, .int .i64 nu2, .string ⟨#[]⟩, .string ⟨#[]⟩, .bool false]) := Lib.hid (HX.out.set_ 2 (.int .i64 nu2))
          have HKA : Hid (Keeps [147] u6_2 (u6_2.setCell ⟨wr.heap.size, 2, none⟩ (.int .i64 nu2))) := Lib.hid ((Keeps.refl _ _).trans (Keeps.set_ HX.out.typ (by simp) (.int .i64 nu2)))
          have HBA : Hid (Below wr.heap.size u6_2 (u6_2.setCell ⟨wr.heap.size, 2, none⟩ (.int .i64 nu2))) := Lib.hid ((Below.refl wr.heap.size u6_2).setCell hgx _)
          replace HO := Lib.hid (own_set HO.out hob 2 (.int .i64 nu2))
          replace HX := HY
          replace HXo := Lib.hid (HXo.out.keeps HKA.out (by decide))
          replace HRes := Lib.hid (HRes.out.keeps HKA.out (by decide))
          replace HR := Lib.hid (HR.out.keeps HKA.out (HBA.out.mono hbs) (by decide) (by decide))
          replace HB := Lib.hid (HB.out.trans (HBA.out.mono hbs))
          replace HK := Lib.hid (HK.out.below_new HBA.out)
          clear HY HKA HBA
          go_wp2_with fail
          refine (C_text base g (stepO .num (stepO .text (stepO .text (iterO shGrant mw6 ow6)))) _ HR.out).mono ?_
          rintro e u6_3 ⟨⟨v, rfl, _⟩, hA, hK⟩
          obtain ⟨bu3, rfl⟩ : ∃ x, x = v := ⟨v, rfl⟩
          replace HR := Lib.hid hA
          replace HB := Lib.hid (HB.out.trans hK.below)
          replace HK := Lib.hid (HK.out.trans hK.keeps)
          replace HX := Lib.hid (HX.out.keeps hK.keeps (by decide))
          replace HO := Lib.hid (HO.out.keeps hK.keeps (by decide))
          replace HXo := Lib.hid (HXo.out.keeps hK.keeps (by decide))
          replace HRes := Lib.hid (HRes.out.keeps hK.keeps (by decide))
          have hszu6_3 := HK.out.size
          clear hA hK
          have hcxu6_3_0 : u6_3.cell? ⟨wr.heap.size, 3, none⟩ = some (.string ⟨#[]⟩) := HX.out.cell 3
          have hfzu6_3_0 : u6_3.frozen? ⟨wr.heap.size, 3, none⟩ = false := HX.out.frozen 3
          have HY : Hid (Blk (u6_3.setCell ⟨wr.heap.size, 3, none⟩ (.string bu3)) (wr.heap.size) 147 [.string bu0, .string bu1, .int .i64 nu2, .string bu3, .string ⟨#[]⟩, .bool false]) := Lib.hid (HX.out.set_ 3 (.string bu3))
          have HKA : Hid (Keeps [147] u6_3 (u6_3.setCell ⟨wr.heap.size, 3, none⟩ (.string bu3))) := Lib.hid ((Keeps.refl _ _).trans (Keeps.set_ HX.out.typ (by simp) (.string bu3)))
          have HBA : Hid (Below wr.heap.size u6_3 (u6_3.setCell ⟨wr.heap.size, 3, none⟩ (.string bu3))) := Lib.hid ((Below.refl wr.heap.size u6_3).setCell hgx _)
          replace HO := Lib.hid (own_set HO.out hob 3 (.string bu3))
          replace HX := HY
          replace HXo := Lib.hid (HXo.out.keeps HKA.out (by decide))
          replace HRes := Lib.hid (HRes.out.keeps HKA.out (by decide))
          replace HR := Lib.hid (HR.out.keeps HKA.out (HBA.out.mono hbs) (by decide) (by decide))
          replace HB := Lib.hid (HB.out.trans (HBA.out.mono hbs))
          replace HK := Lib.hid (HK.out.below_new HBA.out)
          clear HY HKA HBA
          go_wp2_with fail
          refine (C_text base g (stepO .text (stepO .num (stepO .text (stepO .text (iterO shGrant mw6 ow6))))) _ HR.out).mono ?_
          rintro e u6_4 ⟨⟨v, rfl, _⟩, hA, hK⟩
          obtain ⟨bu4, rfl⟩ : ∃ x, x = v := ⟨v, rfl⟩
          replace HR := Lib.hid hA
          replace HB := Lib.hid (HB.out.trans hK.below)
          replace HK := Lib.hid (HK.out.trans hK.keeps)
          replace HX := Lib.hid (HX.out.keeps hK.keeps (by decide))
          replace HO := Lib.hid (HO.out.keeps hK.keeps (by decide))
          replace HXo := Lib.hid (HXo.out.keeps hK.keeps (by decide))
          replace HRes := Lib.hid (HRes.out.keeps hK.keeps (by decide))
          have hszu6_4 := HK.out.size
          clear hA hK
          have hcxu6_4_0 : u6_4.cell? ⟨wr.heap.size, 4, none⟩ = some (.string ⟨#[]⟩) := HX.out.cell 4
          have hfzu6_4_0 : u6_4.frozen? ⟨wr.heap.size, 4, none⟩ = false := HX.out.frozen 4
          have HY : Hid (Blk (u6_4.setCell ⟨wr.heap.size, 4, none⟩ (.string bu4)) (wr.heap.size) 147 [.string bu0, .string bu1, .int .i64 nu2, .string bu3, .string bu4, .bool false]) := Lib.hid (HX.out.set_ 4 (.string bu4))
          have HKA : Hid (Keeps [147] u6_4 (u6_4.setCell ⟨wr.heap.size, 4, none⟩ (.string bu4))) := Lib.hid ((Keeps.refl _ _).trans (Keeps.set_ HX.out.typ (by simp) (.string bu4)))
          have HBA : Hid (Below wr.heap.size u6_4 (u6_4.setCell ⟨wr.heap.size, 4, none⟩ (.string bu4))) := Lib.hid ((Below.refl wr.heap.size u6_4).setCell hgx _)
          replace HO := Lib.hid (own_set HO.out hob 4 (.string bu4))
          replace HX := HY
          replace HXo := Lib.hid (HXo.out.keeps HKA.out (by decide))
          replace HRes := Lib.hid (HRes.out.keeps HKA.out (by decide))
          replace HR := Lib.hid (HR.out.keeps HKA.out (HBA.out.mono hbs) (by decide) (by decide))
          replace HB := Lib.hid (HB.out.trans (HBA.out.mono hbs))
          replace HK := Lib.hid (HK.out.below_new HBA.out)
          clear HY HKA HBA
          go_wp2_with fail
          refine (C_flag base g (stepO .text (stepO .text (stepO .num (stepO .text (stepO .text (iterO shGrant mw6 ow6)))))) _ HR.out).mono ?_
          rintro e u6_5 ⟨⟨v, rfl⟩, hA, hK⟩
          obtain ⟨fu5, rfl⟩ : ∃ x, x = v := ⟨v, rfl⟩
          replace HR := Lib.hid hA
          replace HB := Lib.hid (HB.out.trans hK.below)
          replace HK := Lib.hid (HK.out.trans hK.keeps)
          replace HX := Lib.hid (HX.out.keeps hK.keeps (by decide))
          replace HO := Lib.hid (HO.out.keeps hK.keeps (by decide))
          replace HXo := Lib.hid (HXo.out.keeps hK.keeps (by decide))
          replace HRes := Lib.hid (HRes.out.keeps hK.keeps (by decide))
          have hszu6_5 := HK.out.size
          clear hA hK
          have hcxu6_5_0 : u6_5.cell? ⟨wr.heap.size, 5, none⟩ = some (.bool false) := HX.out.cell 5
          have hfzu6_5_0 : u6_5.frozen? ⟨wr.heap.size, 5, none⟩ = false := HX.out.frozen 5
          have HY : Hid (Blk (u6_5.setCell ⟨wr.heap.size, 5, none⟩ (.bool fu5)) (wr.heap.size) 147 [.string bu0, .string bu1, .int .i64 nu2, .string bu3, .string bu4, .bool fu5]) := Lib.hid (HX.out.set_ 5 (.bool fu5))
          have HKA : Hid (Keeps [147] u6_5 (u6_5.setCell ⟨wr.heap.size, 5, none⟩ (.bool fu5))) := Lib.hid ((Keeps.refl _ _).trans (Keeps.set_ HX.out.typ (by simp) (.bool fu5)))
          have HBA : Hid (Below wr.heap.size u6_5 (u6_5.setCell ⟨wr.heap.size, 5, none⟩ (.bool fu5))) := Lib.hid ((Below.refl wr.heap.size u6_5).setCell hgx _)
          replace HO := Lib.hid (own_set HO.out hob 5 (.bool fu5))
          replace HX := HY
          replace HXo := Lib.hid (HXo.out.keeps HKA.out (by decide))
          replace HRes := Lib.hid (HRes.out.keeps HKA.out (by decide))
          replace HR := Lib.hid (HR.out.keeps HKA.out (HBA.out.mono hbs) (by decide) (by decide))
          replace HB := Lib.hid (HB.out.trans (HBA.out.mono hbs))
          replace HK := Lib.hid (HK.out.below_new HBA.out)
          clear HY HKA HBA
          have hst : stepO .flag (stepO .text (stepO .text (stepO .num (stepO .text (stepO .text (iterO shGrant mw6 ow6)))))) = iterO shGrant (mw6 + 1) ow6 := by rw [iterO_succ]; show _ = stepS [.text, .text, .num, .text, .text, .flag] _; simp only [stepS_cons, stepS_nil]
          rw [hst] at HR
          have HA2 := HR
          have HB2 := Lib.hid (HBo.out.trans HB.out)
          have HK2 := Lib.hid (HKo.out.trans HK.out)
          have HX2 := HXo
          have HRes2 := HRes
          have HO2 := HO
          have HXe := HX
          have hiZ : Hid ((Tryz.prog.info? 147).map (·.size) = some (List.length ([.string bu0, .string bu1, .int .i64 nu2, .string bu3, .string bu4, .bool fu5] : List Value))) := Lib.hid (by kernel_rfl)
          have hsz3 := HK.out.size
          clear HBo HB HKo HK HO HR hst hcb HX HXo HRes HTZ
          have hgx := hgx0
          obtain ⟨i0, hi0⟩ : ∃ i, Tryz.prog.info? 147 = some i := by
            cases hq : Tryz.prog.info? 147 with
            | none => have h0 : (Tryz.prog.info? 147).isSome = true := by kernel_rfl
                      rw [hq] at h0; cases h0
            | some i => exact ⟨i, rfl⟩
          have hinf : (Tryz.prog.info? 147).map (fun i => (i.zero, i.size, decide (i.bytes ≤ 1000))) = some (some (.agg #[.string ⟨#[]⟩, .string ⟨#[]⟩, .int .i64 0, .string ⟨#[]⟩, .string ⟨#[]⟩, .bool false]), 6, true) := by kernel_rfl
          rw [hi0] at hinf
          simp only [Option.map_some, Option.some.injEq, Prod.mk.injEq, decide_eq_true_eq] at hinf
          obtain ⟨hz0, hz1, hz2⟩ := hinf
          have hby := Nat.mul_le_mul_left 4097 hz2
          have HI := Lib.hid (And.intro hi0 (And.intro hz0 hz1))
          clear hi0 hz0 hz1
          have hszn : (u6_5.setCell ⟨wr.heap.size, 5, none⟩ (.bool fu5)).heap.size = u6_5.heap.size := by simp
          have HNB2 : Hid (Blk ((u6_5.setCell ⟨wr.heap.size, 5, none⟩ (.bool fu5)).alloc (.cells (List.toArray ([.string bu0, .string bu1, .int .i64 nu2, .string bu3, .string bu4, .bool fu5] : List Value)) 147)) (u6_5.heap.size) 147 [.string bu0, .string bu1, .int .i64 nu2, .string bu3, .string bu4, .bool fu5]) := Lib.hid (by have := Blk.new (u6_5.setCell ⟨wr.heap.size, 5, none⟩ (.bool fu5)) 147 [.string bu0, .string bu1, .int .i64 nu2, .string bu3, .string bu4, .bool fu5]; rwa [hszn] at this)
          have HRG := Lib.hid HXe.out.range0
          have hcxf : (u6_5.setCell ⟨wr.heap.size, 5, none⟩ (.bool fu5)).cell? ⟨w.heap.size + 1, 6, none⟩ = some (.slice Aw6 mw6 kw6) := HX2.out.cell 6
          have hbase2 := HK2.out.size
          go_wp2_with (first | (with_reducible refine wpList_load_mid rfl 147 _ rfl (wr.heap.size) 0 rfl [.string bu0, .string bu1, .int .i64 nu2, .string bu3, .string bu4, .bool fu5] _ HRG.out Tryz.underlying147 rfl hiZ.out ?_) | (at_builtin; refine wpList_appN rfl _ _ 32 rfl w.heap.size 147 i0 _ 6 i0.bytes Tryz.underlying32 HI.out.1 HI.out.2.1 HI.out.2.2 rfl rfl (by decide) (.slice Aw6 mw6 kw6) mw6 xs rfl (HO2.out.alloc _) ⟨u6_5.heap.size, 0, none⟩ 1 [.string bu0, .string bu1, .int .i64 nu2, .string bu3, .string bu4, .bool fu5] rfl rfl HNB2.out.news (by simp [Value.oneCell']) (by unfold maxLen; omega) (Nat.le_trans (Nat.mul_le_mul_right _ (by omega)) (Nat.le_trans hby (by decide))) (by simp at hbase2 ⊢; omega) ?_; intro A3 c3 w3 HO3 HG3; have HXA := Lib.hid ((HX2.out.alloc _).keeps (Keeps.grown (ts := [147]) (HO2.out.alloc _) HG3.out (by simp) HG3.out.size) (by decide)); have hcxa : w3.cell? ⟨w.heap.size + 1, 6, none⟩ = some (.slice Aw6 mw6 kw6) := HXA.out.cell 6; have hfxa : w3.frozen? ⟨w.heap.size + 1, 6, none⟩ = false := HXA.out.frozen 6))
          have HKA : Hid (Keeps [147] (u6_5.setCell ⟨wr.heap.size, 5, none⟩ (.bool fu5)) w3) := Lib.hid ((Keeps.alloc (u6_5.setCell ⟨wr.heap.size, 5, none⟩ (.bool fu5)) _).trans (Keeps.grown (HO2.out.alloc _) HG3.out (by simp) HG3.out.size))
          have HBA : Hid (Below base (u6_5.setCell ⟨wr.heap.size, 5, none⟩ (.bool fu5)) w3) := Lib.hid (((Below.refl _ _).alloc (by omega) _).grown HG3.out (by simp; omega) (by intro k hk; have := own_block_ge HO2.out k hk; omega))
          have HKF : Hid (Keeps [34] w3 (w3.setCell ⟨w.heap.size + 1, 6, none⟩ (.slice A3 (mw6 + 1) c3))) := Lib.hid (Keeps.set_ HXA.out.typ (by simp) _)
          have HBF : Hid (Below w.heap.size w3 (w3.setCell ⟨w.heap.size + 1, 6, none⟩ (.slice A3 (mw6 + 1) c3))) := Lib.hid ((Below.refl _ _).setCell hgx _)
          have hrel : ∃ (j' : Nat) (A : Option Addr) (c : Nat) (xs : List Value), j' ≤ Nw6 ∧ Value.int .i64 ((mw6 : Int) + 1) = .int .i64 j' ∧ Hid (CutAt (w3.setCell ⟨w.heap.size + 1, 6, none⟩ (.slice A3 (mw6 + 1) c3)) base g (iterO shGrant j' ow6)) ∧ Hid ((w3.setCell ⟨w.heap.size + 1, 6, none⟩ (.slice A3 (mw6 + 1) c3)).ownsRow w.heap.size 147 6 (.slice A j' c) j' xs) ∧ Hid (Blk (w3.setCell ⟨w.heap.size + 1, 6, none⟩ (.slice A3 (mw6 + 1) c3)) (w.heap.size + 1) 34 [.int .i64 nw0, .int .i64 nw1, .slice Aw2 mw2 kw2, .slice Aw3 mw3 kw3, .slice Aw4 mw4 kw4, .slice Aw5 mw5 kw5, .slice A j' c]) ∧ Hid (Blk (w3.setCell ⟨w.heap.size + 1, 6, none⟩ (.slice A3 (mw6 + 1) c3)) w.heap.size 34 [.int .i64 0, .int .i64 0, .slice none 0 0, .slice none 0 0, .slice none 0 0, .slice none 0 0, .slice none 0 0]) ∧ Hid (Below base w (w3.setCell ⟨w.heap.size + 1, 6, none⟩ (.slice A3 (mw6 + 1) c3))) ∧ Hid (Keeps [108, 106] w (w3.setCell ⟨w.heap.size + 1, 6, none⟩ (.slice A3 (mw6 + 1) c3))) := by
            refine ⟨mw6 + 1, A3, c3, _, by omega, by simp, Lib.hid ((HA2.out.keeps HKA.out HBA.out (by decide) (by decide)).keeps HKF.out (HBF.out.mono hbs0) (by decide) (by decide)), Lib.hid (HO3.out.kept (grownBy_setCell (World.grownBy.refl _ _) 6 _) (.inr (blk_own_ne HXA.out HO3.out (by decide)).symm)), Lib.hid (HXA.out.set_ 6 _), Lib.hid ((HRes2.out.keeps HKA.out (by decide)).far (by dsimp only; omega) _), Lib.hid ((HB2.out.trans HBA.out).trans (HBF.out.mono hbs0)), Lib.hid (Keeps.below_new ?_ HBF.out)⟩
            exact (HK2.out.then_below ((Below.refl _ _).alloc (Nat.le_refl _) _)).grown_new HG3.out (fun k hk => by have := own_block_ge HO2.out k hk; omega)
          clear HKA HBA HKF HBF HXA HO3 HG3 HO2 HA2 HK2 HB2 HX2 HRes2
          go_wp2
          go_roundw
          case rel => obtain ⟨j', A, c, xs, h1, h2, h3⟩ := hrel; exact ⟨j', A, c, xs, h1, by rw [← h2], h3⟩
          case measure => simp [intOf]; omega
    cases nb with
    | true =>
      replace HR : Hid (CutAt wr base g (stepO (.rows shMember) (stepO (.rows [.text]) (stepO (.rows shTable) (stepO (.rows shSchema) (stepO .num (stepO .num (o)))))))) := Lib.hid (by
        have h1 : iterO shMember mw5 ow5 = none := by have := HNB.out; simpa using this
        rw [HRSw5.out, iterO_none h1 (by omega), ← h1]
        exact HR.out)
      go_wp2_with fail
      refine (C_many base g (stepO (.rows shMember) (stepO (.rows [.text]) (stepO (.rows shTable) (stepO (.rows shSchema) (stepO .num (stepO .num (o))))))) _ HR.out).mono ?_
      rintro e wmw6 ⟨⟨Nw6, rfl, hN4, hN⟩, hA, hK⟩
      have HRSw6 := Lib.hid (rows_step (sh := shGrant) hN)
      obtain ⟨ow6, ho1⟩ : ∃ o1, stepM (stepO (.rows shMember) (stepO (.rows [.text]) (stepO (.rows shTable) (stepO (.rows shSchema) (stepO .num (stepO .num (o))))))) = o1 := ⟨_, rfl⟩
      rw [ho1] at hA HRSw6
      replace HR := Lib.hid hA
      replace HB := Lib.hid (HB.out.trans hK.below)
      replace HK := Lib.hid (HK.out.trans hK.keeps)
      replace HX := Lib.hid (HX.out.keeps hK.keeps (by decide))
      replace HRes := Lib.hid (HRes.out.keeps hK.keeps (by decide))
      clear hN hA hK ho1
      go_wp2
      go_loopw [7] (fun i wr => ∃ (j : Nat) (A : Option Addr) (c : Nat) (xs : List Value), j ≤ Nw6 ∧ i = .int .i64 j ∧ Hid (CutAt wr base g (iterO shGrant j ow6)) ∧ Hid (wr.ownsRow w.heap.size 147 6 (.slice A j c) j xs) ∧ Hid (Blk wr (w.heap.size + 1) 34 [.int .i64 nw0, .int .i64 nw1, .slice Aw2 mw2 kw2, .slice Aw3 mw3 kw3, .slice Aw4 mw4 kw4, .slice Aw5 mw5 kw5, .slice A j c]) ∧ Hid (Blk wr w.heap.size 34 [.int .i64 0, .int .i64 0, .slice none 0 0, .slice none 0 0, .slice none 0 0, .slice none 0 0, .slice none 0 0]) ∧ Hid (Below base w wr) ∧ Hid (Keeps [108, 106] w wr)) (fun i _ => Nw6 - (intOf i).toNat)
      case atStart => exact ⟨0, none, 0, [], Nat.zero_le _, rfl, Lib.hid (by rw [iterO_zero]; exact HR.out), Lib.hid (World.ownsRow_nil _ w.heap.size 147 6), HX, HRes, HB, HK⟩
      case round =>
        clear HR HX HRes HB HK
        obtain ⟨mw6, Aw6, kw6, xs, hj, rfl, HR, HO, HX, HRes, HB, HK⟩ := hrel
        obtain ⟨nb, hnb⟩ : ∃ nb, (iterO shGrant mw6 ow6).isNone = nb := ⟨_, rfl⟩
        have hcb : wr.cell? ⟨g, 1, none⟩ = some (.bool nb) := by
          obtain ⟨r, A', n, c', i, lb, hB, _⟩ := HR.out
          rw [← hnb]
          exact hB.cell 1
        have HNB := Lib.hid hnb
        clear hnb
        have hwr := HB.out.size
        have hwz := HK.out.size
        by_cases hlt2 : mw6 < Nw6
        rotate_left
        · have hjN : mw6 = Nw6 := by omega
          replace HR : Hid (CutAt wr base g (stepO (.rows shGrant) (stepO (.rows shMember) (stepO (.rows [.text]) (stepO (.rows shTable) (stepO (.rows shSchema) (stepO .num (stepO .num (o))))))))) := Lib.hid (by rw [HRSw6.out, ← hjN]; exact HR.out)
          clear hjN
          have HRG := Lib.hid HX.out.range0
          have HTE : Hid (World.there _ w.heap.size 0 (List.toArray ([.int .i64 nw0, .int .i64 nw1, .slice Aw2 mw2 kw2, .slice Aw3 mw3 kw3, .slice Aw4 mw4 kw4, .slice Aw5 mw5 kw5, .slice Aw6 mw6 kw6] : List Value)).size) := Lib.hid (HRes.out.there 0 7 (by simp))
          have hiV : Hid ((Tryz.prog.info? 34).map (·.size) = some (List.length ([.int .i64 nw0, .int .i64 nw1, .slice Aw2 mw2 kw2, .slice Aw3 mw3 kw3, .slice Aw4 mw4 kw4, .slice Aw5 mw5 kw5, .slice Aw6 mw6 kw6] : List Value))) := Lib.hid hi.out
          have hsV : Hid ((Tryz.prog.info? 34).map (·.size) = some (List.toArray ([.int .i64 nw0, .int .i64 nw1, .slice Aw2 mw2 kw2, .slice Aw3 mw3 kw3, .slice Aw4 mw4 kw4, .slice Aw5 mw5 kw5, .slice Aw6 mw6 kw6] : List Value)).size) := Lib.hid hi.out
          have h1V : Hid ((List.toArray ([.int .i64 nw0, .int .i64 nw1, .slice Aw2 mw2 kw2, .slice Aw3 mw3 kw3, .slice Aw4 mw4 kw4, .slice Aw5 mw5 kw5, .slice Aw6 mw6 kw6] : List Value)).all (·.oneCell') = true) := Lib.hid (all_oneCell_toArray (by simp [Value.oneCell']))
          go_wp2_with (first | (with_reducible refine wpList_load_mid rfl 34 _ rfl (w.heap.size + 1) 0 rfl [.int .i64 nw0, .int .i64 nw1, .slice Aw2 mw2 kw2, .slice Aw3 mw3 kw3, .slice Aw4 mw4 kw4, .slice Aw5 mw5 kw5, .slice Aw6 mw6 kw6] _ HRG.out Tryz.underlying34 rfl hiV.out ?_) | (with_reducible refine wpList_store_mid rfl 34 _ _ rfl w.heap.size 0 (List.toArray ([.int .i64 nw0, .int .i64 nw1, .slice Aw2 mw2 kw2, .slice Aw3 mw3 kw3, .slice Aw4 mw4 kw4, .slice Aw5 mw5 kw5, .slice Aw6 mw6 kw6] : List Value)) rfl rfl HTE.out hsV.out h1V.out ?_))
          have HXE := Lib.hid (HRes.out.setCells0 [.int .i64 nw0, .int .i64 nw1, .slice Aw2 mw2 kw2, .slice Aw3 mw3 kw3, .slice Aw4 mw4 kw4, .slice Aw5 mw5 kw5, .slice Aw6 mw6 kw6] rfl)
          have HKE := Lib.hid (Keeps.setCells (ts := [34]) (t := 34) (by simp) HRes.out.typ 0 [.int .i64 nw0, .int .i64 nw1, .slice Aw2 mw2 kw2, .slice Aw3 mw3 kw3, .slice Aw4 mw4 kw4, .slice Aw5 mw5 kw5, .slice Aw6 mw6 kw6])
          refine bodyPost_ret (results_cell rfl _ _ w.heap.size rfl [.int .i64 nw0, .int .i64 nw1, .slice Aw2 mw2 kw2, .slice Aw3 mw3 kw3, .slice Aw4 mw4 kw4, .slice Aw5 mw5 kw5, .slice Aw6 mw6 kw6] _ HXE.out.range0 Tryz.underlying34 rfl hiV.out) rfl ?_
          refine ⟨⟨[.int .i64 nw0, .int .i64 nw1, .slice Aw2 mw2 kw2, .slice Aw3 mw3 kw3, .slice Aw4 mw4 kw4, .slice Aw5 mw5 kw5, .slice Aw6 mw6 kw6], rfl, (Kinds.mk (Kind1.num nw0) (Kinds.mk (Kind1.num nw1) (Kinds.mk (Kind1.rows _ Aw2 mw2 kw2) (Kinds.mk (Kind1.rows _ Aw3 mw3 kw3) (Kinds.mk (Kind1.rows _ Aw4 mw4 kw4) (Kinds.mk (Kind1.rows _ Aw5 mw5 kw5) (Kinds.mk (Kind1.rows _ Aw6 mw6 kw6) Kinds.mk0)))))))⟩, ?_, HB.out.trans (below_setCells_ hbs _ _), HK.out.below_new (below_setCells_ (Nat.le_refl _) _ _)⟩
          have hfin := HR.out.keeps HKE.out (below_setCells_ hbs _ _) (by decide) (by decide)
          simpa only [shCatalog, stepS_cons, stepS_nil] using hfin

        cases nb with
        | true =>
          replace HR : Hid (CutAt wr base g (stepO (.rows shGrant) (stepO (.rows shMember) (stepO (.rows [.text]) (stepO (.rows shTable) (stepO (.rows shSchema) (stepO .num (stepO .num (o))))))))) := Lib.hid (by
            have h1 : iterO shGrant mw6 ow6 = none := by have := HNB.out; simpa using this
            rw [HRSw6.out, iterO_none h1 (by omega), ← h1]
            exact HR.out)
          have HRG := Lib.hid HX.out.range0
          have HTE : Hid (World.there _ w.heap.size 0 (List.toArray ([.int .i64 nw0, .int .i64 nw1, .slice Aw2 mw2 kw2, .slice Aw3 mw3 kw3, .slice Aw4 mw4 kw4, .slice Aw5 mw5 kw5, .slice Aw6 mw6 kw6] : List Value)).size) := Lib.hid (HRes.out.there 0 7 (by simp))
          have hiV : Hid ((Tryz.prog.info? 34).map (·.size) = some (List.length ([.int .i64 nw0, .int .i64 nw1, .slice Aw2 mw2 kw2, .slice Aw3 mw3 kw3, .slice Aw4 mw4 kw4, .slice Aw5 mw5 kw5, .slice Aw6 mw6 kw6] : List Value))) := Lib.hid hi.out
          have hsV : Hid ((Tryz.prog.info? 34).map (·.size) = some (List.toArray ([.int .i64 nw0, .int .i64 nw1, .slice Aw2 mw2 kw2, .slice Aw3 mw3 kw3, .slice Aw4 mw4 kw4, .slice Aw5 mw5 kw5, .slice Aw6 mw6 kw6] : List Value)).size) := Lib.hid hi.out
          have h1V : Hid ((List.toArray ([.int .i64 nw0, .int .i64 nw1, .slice Aw2 mw2 kw2, .slice Aw3 mw3 kw3, .slice Aw4 mw4 kw4, .slice Aw5 mw5 kw5, .slice Aw6 mw6 kw6] : List Value)).all (·.oneCell') = true) := Lib.hid (all_oneCell_toArray (by simp [Value.oneCell']))
          go_wp2_with (first | (with_reducible refine wpList_load_mid rfl 34 _ rfl (w.heap.size + 1) 0 rfl [.int .i64 nw0, .int .i64 nw1, .slice Aw2 mw2 kw2, .slice Aw3 mw3 kw3, .slice Aw4 mw4 kw4, .slice Aw5 mw5 kw5, .slice Aw6 mw6 kw6] _ HRG.out Tryz.underlying34 rfl hiV.out ?_) | (with_reducible refine wpList_store_mid rfl 34 _ _ rfl w.heap.size 0 (List.toArray ([.int .i64 nw0, .int .i64 nw1, .slice Aw2 mw2 kw2, .slice Aw3 mw3 kw3, .slice Aw4 mw4 kw4, .slice Aw5 mw5 kw5, .slice Aw6 mw6 kw6] : List Value)) rfl rfl HTE.out hsV.out h1V.out ?_))
          have HXE := Lib.hid (HRes.out.setCells0 [.int .i64 nw0, .int .i64 nw1, .slice Aw2 mw2 kw2, .slice Aw3 mw3 kw3, .slice Aw4 mw4 kw4, .slice Aw5 mw5 kw5, .slice Aw6 mw6 kw6] rfl)
          have HKE := Lib.hid (Keeps.setCells (ts := [34]) (t := 34) (by simp) HRes.out.typ 0 [.int .i64 nw0, .int .i64 nw1, .slice Aw2 mw2 kw2, .slice Aw3 mw3 kw3, .slice Aw4 mw4 kw4, .slice Aw5 mw5 kw5, .slice Aw6 mw6 kw6])
          refine bodyPost_ret (results_cell rfl _ _ w.heap.size rfl [.int .i64 nw0, .int .i64 nw1, .slice Aw2 mw2 kw2, .slice Aw3 mw3 kw3, .slice Aw4 mw4 kw4, .slice Aw5 mw5 kw5, .slice Aw6 mw6 kw6] _ HXE.out.range0 Tryz.underlying34 rfl hiV.out) rfl ?_
          refine ⟨⟨[.int .i64 nw0, .int .i64 nw1, .slice Aw2 mw2 kw2, .slice Aw3 mw3 kw3, .slice Aw4 mw4 kw4, .slice Aw5 mw5 kw5, .slice Aw6 mw6 kw6], rfl, (Kinds.mk (Kind1.num nw0) (Kinds.mk (Kind1.num nw1) (Kinds.mk (Kind1.rows _ Aw2 mw2 kw2) (Kinds.mk (Kind1.rows _ Aw3 mw3 kw3) (Kinds.mk (Kind1.rows _ Aw4 mw4 kw4) (Kinds.mk (Kind1.rows _ Aw5 mw5 kw5) (Kinds.mk (Kind1.rows _ Aw6 mw6 kw6) Kinds.mk0)))))))⟩, ?_, HB.out.trans (below_setCells_ hbs _ _), HK.out.below_new (below_setCells_ (Nat.le_refl _) _ _)⟩
          have hfin := HR.out.keeps HKE.out (below_setCells_ hbs _ _) (by decide) (by decide)
          simpa only [shCatalog, stepS_cons, stepS_nil] using hfin

        | false =>
          have hbs0 := hbs
          have hobx : ∀ k, (Value.slice Aw6 mw6 kw6).ownBlock = some k → k < wr.heap.size := fun k hk => (HO.out.lt k hk).2
          have HXo := HX
          have HBo := HB
          have HKo := HK
          have hbs1 : base ≤ wr.heap.size := by omega
          replace HX : Hid (Blk (wr.alloc (.cells #[.string ⟨#[]⟩, .string ⟨#[]⟩, .int .i64 0, .string ⟨#[]⟩, .string ⟨#[]⟩, .bool false] 147)) wr.heap.size 147 [.string ⟨#[]⟩, .string ⟨#[]⟩, .int .i64 0, .string ⟨#[]⟩, .string ⟨#[]⟩, .bool false]) := Lib.hid (Blk.new wr 147 [.string ⟨#[]⟩, .string ⟨#[]⟩, .int .i64 0, .string ⟨#[]⟩, .string ⟨#[]⟩, .bool false])
          have HTZ : Hid (World.there (wr.alloc (.cells #[.string ⟨#[]⟩, .string ⟨#[]⟩, .int .i64 0, .string ⟨#[]⟩, .string ⟨#[]⟩, .bool false] 147)) (wr.heap.size) 0 (List.toArray ([.string ⟨#[]⟩, .string ⟨#[]⟩, .int .i64 0, .string ⟨#[]⟩, .string ⟨#[]⟩, .bool false] : List Value)).size) := Lib.hid (HX.out.there 0 6 (by simp))
          have hsZ : Hid ((Tryz.prog.info? 147).map (·.size) = some (List.toArray ([.string ⟨#[]⟩, .string ⟨#[]⟩, .int .i64 0, .string ⟨#[]⟩, .string ⟨#[]⟩, .bool false] : List Value)).size) := Lib.hid (by kernel_rfl)
          have h1Z : Hid ((List.toArray ([.string ⟨#[]⟩, .string ⟨#[]⟩, .int .i64 0, .string ⟨#[]⟩, .string ⟨#[]⟩, .bool false] : List Value)).all (·.oneCell') = true) := Lib.hid (all_oneCell_toArray (by simp [Value.oneCell']))
          have hbw3 : Below wr.heap.size wr ((wr.alloc (.cells #[.string ⟨#[]⟩, .string ⟨#[]⟩, .int .i64 0, .string ⟨#[]⟩, .string ⟨#[]⟩, .bool false] 147)).setCells (wr.heap.size) 0 [.string ⟨#[]⟩, .string ⟨#[]⟩, .int .i64 0, .string ⟨#[]⟩, .string ⟨#[]⟩, .bool false]) := ((Below.refl _ _).alloc (Nat.le_refl _) _).trans (below_setCells_ (Nat.le_refl _) 0 [.string ⟨#[]⟩, .string ⟨#[]⟩, .int .i64 0, .string ⟨#[]⟩, .string ⟨#[]⟩, .bool false])
          replace HR := Lib.hid (HR.out.below_ hbw3)
          replace HB : Hid (Below base wr ((wr.alloc (.cells #[.string ⟨#[]⟩, .string ⟨#[]⟩, .int .i64 0, .string ⟨#[]⟩, .string ⟨#[]⟩, .bool false] 147)).setCells (wr.heap.size) 0 [.string ⟨#[]⟩, .string ⟨#[]⟩, .int .i64 0, .string ⟨#[]⟩, .string ⟨#[]⟩, .bool false])) := Lib.hid (hbw3.mono hbs1)
          replace HK : Hid (Keeps [108, 106] wr ((wr.alloc (.cells #[.string ⟨#[]⟩, .string ⟨#[]⟩, .int .i64 0, .string ⟨#[]⟩, .string ⟨#[]⟩, .bool false] 147)).setCells (wr.heap.size) 0 [.string ⟨#[]⟩, .string ⟨#[]⟩, .int .i64 0, .string ⟨#[]⟩, .string ⟨#[]⟩, .bool false])) := Lib.hid (Keeps.of_below hbw3 (Nat.le_refl _))
          replace HX : Hid (Blk ((wr.alloc (.cells #[.string ⟨#[]⟩, .string ⟨#[]⟩, .int .i64 0, .string ⟨#[]⟩, .string ⟨#[]⟩, .bool false] 147)).setCells (wr.heap.size) 0 [.string ⟨#[]⟩, .string ⟨#[]⟩, .int .i64 0, .string ⟨#[]⟩, .string ⟨#[]⟩, .bool false]) wr.heap.size 147 [.string ⟨#[]⟩, .string ⟨#[]⟩, .int .i64 0, .string ⟨#[]⟩, .string ⟨#[]⟩, .bool false]) := Lib.hid (HX.out.setCells0 [.string ⟨#[]⟩, .string ⟨#[]⟩, .int .i64 0, .string ⟨#[]⟩, .string ⟨#[]⟩, .bool false] rfl)
          replace HXo := Lib.hid (HXo.out.below hbw3 HXo.out.lt)
          replace HRes := Lib.hid (HRes.out.below hbw3 HRes.out.lt)
          replace HO := Lib.hid (HO.out.below_ hbw3)
          clear hbw3
          have hob := hobx
          have hgx0 := hgx
          have hgx : wr.heap.size ≤ wr.heap.size := Nat.le_refl _
          have hbs := hbs1
          go_wp2_with (with_reducible refine wpList_store_mid rfl 147 _ _ rfl (wr.heap.size) 0 (List.toArray ([.string ⟨#[]⟩, .string ⟨#[]⟩, .int .i64 0, .string ⟨#[]⟩, .string ⟨#[]⟩, .bool false] : List Value)) rfl rfl HTZ.out hsZ.out h1Z.out ?_)
          refine (C_text base g (iterO shGrant mw6 ow6) _ HR.out).mono ?_
          rintro e u6_0 ⟨⟨v, rfl, _⟩, hA, hK⟩
          obtain ⟨bu0, rfl⟩ : ∃ x, x = v := ⟨v, rfl⟩
          replace HR := Lib.hid hA
          replace HB := Lib.hid (HB.out.trans hK.below)
          replace HK := Lib.hid (HK.out.trans hK.keeps)
          replace HX := Lib.hid (HX.out.keeps hK.keeps (by decide))
          replace HO := Lib.hid (HO.out.keeps hK.keeps (by decide))
          replace HXo := Lib.hid (HXo.out.keeps hK.keeps (by decide))
          replace HRes := Lib.hid (HRes.out.keeps hK.keeps (by decide))
          have hszu6_0 := HK.out.size
          clear hA hK
          have hcxu6_0_0 : u6_0.cell? ⟨wr.heap.size, 0, none⟩ = some (.string ⟨#[]⟩) := HX.out.cell 0
          have hfzu6_0_0 : u6_0.frozen? ⟨wr.heap.size, 0, none⟩ = false := HX.out.frozen 0
          have HY : Hid (Blk (u6_0.setCell ⟨wr.heap.size, 0, none⟩ (.string bu0)) (wr.heap.size) 147 [.string bu0, .string ⟨#[]⟩, .int .i64 0, .string ⟨#[]⟩, .string ⟨#[]⟩, .bool false]) := Lib.hid (HX.out.set_ 0 (.string bu0))
          have HKA : Hid (Keeps [147] u6_0 (u6_0.setCell ⟨wr.heap.size, 0, none⟩ (.string bu0))) := Lib.hid ((Keeps.refl _ _).trans (Keeps.set_ HX.out.typ (by simp) (.string bu0)))
          have HBA : Hid (Below wr.heap.size u6_0 (u6_0.setCell ⟨wr.heap.size, 0, none⟩ (.string bu0))) := Lib.hid ((Below.refl wr.heap.size u6_0).setCell hgx _)
          replace HO := Lib.hid (own_set HO.out hob 0 (.string bu0))
          replace HX := HY
          replace HXo := Lib.hid (HXo.out.keeps HKA.out (by decide))
          replace HRes := Lib.hid (HRes.out.keeps HKA.out (by decide))
          replace HR := Lib.hid (HR.out.keeps HKA.out (HBA.out.mono hbs) (by decide) (by decide))
          replace HB := Lib.hid (HB.out.trans (HBA.out.mono hbs))
          replace HK := Lib.hid (HK.out.below_new HBA.out)
          clear HY HKA HBA
          go_wp2_with fail
          refine (C_text base g (stepO .text (iterO shGrant mw6 ow6)) _ HR.out).mono ?_
          rintro e u6_1 ⟨⟨v, rfl, _⟩, hA, hK⟩
          obtain ⟨bu1, rfl⟩ : ∃ x, x = v := ⟨v, rfl⟩
          replace HR := Lib.hid hA
          replace HB := Lib.hid (HB.out.trans hK.below)
          replace HK := Lib.hid (HK.out.trans hK.keeps)
          replace HX := Lib.hid (HX.out.keeps hK.keeps (by decide))
          replace HO := Lib.hid (HO.out.keeps hK.keeps (by decide))
          replace HXo := Lib.hid (HXo.out.keeps hK.keeps (by decide))
          replace HRes := Lib.hid (HRes.out.keeps hK.keeps (by decide))
          have hszu6_1 := HK.out.size
          clear hA hK
          have hcxu6_1_0 : u6_1.cell? ⟨wr.heap.size, 1, none⟩ = some (.string ⟨#[]⟩) := HX.out.cell 1
          have hfzu6_1_0 : u6_1.frozen? ⟨wr.heap.size, 1, none⟩ = false := HX.out.frozen 1
          have HY : Hid (Blk (u6_1.setCell ⟨wr.heap.size, 1, none⟩ (.string bu1)) (wr.heap.size) 147 [.string bu0, .string bu1, .int .i64 0, .string ⟨#[]⟩, .string ⟨#[]⟩, .bool false]) := Lib.hid (HX.out.set_ 1 (.string bu1))
          have HKA : Hid (Keeps [147] u6_1 (u6_1.setCell ⟨wr.heap.size, 1, none⟩ (.string bu1))) := Lib.hid ((Keeps.refl _ _).trans (Keeps.set_ HX.out.typ (by simp) (.string bu1)))
          have HBA : Hid (Below wr.heap.size u6_1 (u6_1.setCell ⟨wr.heap.size, 1, none⟩ (.string bu1))) := Lib.hid ((Below.refl wr.heap.size u6_1).setCell hgx _)
          replace HO := Lib.hid (own_set HO.out hob 1 (.string bu1))
          replace HX := HY
          replace HXo := Lib.hid (HXo.out.keeps HKA.out (by decide))
          replace HRes := Lib.hid (HRes.out.keeps HKA.out (by decide))
          replace HR := Lib.hid (HR.out.keeps HKA.out (HBA.out.mono hbs) (by decide) (by decide))
          replace HB := Lib.hid (HB.out.trans (HBA.out.mono hbs))
          replace HK := Lib.hid (HK.out.below_new HBA.out)
          clear HY HKA HBA
          go_wp2_with fail
          refine (C_num base g (stepO .text (stepO .text (iterO shGrant mw6 ow6))) _ HR.out).mono ?_
          rintro e u6_2 ⟨⟨v, rfl, _⟩, hA, hK⟩
          obtain ⟨nu2, rfl⟩ : ∃ x, x = v := ⟨v, rfl⟩
          replace HR := Lib.hid hA
          replace HB := Lib.hid (HB.out.trans hK.below)
          replace HK := Lib.hid (HK.out.trans hK.keeps)
          replace HX := Lib.hid (HX.out.keeps hK.keeps (by decide))
          replace HO := Lib.hid (HO.out.keeps hK.keeps (by decide))
          replace HXo := Lib.hid (HXo.out.keeps hK.keeps (by decide))
          replace HRes := Lib.hid (HRes.out.keeps hK.keeps (by decide))
          have hszu6_2 := HK.out.size
          clear hA hK
          have hcxu6_2_0 : u6_2.cell? ⟨wr.heap.size, 2, none⟩ = some (.int .i64 0) := HX.out.cell 2
          have hfzu6_2_0 : u6_2.frozen? ⟨wr.heap.size, 2, none⟩ = false := HX.out.frozen 2
          have HY : Hid (Blk (u6_2.setCell ⟨wr.heap.size, 2, none⟩ (.int .i64 nu2)) (wr.heap.size) 147 [.string bu0, .string bu1, .int .i64 nu2, .string ⟨#[]⟩, .string ⟨#[]⟩, .bool false]) := Lib.hid (HX.out.set_ 2 (.int .i64 nu2))
          have HKA : Hid (Keeps [147] u6_2 (u6_2.setCell ⟨wr.heap.size, 2, none⟩ (.int .i64 nu2))) := Lib.hid ((Keeps.refl _ _).trans (Keeps.set_ HX.out.typ (by simp) (.int .i64 nu2)))
          have HBA : Hid (Below wr.heap.size u6_2 (u6_2.setCell ⟨wr.heap.size, 2, none⟩ (.int .i64 nu2))) := Lib.hid ((Below.refl wr.heap.size u6_2).setCell hgx _)
          replace HO := Lib.hid (own_set HO.out hob 2 (.int .i64 nu2))
          replace HX := HY
          replace HXo := Lib.hid (HXo.out.keeps HKA.out (by decide))
          replace HRes := Lib.hid (HRes.out.keeps HKA.out (by decide))
          replace HR := Lib.hid (HR.out.keeps HKA.out (HBA.out.mono hbs) (by decide) (by decide))
          replace HB := Lib.hid (HB.out.trans (HBA.out.mono hbs))
          replace HK := Lib.hid (HK.out.below_new HBA.out)
          clear HY HKA HBA
          go_wp2_with fail
          refine (C_text base g (stepO .num (stepO .text (stepO .text (iterO shGrant mw6 ow6)))) _ HR.out).mono ?_
          rintro e u6_3 ⟨⟨v, rfl, _⟩, hA, hK⟩
          obtain ⟨bu3, rfl⟩ : ∃ x, x = v := ⟨v, rfl⟩
          replace HR := Lib.hid hA
          replace HB := Lib.hid (HB.out.trans hK.below)
          replace HK := Lib.hid (HK.out.trans hK.keeps)
          replace HX := Lib.hid (HX.out.keeps hK.keeps (by decide))
          replace HO := Lib.hid (HO.out.keeps hK.keeps (by decide))
          replace HXo := Lib.hid (HXo.out.keeps hK.keeps (by decide))
          replace HRes := Lib.hid (HRes.out.keeps hK.keeps (by decide))
          have hszu6_3 := HK.out.size
          clear hA hK
          have hcxu6_3_0 : u6_3.cell? ⟨wr.heap.size, 3, none⟩ = some (.string ⟨#[]⟩) := HX.out.cell 3
          have hfzu6_3_0 : u6_3.frozen? ⟨wr.heap.size, 3, none⟩ = false := HX.out.frozen 3
          have HY : Hid (Blk (u6_3.setCell ⟨wr.heap.size, 3, none⟩ (.string bu3)) (wr.heap.size) 147 [.string bu0, .string bu1, .int .i64 nu2, .string bu3, .string ⟨#[]⟩, .bool false]) := Lib.hid (HX.out.set_ 3 (.string bu3))
          have HKA : Hid (Keeps [147] u6_3 (u6_3.setCell ⟨wr.heap.size, 3, none⟩ (.string bu3))) := Lib.hid ((Keeps.refl _ _).trans (Keeps.set_ HX.out.typ (by simp) (.string bu3)))
          have HBA : Hid (Below wr.heap.size u6_3 (u6_3.setCell ⟨wr.heap.size, 3, none⟩ (.string bu3))) := Lib.hid ((Below.refl wr.heap.size u6_3).setCell hgx _)
          replace HO := Lib.hid (own_set HO.out hob 3 (.string bu3))
          replace HX := HY
          replace HXo := Lib.hid (HXo.out.keeps HKA.out (by decide))
          replace HRes := Lib.hid (HRes.out.keeps HKA.out (by decide))
          replace HR := Lib.hid (HR.out.keeps HKA.out (HBA.out.mono hbs) (by decide) (by decide))
          replace HB := Lib.hid (HB.out.trans (HBA.out.mono hbs))
          replace HK := Lib.hid (HK.out.below_new HBA.out)
          clear HY HKA HBA
          go_wp2_with fail
          refine (C_text base g (stepO .text (stepO .num (stepO .text (stepO .text (iterO shGrant mw6 ow6))))) _ HR.out).mono ?_
          rintro e u6_4 ⟨⟨v, rfl, _⟩, hA, hK⟩
          obtain ⟨bu4, rfl⟩ : ∃ x, x = v := ⟨v, rfl⟩
          replace HR := Lib.hid hA
          replace HB := Lib.hid (HB.out.trans hK.below)
          replace HK := Lib.hid (HK.out.trans hK.keeps)
          replace HX := Lib.hid (HX.out.keeps hK.keeps (by decide))
          replace HO := Lib.hid (HO.out.keeps hK.keeps (by decide))
          replace HXo := Lib.hid (HXo.out.keeps hK.keeps (by decide))
          replace HRes := Lib.hid (HRes.out.keeps hK.keeps (by decide))
          have hszu6_4 := HK.out.size
          clear hA hK
          have hcxu6_4_0 : u6_4.cell? ⟨wr.heap.size, 4, none⟩ = some (.string ⟨#[]⟩) := HX.out.cell 4
          have hfzu6_4_0 : u6_4.frozen? ⟨wr.heap.size, 4, none⟩ = false := HX.out.frozen 4
          have HY : Hid (Blk (u6_4.setCell ⟨wr.heap.size, 4, none⟩ (.string bu4)) (wr.heap.size) 147 [.string bu0, .string bu1, .int .i64 nu2, .string bu3, .string bu4, .bool false]) := Lib.hid (HX.out.set_ 4 (.string bu4))
          have HKA : Hid (Keeps [147] u6_4 (u6_4.setCell ⟨wr.heap.size, 4, none⟩ (.string bu4))) := Lib.hid ((Keeps.refl _ _).trans (Keeps.set_ HX.out.typ (by simp) (.string bu4)))
          have HBA : Hid (Below wr.heap.size u6_4 (u6_4.setCell ⟨wr.heap.size, 4, none⟩ (.string bu4))) := Lib.hid ((Below.refl wr.heap.size u6_4).setCell hgx _)
          replace HO := Lib.hid (own_set HO.out hob 4 (.string bu4))
          replace HX := HY
          replace HXo := Lib.hid (HXo.out.keeps HKA.out (by decide))
          replace HRes := Lib.hid (HRes.out.keeps HKA.out (by decide))
          replace HR := Lib.hid (HR.out.keeps HKA.out (HBA.out.mono hbs) (by decide) (by decide))
          replace HB := Lib.hid (HB.out.trans (HBA.out.mono hbs))
          replace HK := Lib.hid (HK.out.below_new HBA.out)
          clear HY HKA HBA
          go_wp2_with fail
          refine (C_flag base g (stepO .text (stepO .text (stepO .num (stepO .text (stepO .text (iterO shGrant mw6 ow6)))))) _ HR.out).mono ?_
          rintro e u6_5 ⟨⟨v, rfl⟩, hA, hK⟩
          obtain ⟨fu5, rfl⟩ : ∃ x, x = v := ⟨v, rfl⟩
          replace HR := Lib.hid hA
          replace HB := Lib.hid (HB.out.trans hK.below)
          replace HK := Lib.hid (HK.out.trans hK.keeps)
          replace HX := Lib.hid (HX.out.keeps hK.keeps (by decide))
          replace HO := Lib.hid (HO.out.keeps hK.keeps (by decide))
          replace HXo := Lib.hid (HXo.out.keeps hK.keeps (by decide))
          replace HRes := Lib.hid (HRes.out.keeps hK.keeps (by decide))
          have hszu6_5 := HK.out.size
          clear hA hK
          have hcxu6_5_0 : u6_5.cell? ⟨wr.heap.size, 5, none⟩ = some (.bool false) := HX.out.cell 5
          have hfzu6_5_0 : u6_5.frozen? ⟨wr.heap.size, 5, none⟩ = false := HX.out.frozen 5
          have HY : Hid (Blk (u6_5.setCell ⟨wr.heap.size, 5, none⟩ (.bool fu5)) (wr.heap.size) 147 [.string bu0, .string bu1, .int .i64 nu2, .string bu3, .string bu4, .bool fu5]) := Lib.hid (HX.out.set_ 5 (.bool fu5))
          have HKA : Hid (Keeps [147] u6_5 (u6_5.setCell ⟨wr.heap.size, 5, none⟩ (.bool fu5))) := Lib.hid ((Keeps.refl _ _).trans (Keeps.set_ HX.out.typ (by simp) (.bool fu5)))
          have HBA : Hid (Below wr.heap.size u6_5 (u6_5.setCell ⟨wr.heap.size, 5, none⟩ (.bool fu5))) := Lib.hid ((Below.refl wr.heap.size u6_5).setCell hgx _)
          replace HO := Lib.hid (own_set HO.out hob 5 (.bool fu5))
          replace HX := HY
          replace HXo := Lib.hid (HXo.out.keeps HKA.out (by decide))
          replace HRes := Lib.hid (HRes.out.keeps HKA.out (by decide))
          replace HR := Lib.hid (HR.out.keeps HKA.out (HBA.out.mono hbs) (by decide) (by decide))
          replace HB := Lib.hid (HB.out.trans (HBA.out.mono hbs))
          replace HK := Lib.hid (HK.out.below_new HBA.out)
          clear HY HKA HBA
          have hst : stepO .flag (stepO .text (stepO .text (stepO .num (stepO .text (stepO .text (iterO shGrant mw6 ow6)))))) = iterO shGrant (mw6 + 1) ow6 := by rw [iterO_succ]; show _ = stepS [.text, .text, .num, .text, .text, .flag] _; simp only [stepS_cons, stepS_nil]
          rw [hst] at HR
          have HA2 := HR
          have HB2 := Lib.hid (HBo.out.trans HB.out)
          have HK2 := Lib.hid (HKo.out.trans HK.out)
          have HX2 := HXo
          have HRes2 := HRes
          have HO2 := HO
          have HXe := HX
          have hiZ : Hid ((Tryz.prog.info? 147).map (·.size) = some (List.length ([.string bu0, .string bu1, .int .i64 nu2, .string bu3, .string bu4, .bool fu5] : List Value))) := Lib.hid (by kernel_rfl)
          have hsz3 := HK.out.size
          clear HBo HB HKo HK HO HR hst hcb HX HXo HRes HTZ
          have hgx := hgx0
          obtain ⟨i0, hi0⟩ : ∃ i, Tryz.prog.info? 147 = some i := by
            cases hq : Tryz.prog.info? 147 with
            | none => have h0 : (Tryz.prog.info? 147).isSome = true := by kernel_rfl
                      rw [hq] at h0; cases h0
            | some i => exact ⟨i, rfl⟩
          have hinf : (Tryz.prog.info? 147).map (fun i => (i.zero, i.size, decide (i.bytes ≤ 1000))) = some (some (.agg #[.string ⟨#[]⟩, .string ⟨#[]⟩, .int .i64 0, .string ⟨#[]⟩, .string ⟨#[]⟩, .bool false]), 6, true) := by kernel_rfl
          rw [hi0] at hinf
          simp only [Option.map_some, Option.some.injEq, Prod.mk.injEq, decide_eq_true_eq] at hinf
          obtain ⟨hz0, hz1, hz2⟩ := hinf
          have hby := Nat.mul_le_mul_left 4097 hz2
          have HI := Lib.hid (And.intro hi0 (And.intro hz0 hz1))
          clear hi0 hz0 hz1
          have hszn : (u6_5.setCell ⟨wr.heap.size, 5, none⟩ (.bool fu5)).heap.size = u6_5.heap.size := by simp
          have HNB2 : Hid (Blk ((u6_5.setCell ⟨wr.heap.size, 5, none⟩ (.bool fu5)).alloc (.cells (List.toArray ([.string bu0, .string bu1, .int .i64 nu2, .string bu3, .string bu4, .bool fu5] : List Value)) 147)) (u6_5.heap.size) 147 [.string bu0, .string bu1, .int .i64 nu2, .string bu3, .string bu4, .bool fu5]) := Lib.hid (by have := Blk.new (u6_5.setCell ⟨wr.heap.size, 5, none⟩ (.bool fu5)) 147 [.string bu0, .string bu1, .int .i64 nu2, .string bu3, .string bu4, .bool fu5]; rwa [hszn] at this)
          have HRG := Lib.hid HXe.out.range0
          have hcxf : (u6_5.setCell ⟨wr.heap.size, 5, none⟩ (.bool fu5)).cell? ⟨w.heap.size + 1, 6, none⟩ = some (.slice Aw6 mw6 kw6) := HX2.out.cell 6
          have hbase2 := HK2.out.size
          go_wp2_with (first | (with_reducible refine wpList_load_mid rfl 147 _ rfl (wr.heap.size) 0 rfl [.string bu0, .string bu1, .int .i64 nu2, .string bu3, .string bu4, .bool fu5] _ HRG.out Tryz.underlying147 rfl hiZ.out ?_) | (at_builtin; refine wpList_appN rfl _ _ 32 rfl w.heap.size 147 i0 _ 6 i0.bytes Tryz.underlying32 HI.out.1 HI.out.2.1 HI.out.2.2 rfl rfl (by decide) (.slice Aw6 mw6 kw6) mw6 xs rfl (HO2.out.alloc _) ⟨u6_5.heap.size, 0, none⟩ 1 [.string bu0, .string bu1, .int .i64 nu2, .string bu3, .string bu4, .bool fu5] rfl rfl HNB2.out.news (by simp [Value.oneCell']) (by unfold maxLen; omega) (Nat.le_trans (Nat.mul_le_mul_right _ (by omega)) (Nat.le_trans hby (by decide))) (by simp at hbase2 ⊢; omega) ?_; intro A3 c3 w3 HO3 HG3; have HXA := Lib.hid ((HX2.out.alloc _).keeps (Keeps.grown (ts := [147]) (HO2.out.alloc _) HG3.out (by simp) HG3.out.size) (by decide)); have hcxa : w3.cell? ⟨w.heap.size + 1, 6, none⟩ = some (.slice Aw6 mw6 kw6) := HXA.out.cell 6; have hfxa : w3.frozen? ⟨w.heap.size + 1, 6, none⟩ = false := HXA.out.frozen 6))
          have HKA : Hid (Keeps [147] (u6_5.setCell ⟨wr.heap.size, 5, none⟩ (.bool fu5)) w3) := Lib.hid ((Keeps.alloc (u6_5.setCell ⟨wr.heap.size, 5, none⟩ (.bool fu5)) _).trans (Keeps.grown (HO2.out.alloc _) HG3.out (by simp) HG3.out.size))
          have HBA : Hid (Below base (u6_5.setCell ⟨wr.heap.size, 5, none⟩ (.bool fu5)) w3) := Lib.hid (((Below.refl _ _).alloc (by omega) _).grown HG3.out (by simp; omega) (by intro k hk; have := own_block_ge HO2.out k hk; omega))
          have HKF : Hid (Keeps [34] w3 (w3.setCell ⟨w.heap.size + 1, 6, none⟩ (.slice A3 (mw6 + 1) c3))) := Lib.hid (Keeps.set_ HXA.out.typ (by simp) _)
          have HBF : Hid (Below w.heap.size w3 (w3.setCell ⟨w.heap.size + 1, 6, none⟩ (.slice A3 (mw6 + 1) c3))) := Lib.hid ((Below.refl _ _).setCell hgx _)
          have hrel : ∃ (j' : Nat) (A : Option Addr) (c : Nat) (xs : List Value), j' ≤ Nw6 ∧ Value.int .i64 ((mw6 : Int) + 1) = .int .i64 j' ∧ Hid (CutAt (w3.setCell ⟨w.heap.size + 1, 6, none⟩ (.slice A3 (mw6 + 1) c3)) base g (iterO shGrant j' ow6)) ∧ Hid ((w3.setCell ⟨w.heap.size + 1, 6, none⟩ (.slice A3 (mw6 + 1) c3)).ownsRow w.heap.size 147 6 (.slice A j' c) j' xs) ∧ Hid (Blk (w3.setCell ⟨w.heap.size + 1, 6, none⟩ (.slice A3 (mw6 + 1) c3)) (w.heap.size + 1) 34 [.int .i64 nw0, .int .i64 nw1, .slice Aw2 mw2 kw2, .slice Aw3 mw3 kw3, .slice Aw4 mw4 kw4, .slice Aw5 mw5 kw5, .slice A j' c]) ∧ Hid (Blk (w3.setCell ⟨w.heap.size + 1, 6, none⟩ (.slice A3 (mw6 + 1) c3)) w.heap.size 34 [.int .i64 0, .int .i64 0, .slice none 0 0, .slice none 0 0, .slice none 0 0, .slice none 0 0, .slice none 0 0]) ∧ Hid (Below base w (w3.setCell ⟨w.heap.size + 1, 6, none⟩ (.slice A3 (mw6 + 1) c3))) ∧ Hid (Keeps [108, 106] w (w3.setCell ⟨w.heap.size + 1, 6, none⟩ (.slice A3 (mw6 + 1) c3))) := by
            refine ⟨mw6 + 1, A3, c3, _, by omega, by simp, Lib.hid ((HA2.out.keeps HKA.out HBA.out (by decide) (by decide)).keeps HKF.out (HBF.out.mono hbs0) (by decide) (by decide)), Lib.hid (HO3.out.kept (grownBy_setCell (World.grownBy.refl _ _) 6 _) (.inr (blk_own_ne HXA.out HO3.out (by decide)).symm)), Lib.hid (HXA.out.set_ 6 _), Lib.hid ((HRes2.out.keeps HKA.out (by decide)).far (by dsimp only; omega) _), Lib.hid ((HB2.out.trans HBA.out).trans (HBF.out.mono hbs0)), Lib.hid (Keeps.below_new ?_ HBF.out)⟩
            exact (HK2.out.then_below ((Below.refl _ _).alloc (Nat.le_refl _) _)).grown_new HG3.out (fun k hk => by have := own_block_ge HO2.out k hk; omega)
          clear HKA HBA HKF HBF HXA HO3 HG3 HO2 HA2 HK2 HB2 HX2 HRes2
          go_wp2
          go_roundw
          case rel => obtain ⟨j', A, c, xs, h1, h2, h3⟩ := hrel; exact ⟨j', A, c, xs, h1, by rw [← h2], h3⟩
          case measure => simp [intOf]; omega
    | false =>
      have hbs0 := hbs
      have hobx : ∀ k, (Value.slice Aw5 mw5 kw5).ownBlock = some k → k < wr.heap.size := fun k hk => (HO.out.lt k hk).2
      have HXo := HX
      have HBo := HB
      have HKo := HK
      have hbs1 : base ≤ wr.heap.size := by omega
      replace HX : Hid (Blk (wr.alloc (.cells #[.string ⟨#[]⟩, .string ⟨#[]⟩] 142)) wr.heap.size 142 [.string ⟨#[]⟩, .string ⟨#[]⟩]) := Lib.hid (Blk.new wr 142 [.string ⟨#[]⟩, .string ⟨#[]⟩])
      have HTZ : Hid (World.there (wr.alloc (.cells #[.string ⟨#[]⟩, .string ⟨#[]⟩] 142)) (wr.heap.size) 0 (List.toArray ([.string ⟨#[]⟩, .string ⟨#[]⟩] : List Value)).size) := Lib.hid (HX.out.there 0 2 (by simp))
      have hsZ : Hid ((Tryz.prog.info? 142).map (·.size) = some (List.toArray ([.string ⟨#[]⟩, .string ⟨#[]⟩] : List Value)).size) := Lib.hid (by kernel_rfl)
      have h1Z : Hid ((List.toArray ([.string ⟨#[]⟩, .string ⟨#[]⟩] : List Value)).all (·.oneCell') = true) := Lib.hid (all_oneCell_toArray (by simp [Value.oneCell']))
      have hbw3 : Below wr.heap.size wr ((wr.alloc (.cells #[.string ⟨#[]⟩, .string ⟨#[]⟩] 142)).setCells (wr.heap.size) 0 [.string ⟨#[]⟩, .string ⟨#[]⟩]) := ((Below.refl _ _).alloc (Nat.le_refl _) _).trans (below_setCells_ (Nat.le_refl _) 0 [.string ⟨#[]⟩, .string ⟨#[]⟩])
      replace HR := Lib.hid (HR.out.below_ hbw3)
      replace HB : Hid (Below base wr ((wr.alloc (.cells #[.string ⟨#[]⟩, .string ⟨#[]⟩] 142)).setCells (wr.heap.size) 0 [.string ⟨#[]⟩, .string ⟨#[]⟩])) := Lib.hid (hbw3.mono hbs1)
      replace HK : Hid (Keeps [108, 106] wr ((wr.alloc (.cells #[.string ⟨#[]⟩, .string ⟨#[]⟩] 142)).setCells (wr.heap.size) 0 [.string ⟨#[]⟩, .string ⟨#[]⟩])) := Lib.hid (Keeps.of_below hbw3 (Nat.le_refl _))
      replace HX : Hid (Blk ((wr.alloc (.cells #[.string ⟨#[]⟩, .string ⟨#[]⟩] 142)).setCells (wr.heap.size) 0 [.string ⟨#[]⟩, .string ⟨#[]⟩]) wr.heap.size 142 [.string ⟨#[]⟩, .string ⟨#[]⟩]) := Lib.hid (HX.out.setCells0 [.string ⟨#[]⟩, .string ⟨#[]⟩] rfl)
      replace HXo := Lib.hid (HXo.out.below hbw3 HXo.out.lt)
      replace HRes := Lib.hid (HRes.out.below hbw3 HRes.out.lt)
      replace HO := Lib.hid (HO.out.below_ hbw3)
      clear hbw3
      have hob := hobx
      have hgx0 := hgx
      have hgx : wr.heap.size ≤ wr.heap.size := Nat.le_refl _
      have hbs := hbs1
      go_wp2_with (with_reducible refine wpList_store_mid rfl 142 _ _ rfl (wr.heap.size) 0 (List.toArray ([.string ⟨#[]⟩, .string ⟨#[]⟩] : List Value)) rfl rfl HTZ.out hsZ.out h1Z.out ?_)
      refine (C_text base g (iterO shMember mw5 ow5) _ HR.out).mono ?_
      rintro e u5_0 ⟨⟨v, rfl, _⟩, hA, hK⟩
      obtain ⟨bu0, rfl⟩ : ∃ x, x = v := ⟨v, rfl⟩
      replace HR := Lib.hid hA
      replace HB := Lib.hid (HB.out.trans hK.below)
      replace HK := Lib.hid (HK.out.trans hK.keeps)
      replace HX := Lib.hid (HX.out.keeps hK.keeps (by decide))
      replace HO := Lib.hid (HO.out.keeps hK.keeps (by decide))
      replace HXo := Lib.hid (HXo.out.keeps hK.keeps (by decide))
      replace HRes := Lib.hid (HRes.out.keeps hK.keeps (by decide))
      have hszu5_0 := HK.out.size
      clear hA hK
      have hcxu5_0_0 : u5_0.cell? ⟨wr.heap.size, 0, none⟩ = some (.string ⟨#[]⟩) := HX.out.cell 0
      have hfzu5_0_0 : u5_0.frozen? ⟨wr.heap.size, 0, none⟩ = false := HX.out.frozen 0
      have HY : Hid (Blk (u5_0.setCell ⟨wr.heap.size, 0, none⟩ (.string bu0)) (wr.heap.size) 142 [.string bu0, .string ⟨#[]⟩]) := Lib.hid (HX.out.set_ 0 (.string bu0))
      have HKA : Hid (Keeps [142] u5_0 (u5_0.setCell ⟨wr.heap.size, 0, none⟩ (.string bu0))) := Lib.hid ((Keeps.refl _ _).trans (Keeps.set_ HX.out.typ (by simp) (.string bu0)))
      have HBA : Hid (Below wr.heap.size u5_0 (u5_0.setCell ⟨wr.heap.size, 0, none⟩ (.string bu0))) := Lib.hid ((Below.refl wr.heap.size u5_0).setCell hgx _)
      replace HO := Lib.hid (own_set HO.out hob 0 (.string bu0))
      replace HX := HY
      replace HXo := Lib.hid (HXo.out.keeps HKA.out (by decide))
      replace HRes := Lib.hid (HRes.out.keeps HKA.out (by decide))
      replace HR := Lib.hid (HR.out.keeps HKA.out (HBA.out.mono hbs) (by decide) (by decide))
      replace HB := Lib.hid (HB.out.trans (HBA.out.mono hbs))
      replace HK := Lib.hid (HK.out.below_new HBA.out)
      clear HY HKA HBA
      go_wp2_with fail
      refine (C_text base g (stepO .text (iterO shMember mw5 ow5)) _ HR.out).mono ?_
      rintro e u5_1 ⟨⟨v, rfl, _⟩, hA, hK⟩
      obtain ⟨bu1, rfl⟩ : ∃ x, x = v := ⟨v, rfl⟩
      replace HR := Lib.hid hA
      replace HB := Lib.hid (HB.out.trans hK.below)
      replace HK := Lib.hid (HK.out.trans hK.keeps)
      replace HX := Lib.hid (HX.out.keeps hK.keeps (by decide))
      replace HO := Lib.hid (HO.out.keeps hK.keeps (by decide))
      replace HXo := Lib.hid (HXo.out.keeps hK.keeps (by decide))
      replace HRes := Lib.hid (HRes.out.keeps hK.keeps (by decide))
      have hszu5_1 := HK.out.size
      clear hA hK
      have hcxu5_1_0 : u5_1.cell? ⟨wr.heap.size, 1, none⟩ = some (.string ⟨#[]⟩) := HX.out.cell 1
      have hfzu5_1_0 : u5_1.frozen? ⟨wr.heap.size, 1, none⟩ = false := HX.out.frozen 1
      have HY : Hid (Blk (u5_1.setCell ⟨wr.heap.size, 1, none⟩ (.string bu1)) (wr.heap.size) 142 [.string bu0, .string bu1]) := Lib.hid (HX.out.set_ 1 (.string bu1))
      have HKA : Hid (Keeps [142] u5_1 (u5_1.setCell ⟨wr.heap.size, 1, none⟩ (.string bu1))) := Lib.hid ((Keeps.refl _ _).trans (Keeps.set_ HX.out.typ (by simp) (.string bu1)))
      have HBA : Hid (Below wr.heap.size u5_1 (u5_1.setCell ⟨wr.heap.size, 1, none⟩ (.string bu1))) := Lib.hid ((Below.refl wr.heap.size u5_1).setCell hgx _)
      replace HO := Lib.hid (own_set HO.out hob 1 (.string bu1))
      replace HX := HY
      replace HXo := Lib.hid (HXo.out.keeps HKA.out (by decide))
      replace HRes := Lib.hid (HRes.out.keeps HKA.out (by decide))
      replace HR := Lib.hid (HR.out.keeps HKA.out (HBA.out.mono hbs) (by decide) (by decide))
      replace HB := Lib.hid (HB.out.trans (HBA.out.mono hbs))
      replace HK := Lib.hid (HK.out.below_new HBA.out)
      clear HY HKA HBA
      have hst : stepO .text (stepO .text (iterO shMember mw5 ow5)) = iterO shMember (mw5 + 1) ow5 := by rw [iterO_succ]; show _ = stepS [.text, .text] _; simp only [stepS_cons, stepS_nil]
      rw [hst] at HR
      have HA2 := HR
      have HB2 := Lib.hid (HBo.out.trans HB.out)
      have HK2 := Lib.hid (HKo.out.trans HK.out)
      have HX2 := HXo
      have HRes2 := HRes
      have HO2 := HO
      have HXe := HX
      have hiZ : Hid ((Tryz.prog.info? 142).map (·.size) = some (List.length ([.string bu0, .string bu1] : List Value))) := Lib.hid (by kernel_rfl)
      have hsz3 := HK.out.size
      clear HBo HB HKo HK HO HR hst hcb HX HXo HRes HTZ
      have hgx := hgx0
      obtain ⟨i0, hi0⟩ : ∃ i, Tryz.prog.info? 142 = some i := by
        cases hq : Tryz.prog.info? 142 with
        | none => have h0 : (Tryz.prog.info? 142).isSome = true := by kernel_rfl
                  rw [hq] at h0; cases h0
        | some i => exact ⟨i, rfl⟩
      have hinf : (Tryz.prog.info? 142).map (fun i => (i.zero, i.size, decide (i.bytes ≤ 1000))) = some (some (.agg #[.string ⟨#[]⟩, .string ⟨#[]⟩]), 2, true) := by kernel_rfl
      rw [hi0] at hinf
      simp only [Option.map_some, Option.some.injEq, Prod.mk.injEq, decide_eq_true_eq] at hinf
      obtain ⟨hz0, hz1, hz2⟩ := hinf
      have hby := Nat.mul_le_mul_left 4097 hz2
      have HI := Lib.hid (And.intro hi0 (And.intro hz0 hz1))
      clear hi0 hz0 hz1
      have hszn : (u5_1.setCell ⟨wr.heap.size, 1, none⟩ (.string bu1)).heap.size = u5_1.heap.size := by simp
      have HNB2 : Hid (Blk ((u5_1.setCell ⟨wr.heap.size, 1, none⟩ (.string bu1)).alloc (.cells (List.toArray ([.string bu0, .string bu1] : List Value)) 142)) (u5_1.heap.size) 142 [.string bu0, .string bu1]) := Lib.hid (by have := Blk.new (u5_1.setCell ⟨wr.heap.size, 1, none⟩ (.string bu1)) 142 [.string bu0, .string bu1]; rwa [hszn] at this)
      have HRG := Lib.hid HXe.out.range0
      have hcxf : (u5_1.setCell ⟨wr.heap.size, 1, none⟩ (.string bu1)).cell? ⟨w.heap.size + 1, 5, none⟩ = some (.slice Aw5 mw5 kw5) := HX2.out.cell 5
      have hbase2 := HK2.out.size
      go_wp2_with (first | (with_reducible refine wpList_load_mid rfl 142 _ rfl (wr.heap.size) 0 rfl [.string bu0, .string bu1] _ HRG.out Tryz.underlying142 rfl hiZ.out ?_) | (at_builtin; refine wpList_appN rfl _ _ 29 rfl w.heap.size 142 i0 _ 2 i0.bytes Tryz.underlying29 HI.out.1 HI.out.2.1 HI.out.2.2 rfl rfl (by decide) (.slice Aw5 mw5 kw5) mw5 xs rfl (HO2.out.alloc _) ⟨u5_1.heap.size, 0, none⟩ 1 [.string bu0, .string bu1] rfl rfl HNB2.out.news (by simp [Value.oneCell']) (by unfold maxLen; omega) (Nat.le_trans (Nat.mul_le_mul_right _ (by omega)) (Nat.le_trans hby (by decide))) (by simp at hbase2 ⊢; omega) ?_; intro A3 c3 w3 HO3 HG3; have HXA := Lib.hid ((HX2.out.alloc _).keeps (Keeps.grown (ts := [142]) (HO2.out.alloc _) HG3.out (by simp) HG3.out.size) (by decide)); have hcxa : w3.cell? ⟨w.heap.size + 1, 5, none⟩ = some (.slice Aw5 mw5 kw5) := HXA.out.cell 5; have hfxa : w3.frozen? ⟨w.heap.size + 1, 5, none⟩ = false := HXA.out.frozen 5))
      have HKA : Hid (Keeps [142] (u5_1.setCell ⟨wr.heap.size, 1, none⟩ (.string bu1)) w3) := Lib.hid ((Keeps.alloc (u5_1.setCell ⟨wr.heap.size, 1, none⟩ (.string bu1)) _).trans (Keeps.grown (HO2.out.alloc _) HG3.out (by simp) HG3.out.size))
      have HBA : Hid (Below base (u5_1.setCell ⟨wr.heap.size, 1, none⟩ (.string bu1)) w3) := Lib.hid (((Below.refl _ _).alloc (by omega) _).grown HG3.out (by simp; omega) (by intro k hk; have := own_block_ge HO2.out k hk; omega))
      have HKF : Hid (Keeps [34] w3 (w3.setCell ⟨w.heap.size + 1, 5, none⟩ (.slice A3 (mw5 + 1) c3))) := Lib.hid (Keeps.set_ HXA.out.typ (by simp) _)
      have HBF : Hid (Below w.heap.size w3 (w3.setCell ⟨w.heap.size + 1, 5, none⟩ (.slice A3 (mw5 + 1) c3))) := Lib.hid ((Below.refl _ _).setCell hgx _)
      have hrel : ∃ (j' : Nat) (A : Option Addr) (c : Nat) (xs : List Value), j' ≤ Nw5 ∧ Value.int .i64 ((mw5 : Int) + 1) = .int .i64 j' ∧ Hid (CutAt (w3.setCell ⟨w.heap.size + 1, 5, none⟩ (.slice A3 (mw5 + 1) c3)) base g (iterO shMember j' ow5)) ∧ Hid ((w3.setCell ⟨w.heap.size + 1, 5, none⟩ (.slice A3 (mw5 + 1) c3)).ownsRow w.heap.size 142 2 (.slice A j' c) j' xs) ∧ Hid (Blk (w3.setCell ⟨w.heap.size + 1, 5, none⟩ (.slice A3 (mw5 + 1) c3)) (w.heap.size + 1) 34 [.int .i64 nw0, .int .i64 nw1, .slice Aw2 mw2 kw2, .slice Aw3 mw3 kw3, .slice Aw4 mw4 kw4, .slice A j' c, .slice none 0 0]) ∧ Hid (Blk (w3.setCell ⟨w.heap.size + 1, 5, none⟩ (.slice A3 (mw5 + 1) c3)) w.heap.size 34 [.int .i64 0, .int .i64 0, .slice none 0 0, .slice none 0 0, .slice none 0 0, .slice none 0 0, .slice none 0 0]) ∧ Hid (Below base w (w3.setCell ⟨w.heap.size + 1, 5, none⟩ (.slice A3 (mw5 + 1) c3))) ∧ Hid (Keeps [108, 106] w (w3.setCell ⟨w.heap.size + 1, 5, none⟩ (.slice A3 (mw5 + 1) c3))) := by
        refine ⟨mw5 + 1, A3, c3, _, by omega, by simp, Lib.hid ((HA2.out.keeps HKA.out HBA.out (by decide) (by decide)).keeps HKF.out (HBF.out.mono hbs0) (by decide) (by decide)), Lib.hid (HO3.out.kept (grownBy_setCell (World.grownBy.refl _ _) 5 _) (.inr (blk_own_ne HXA.out HO3.out (by decide)).symm)), Lib.hid (HXA.out.set_ 5 _), Lib.hid ((HRes2.out.keeps HKA.out (by decide)).far (by dsimp only; omega) _), Lib.hid ((HB2.out.trans HBA.out).trans (HBF.out.mono hbs0)), Lib.hid (Keeps.below_new ?_ HBF.out)⟩
        exact (HK2.out.then_below ((Below.refl _ _).alloc (Nat.le_refl _) _)).grown_new HG3.out (fun k hk => by have := own_block_ge HO2.out k hk; omega)
      clear HKA HBA HKF HBF HXA HO3 HG3 HO2 HA2 HK2 HB2 HX2 HRes2
      go_wp2
      go_roundw
      case rel => obtain ⟨j', A, c, xs, h1, h2, h3⟩ := hrel; exact ⟨j', A, c, xs, h1, by rw [← h2], h3⟩
      case measure => simp [intOf]; omega

end Go.Proofs.YteohhgkehkmgcaaGreat
