/- The walks of the reference that reads: lists and structs. Printed by mkcu.py. -/
import Derived.Test.YteohhgkehkmgcaaGreatCu10
namespace Go.Proofs.YteohhgkehkmgcaaGreat
open Go.RowKit Le
set_option maxRecDepth 100000
set_option linter.unusedVariables false
set_option linter.unusedSimpArgs false

set_option maxHeartbeats 1600000 in
theorem C_Machine (base g : Nat) (o : Option (List UInt8)) (w : World) (h : CutAt w base g o) :
    Calls Tryz.prog 13 #[.pointer (some ⟨g, 0, none⟩)] w fun e w' => (∃ vs, e = .returned (.agg vs.toArray) ∧ Kinds shMachine vs) ∧ CutAt w' base g (stepS shMachine o) ∧ Cuts base w w' := by
  have hi : (Tryz.prog.info? 38).map (·.size) = some 10 := by kernel_rfl
  replace hi := Lib.hid hi
  have hbs := h.lt
  have hgx : w.heap.size ≤ w.heap.size + 1 := Nat.le_succ _
  have HX : Hid (Blk ((w.alloc (.cells #[.int .i64 0, .int .i64 0, .slice none 0 0, .slice none 0 0, .slice none 0 0, .slice none 0 0, .slice none 0 0, .slice none 0 0, .slice none 0 0, .int .i64 0] 38)).alloc (.cells #[.int .i64 0, .int .i64 0, .slice none 0 0, .slice none 0 0, .slice none 0 0, .slice none 0 0, .slice none 0 0, .slice none 0 0, .slice none 0 0, .int .i64 0] 38)) (w.heap.size + 1) 38 [.int .i64 0, .int .i64 0, .slice none 0 0, .slice none 0 0, .slice none 0 0, .slice none 0 0, .slice none 0 0, .slice none 0 0, .slice none 0 0, .int .i64 0]) := Lib.hid (by have := Blk.new (w.alloc (.cells #[.int .i64 0, .int .i64 0, .slice none 0 0, .slice none 0 0, .slice none 0 0, .slice none 0 0, .slice none 0 0, .slice none 0 0, .slice none 0 0, .int .i64 0] 38)) 38 [.int .i64 0, .int .i64 0, .slice none 0 0, .slice none 0 0, .slice none 0 0, .slice none 0 0, .slice none 0 0, .slice none 0 0, .slice none 0 0, .int .i64 0]; simpa using this)
  have HRes : Hid (Blk ((w.alloc (.cells #[.int .i64 0, .int .i64 0, .slice none 0 0, .slice none 0 0, .slice none 0 0, .slice none 0 0, .slice none 0 0, .slice none 0 0, .slice none 0 0, .int .i64 0] 38)).alloc (.cells #[.int .i64 0, .int .i64 0, .slice none 0 0, .slice none 0 0, .slice none 0 0, .slice none 0 0, .slice none 0 0, .slice none 0 0, .slice none 0 0, .int .i64 0] 38)) w.heap.size 38 [.int .i64 0, .int .i64 0, .slice none 0 0, .slice none 0 0, .slice none 0 0, .slice none 0 0, .slice none 0 0, .slice none 0 0, .slice none 0 0, .int .i64 0]) := Lib.hid ((Blk.new w 38 [.int .i64 0, .int .i64 0, .slice none 0 0, .slice none 0 0, .slice none 0 0, .slice none 0 0, .slice none 0 0, .slice none 0 0, .slice none 0 0, .int .i64 0]).alloc _)
  have hbw : Below w.heap.size w ((w.alloc (.cells #[.int .i64 0, .int .i64 0, .slice none 0 0, .slice none 0 0, .slice none 0 0, .slice none 0 0, .slice none 0 0, .slice none 0 0, .slice none 0 0, .int .i64 0] 38)).alloc (.cells #[.int .i64 0, .int .i64 0, .slice none 0 0, .slice none 0 0, .slice none 0 0, .slice none 0 0, .slice none 0 0, .slice none 0 0, .slice none 0 0, .int .i64 0] 38)) := ((Below.refl _ _).alloc (Nat.le_refl _) _).alloc (by simp) _
  have HTZ : Hid (World.there ((w.alloc (.cells #[.int .i64 0, .int .i64 0, .slice none 0 0, .slice none 0 0, .slice none 0 0, .slice none 0 0, .slice none 0 0, .slice none 0 0, .slice none 0 0, .int .i64 0] 38)).alloc (.cells #[.int .i64 0, .int .i64 0, .slice none 0 0, .slice none 0 0, .slice none 0 0, .slice none 0 0, .slice none 0 0, .slice none 0 0, .slice none 0 0, .int .i64 0] 38)) (w.heap.size + 1) 0 (List.toArray ([.int .i64 0, .int .i64 0, .slice none 0 0, .slice none 0 0, .slice none 0 0, .slice none 0 0, .slice none 0 0, .slice none 0 0, .slice none 0 0, .int .i64 0] : List Value)).size) := Lib.hid (HX.out.there 0 10 (by simp))
  have hsZ : Hid ((Tryz.prog.info? 38).map (·.size) = some (List.toArray ([.int .i64 0, .int .i64 0, .slice none 0 0, .slice none 0 0, .slice none 0 0, .slice none 0 0, .slice none 0 0, .slice none 0 0, .slice none 0 0, .int .i64 0] : List Value)).size) := Lib.hid (by kernel_rfl)
  have h1Z : Hid ((List.toArray ([.int .i64 0, .int .i64 0, .slice none 0 0, .slice none 0 0, .slice none 0 0, .slice none 0 0, .slice none 0 0, .slice none 0 0, .slice none 0 0, .int .i64 0] : List Value)).all (·.oneCell') = true) := Lib.hid (all_oneCell_toArray (by simp [Value.oneCell']))
  have hbw3 : Below w.heap.size w (((w.alloc (.cells #[.int .i64 0, .int .i64 0, .slice none 0 0, .slice none 0 0, .slice none 0 0, .slice none 0 0, .slice none 0 0, .slice none 0 0, .slice none 0 0, .int .i64 0] 38)).alloc (.cells #[.int .i64 0, .int .i64 0, .slice none 0 0, .slice none 0 0, .slice none 0 0, .slice none 0 0, .slice none 0 0, .slice none 0 0, .slice none 0 0, .int .i64 0] 38)).setCells (w.heap.size + 1) 0 [.int .i64 0, .int .i64 0, .slice none 0 0, .slice none 0 0, .slice none 0 0, .slice none 0 0, .slice none 0 0, .slice none 0 0, .slice none 0 0, .int .i64 0]) := hbw.trans (below_setCells_ hgx 0 [.int .i64 0, .int .i64 0, .slice none 0 0, .slice none 0 0, .slice none 0 0, .slice none 0 0, .slice none 0 0, .slice none 0 0, .slice none 0 0, .int .i64 0])
  have HR := Lib.hid (h.below_ hbw3)
  have HB : Hid (Below base w (((w.alloc (.cells #[.int .i64 0, .int .i64 0, .slice none 0 0, .slice none 0 0, .slice none 0 0, .slice none 0 0, .slice none 0 0, .slice none 0 0, .slice none 0 0, .int .i64 0] 38)).alloc (.cells #[.int .i64 0, .int .i64 0, .slice none 0 0, .slice none 0 0, .slice none 0 0, .slice none 0 0, .slice none 0 0, .slice none 0 0, .slice none 0 0, .int .i64 0] 38)).setCells (w.heap.size + 1) 0 [.int .i64 0, .int .i64 0, .slice none 0 0, .slice none 0 0, .slice none 0 0, .slice none 0 0, .slice none 0 0, .slice none 0 0, .slice none 0 0, .int .i64 0])) := Lib.hid (hbw3.mono hbs)
  have HK : Hid (Keeps [108, 106] w (((w.alloc (.cells #[.int .i64 0, .int .i64 0, .slice none 0 0, .slice none 0 0, .slice none 0 0, .slice none 0 0, .slice none 0 0, .slice none 0 0, .slice none 0 0, .int .i64 0] 38)).alloc (.cells #[.int .i64 0, .int .i64 0, .slice none 0 0, .slice none 0 0, .slice none 0 0, .slice none 0 0, .slice none 0 0, .slice none 0 0, .slice none 0 0, .int .i64 0] 38)).setCells (w.heap.size + 1) 0 [.int .i64 0, .int .i64 0, .slice none 0 0, .slice none 0 0, .slice none 0 0, .slice none 0 0, .slice none 0 0, .slice none 0 0, .slice none 0 0, .int .i64 0])) := Lib.hid (Keeps.of_below hbw3 (Nat.le_refl _))
  replace HX : Hid (Blk (((w.alloc (.cells #[.int .i64 0, .int .i64 0, .slice none 0 0, .slice none 0 0, .slice none 0 0, .slice none 0 0, .slice none 0 0, .slice none 0 0, .slice none 0 0, .int .i64 0] 38)).alloc (.cells #[.int .i64 0, .int .i64 0, .slice none 0 0, .slice none 0 0, .slice none 0 0, .slice none 0 0, .slice none 0 0, .slice none 0 0, .slice none 0 0, .int .i64 0] 38)).setCells (w.heap.size + 1) 0 [.int .i64 0, .int .i64 0, .slice none 0 0, .slice none 0 0, .slice none 0 0, .slice none 0 0, .slice none 0 0, .slice none 0 0, .slice none 0 0, .int .i64 0]) (w.heap.size + 1) 38 [.int .i64 0, .int .i64 0, .slice none 0 0, .slice none 0 0, .slice none 0 0, .slice none 0 0, .slice none 0 0, .slice none 0 0, .slice none 0 0, .int .i64 0]) := Lib.hid (HX.out.setCells0 [.int .i64 0, .int .i64 0, .slice none 0 0, .slice none 0 0, .slice none 0 0, .slice none 0 0, .slice none 0 0, .slice none 0 0, .slice none 0 0, .int .i64 0] rfl)
  replace HRes : Hid (Blk (((w.alloc (.cells #[.int .i64 0, .int .i64 0, .slice none 0 0, .slice none 0 0, .slice none 0 0, .slice none 0 0, .slice none 0 0, .slice none 0 0, .slice none 0 0, .int .i64 0] 38)).alloc (.cells #[.int .i64 0, .int .i64 0, .slice none 0 0, .slice none 0 0, .slice none 0 0, .slice none 0 0, .slice none 0 0, .slice none 0 0, .slice none 0 0, .int .i64 0] 38)).setCells (w.heap.size + 1) 0 [.int .i64 0, .int .i64 0, .slice none 0 0, .slice none 0 0, .slice none 0 0, .slice none 0 0, .slice none 0 0, .slice none 0 0, .slice none 0 0, .int .i64 0]) w.heap.size 38 [.int .i64 0, .int .i64 0, .slice none 0 0, .slice none 0 0, .slice none 0 0, .slice none 0 0, .slice none 0 0, .slice none 0 0, .slice none 0 0, .int .i64 0]) := Lib.hid (Blk.far_setCells (by omega) 0 [.int .i64 0, .int .i64 0, .slice none 0 0, .slice none 0 0, .slice none 0 0, .slice none 0 0, .slice none 0 0, .slice none 0 0, .slice none 0 0, .int .i64 0] HRes.out)
  clear h hbw hbw3
  go_enter Tryz.func13, Tryz.ntmps13
  go_wp2_with (with_reducible refine wpList_store_mid rfl 38 _ _ rfl (w.heap.size + 1) 0 (List.toArray ([.int .i64 0, .int .i64 0, .slice none 0 0, .slice none 0 0, .slice none 0 0, .slice none 0 0, .slice none 0 0, .slice none 0 0, .slice none 0 0, .int .i64 0] : List Value)) rfl rfl HTZ.out hsZ.out h1Z.out ?_)
  refine (C_Catalog base g (o) _ HR.out).mono ?_
  rintro e ws1_0 ⟨⟨vs, rfl, hv⟩, hA, hK⟩
  replace hv : Kinds [.num, .num, .rows shSchema, .rows shTable, .rows [.text], .rows shMember, .rows shGrant] vs := hv
  obtain ⟨_, vs, rfl, c0, hv⟩ := hv
  obtain ⟨_, vs, rfl, c1, hv⟩ := hv
  obtain ⟨_, vs, rfl, c2, hv⟩ := hv
  obtain ⟨_, vs, rfl, c3, hv⟩ := hv
  obtain ⟨_, vs, rfl, c4, hv⟩ := hv
  obtain ⟨_, vs, rfl, c5, hv⟩ := hv
  obtain ⟨_, vs, rfl, c6, hv⟩ := hv
  obtain rfl : vs = [] := hv
  obtain ⟨nw0, rfl⟩ := c0
  obtain ⟨nw1, rfl⟩ := c1
  obtain ⟨Aw2, mw2, kw2, rfl⟩ := c2
  obtain ⟨Aw3, mw3, kw3, rfl⟩ := c3
  obtain ⟨Aw4, mw4, kw4, rfl⟩ := c4
  obtain ⟨Aw5, mw5, kw5, rfl⟩ := c5
  obtain ⟨Aw6, mw6, kw6, rfl⟩ := c6
  simp only [shCatalog, stepS_cons, stepS_nil] at hA
  replace HR := Lib.hid hA
  replace HB := Lib.hid (HB.out.trans hK.below)
  replace HK := Lib.hid (HK.out.trans hK.keeps)
  replace HX := Lib.hid (HX.out.keeps hK.keeps (by decide))
  replace HRes := Lib.hid (HRes.out.keeps hK.keeps (by decide))
  have hszws1_0 := HK.out.size
  clear hA hK
  have hcxws1_0_0 : ws1_0.cell? ⟨w.heap.size + 1, 0, none⟩ = some (.int .i64 0) := HX.out.cell 0
  have hfzws1_0_0 : ws1_0.frozen? ⟨w.heap.size + 1, 0, none⟩ = false := HX.out.frozen 0
  have hcxws1_0_1 : ws1_0.cell? ⟨w.heap.size + 1, 1, none⟩ = some (.int .i64 0) := HX.out.cell 1
  have hfzws1_0_1 : ws1_0.frozen? ⟨w.heap.size + 1, 1, none⟩ = false := HX.out.frozen 1
  have hcxws1_0_2 : ws1_0.cell? ⟨w.heap.size + 1, 2, none⟩ = some (.slice none 0 0) := HX.out.cell 2
  have hfzws1_0_2 : ws1_0.frozen? ⟨w.heap.size + 1, 2, none⟩ = false := HX.out.frozen 2
  have hcxws1_0_3 : ws1_0.cell? ⟨w.heap.size + 1, 3, none⟩ = some (.slice none 0 0) := HX.out.cell 3
  have hfzws1_0_3 : ws1_0.frozen? ⟨w.heap.size + 1, 3, none⟩ = false := HX.out.frozen 3
  have hcxws1_0_4 : ws1_0.cell? ⟨w.heap.size + 1, 4, none⟩ = some (.slice none 0 0) := HX.out.cell 4
  have hfzws1_0_4 : ws1_0.frozen? ⟨w.heap.size + 1, 4, none⟩ = false := HX.out.frozen 4
  have hcxws1_0_5 : ws1_0.cell? ⟨w.heap.size + 1, 5, none⟩ = some (.slice none 0 0) := HX.out.cell 5
  have hfzws1_0_5 : ws1_0.frozen? ⟨w.heap.size + 1, 5, none⟩ = false := HX.out.frozen 5
  have hcxws1_0_6 : ws1_0.cell? ⟨w.heap.size + 1, 6, none⟩ = some (.slice none 0 0) := HX.out.cell 6
  have hfzws1_0_6 : ws1_0.frozen? ⟨w.heap.size + 1, 6, none⟩ = false := HX.out.frozen 6
  have HY : Hid (Blk (((((((ws1_0.setCell ⟨w.heap.size + 1, 0, none⟩ (.int .i64 nw0)).setCell ⟨w.heap.size + 1, 1, none⟩ (.int .i64 nw1)).setCell ⟨w.heap.size + 1, 2, none⟩ (.slice Aw2 mw2 kw2)).setCell ⟨w.heap.size + 1, 3, none⟩ (.slice Aw3 mw3 kw3)).setCell ⟨w.heap.size + 1, 4, none⟩ (.slice Aw4 mw4 kw4)).setCell ⟨w.heap.size + 1, 5, none⟩ (.slice Aw5 mw5 kw5)).setCell ⟨w.heap.size + 1, 6, none⟩ (.slice Aw6 mw6 kw6)) (w.heap.size + 1) 38 [.int .i64 nw0, .int .i64 nw1, .slice Aw2 mw2 kw2, .slice Aw3 mw3 kw3, .slice Aw4 mw4 kw4, .slice Aw5 mw5 kw5, .slice Aw6 mw6 kw6, .slice none 0 0, .slice none 0 0, .int .i64 0]) := Lib.hid (((((((HX.out.set_ 0 (.int .i64 nw0)).set_ 1 (.int .i64 nw1)).set_ 2 (.slice Aw2 mw2 kw2)).set_ 3 (.slice Aw3 mw3 kw3)).set_ 4 (.slice Aw4 mw4 kw4)).set_ 5 (.slice Aw5 mw5 kw5)).set_ 6 (.slice Aw6 mw6 kw6))
  have HKA : Hid (Keeps [38] ws1_0 (((((((ws1_0.setCell ⟨w.heap.size + 1, 0, none⟩ (.int .i64 nw0)).setCell ⟨w.heap.size + 1, 1, none⟩ (.int .i64 nw1)).setCell ⟨w.heap.size + 1, 2, none⟩ (.slice Aw2 mw2 kw2)).setCell ⟨w.heap.size + 1, 3, none⟩ (.slice Aw3 mw3 kw3)).setCell ⟨w.heap.size + 1, 4, none⟩ (.slice Aw4 mw4 kw4)).setCell ⟨w.heap.size + 1, 5, none⟩ (.slice Aw5 mw5 kw5)).setCell ⟨w.heap.size + 1, 6, none⟩ (.slice Aw6 mw6 kw6))) := Lib.hid ((((((((Keeps.refl _ _).trans (Keeps.set_ HX.out.typ (by simp) (.int .i64 nw0))).trans (Keeps.set_ (HX.out.set_ 0 (.int .i64 nw0)).typ (by simp) (.int .i64 nw1))).trans (Keeps.set_ ((HX.out.set_ 0 (.int .i64 nw0)).set_ 1 (.int .i64 nw1)).typ (by simp) (.slice Aw2 mw2 kw2))).trans (Keeps.set_ (((HX.out.set_ 0 (.int .i64 nw0)).set_ 1 (.int .i64 nw1)).set_ 2 (.slice Aw2 mw2 kw2)).typ (by simp) (.slice Aw3 mw3 kw3))).trans (Keeps.set_ ((((HX.out.set_ 0 (.int .i64 nw0)).set_ 1 (.int .i64 nw1)).set_ 2 (.slice Aw2 mw2 kw2)).set_ 3 (.slice Aw3 mw3 kw3)).typ (by simp) (.slice Aw4 mw4 kw4))).trans (Keeps.set_ (((((HX.out.set_ 0 (.int .i64 nw0)).set_ 1 (.int .i64 nw1)).set_ 2 (.slice Aw2 mw2 kw2)).set_ 3 (.slice Aw3 mw3 kw3)).set_ 4 (.slice Aw4 mw4 kw4)).typ (by simp) (.slice Aw5 mw5 kw5))).trans (Keeps.set_ ((((((HX.out.set_ 0 (.int .i64 nw0)).set_ 1 (.int .i64 nw1)).set_ 2 (.slice Aw2 mw2 kw2)).set_ 3 (.slice Aw3 mw3 kw3)).set_ 4 (.slice Aw4 mw4 kw4)).set_ 5 (.slice Aw5 mw5 kw5)).typ (by simp) (.slice Aw6 mw6 kw6)))
  have HBA : Hid (Below w.heap.size ws1_0 (((((((ws1_0.setCell ⟨w.heap.size + 1, 0, none⟩ (.int .i64 nw0)).setCell ⟨w.heap.size + 1, 1, none⟩ (.int .i64 nw1)).setCell ⟨w.heap.size + 1, 2, none⟩ (.slice Aw2 mw2 kw2)).setCell ⟨w.heap.size + 1, 3, none⟩ (.slice Aw3 mw3 kw3)).setCell ⟨w.heap.size + 1, 4, none⟩ (.slice Aw4 mw4 kw4)).setCell ⟨w.heap.size + 1, 5, none⟩ (.slice Aw5 mw5 kw5)).setCell ⟨w.heap.size + 1, 6, none⟩ (.slice Aw6 mw6 kw6))) := Lib.hid ((((((((Below.refl w.heap.size ws1_0).setCell hgx _).setCell hgx _).setCell hgx _).setCell hgx _).setCell hgx _).setCell hgx _).setCell hgx _)
  replace HRes := Lib.hid (((((((HRes.out.far (p := ⟨w.heap.size + 1, 0, none⟩) (by dsimp only; omega) (.int .i64 nw0)).far (p := ⟨w.heap.size + 1, 1, none⟩) (by dsimp only; omega) (.int .i64 nw1)).far (p := ⟨w.heap.size + 1, 2, none⟩) (by dsimp only; omega) (.slice Aw2 mw2 kw2)).far (p := ⟨w.heap.size + 1, 3, none⟩) (by dsimp only; omega) (.slice Aw3 mw3 kw3)).far (p := ⟨w.heap.size + 1, 4, none⟩) (by dsimp only; omega) (.slice Aw4 mw4 kw4)).far (p := ⟨w.heap.size + 1, 5, none⟩) (by dsimp only; omega) (.slice Aw5 mw5 kw5)).far (p := ⟨w.heap.size + 1, 6, none⟩) (by dsimp only; omega) (.slice Aw6 mw6 kw6))
  replace HX := HY
  replace HR := Lib.hid (HR.out.keeps HKA.out (HBA.out.mono hbs) (by decide) (by decide))
  replace HB := Lib.hid (HB.out.trans (HBA.out.mono hbs))
  replace HK := Lib.hid (HK.out.below_new HBA.out)
  clear HY HKA HBA
  go_wp2_with fail
  refine (C_many base g (stepO (.rows shGrant) (stepO (.rows shMember) (stepO (.rows [.text]) (stepO (.rows shTable) (stepO (.rows shSchema) (stepO (.num) (stepO (.num) (o)))))))) _ HR.out).mono ?_
  rintro e wmw7 ⟨⟨Nw7, rfl, hN4, hN⟩, hA, hK⟩
  have HRSw7 := Lib.hid (rows_step (sh := shDone) hN)
  obtain ⟨ow7, ho1⟩ : ∃ o1, stepM (stepO (.rows shGrant) (stepO (.rows shMember) (stepO (.rows [.text]) (stepO (.rows shTable) (stepO (.rows shSchema) (stepO (.num) (stepO (.num) (o)))))))) = o1 := ⟨_, rfl⟩
  rw [ho1] at hA HRSw7
  replace HR := Lib.hid hA
  replace HB := Lib.hid (HB.out.trans hK.below)
  replace HK := Lib.hid (HK.out.trans hK.keeps)
  replace HX := Lib.hid (HX.out.keeps hK.keeps (by decide))
  replace HRes := Lib.hid (HRes.out.keeps hK.keeps (by decide))
  clear hN hA hK ho1
  go_wp2
  go_loopw [5] (fun i wr => ∃ (j : Nat) (A : Option Addr) (c : Nat) (xs : List Value), j ≤ Nw7 ∧ i = .int .i64 j ∧ Hid (CutAt wr base g (iterO shDone j ow7)) ∧ Hid (wr.ownsRow w.heap.size 96 5 (.slice A j c) j xs) ∧ Hid (Blk wr (w.heap.size + 1) 38 [.int .i64 nw0, .int .i64 nw1, .slice Aw2 mw2 kw2, .slice Aw3 mw3 kw3, .slice Aw4 mw4 kw4, .slice Aw5 mw5 kw5, .slice Aw6 mw6 kw6, .slice A j c, .slice none 0 0, .int .i64 0]) ∧ Hid (Blk wr w.heap.size 38 [.int .i64 0, .int .i64 0, .slice none 0 0, .slice none 0 0, .slice none 0 0, .slice none 0 0, .slice none 0 0, .slice none 0 0, .slice none 0 0, .int .i64 0]) ∧ Hid (Below base w wr) ∧ Hid (Keeps [108, 106] w wr)) (fun i _ => Nw7 - (intOf i).toNat)
  case atStart => exact ⟨0, none, 0, [], Nat.zero_le _, rfl, Lib.hid (by rw [iterO_zero]; exact HR.out), Lib.hid (World.ownsRow_nil _ w.heap.size 96 5), HX, HRes, HB, HK⟩
  case round =>
    clear HR HX HRes HB HK
    obtain ⟨mw7, Aw7, kw7, xs, hj, rfl, HR, HO, HX, HRes, HB, HK⟩ := hrel
    obtain ⟨nb, hnb⟩ : ∃ nb, (iterO shDone mw7 ow7).isNone = nb := ⟨_, rfl⟩
    have hcb : wr.cell? ⟨g, 1, none⟩ = some (.bool nb) := by
      obtain ⟨r, A', n, c', i, lb, hB, _⟩ := HR.out
      rw [← hnb]
      exact hB.cell 1
    have HNB := Lib.hid hnb
    clear hnb
    have hwr := HB.out.size
    have hwz := HK.out.size
    by_cases hlt2 : mw7 < Nw7
    rotate_left
    · have hjN : mw7 = Nw7 := by omega
      replace HR : Hid (CutAt wr base g (stepO (.rows shDone) (stepO (.rows shGrant) (stepO (.rows shMember) (stepO (.rows [.text]) (stepO (.rows shTable) (stepO (.rows shSchema) (stepO (.num) (stepO (.num) (o)))))))))) := Lib.hid (by rw [HRSw7.out, ← hjN]; exact HR.out)
      clear hjN
      go_wp2_with fail
      refine (C_many base g (stepO (.rows shDone) (stepO (.rows shGrant) (stepO (.rows shMember) (stepO (.rows [.text]) (stepO (.rows shTable) (stepO (.rows shSchema) (stepO (.num) (stepO (.num) (o))))))))) _ HR.out).mono ?_
      rintro e wmw8 ⟨⟨Nw8, rfl, hN4, hN⟩, hA, hK⟩
      have HRSw8 := Lib.hid (rows_step (sh := shLease) hN)
      obtain ⟨ow8, ho1⟩ : ∃ o1, stepM (stepO (.rows shDone) (stepO (.rows shGrant) (stepO (.rows shMember) (stepO (.rows [.text]) (stepO (.rows shTable) (stepO (.rows shSchema) (stepO (.num) (stepO (.num) (o))))))))) = o1 := ⟨_, rfl⟩
      rw [ho1] at hA HRSw8
      replace HR := Lib.hid hA
      replace HB := Lib.hid (HB.out.trans hK.below)
      replace HK := Lib.hid (HK.out.trans hK.keeps)
      replace HX := Lib.hid (HX.out.keeps hK.keeps (by decide))
      replace HRes := Lib.hid (HRes.out.keeps hK.keeps (by decide))
      clear hN hA hK ho1
      go_wp2
      go_loopw [7] (fun i wr => ∃ (j : Nat) (A : Option Addr) (c : Nat) (xs : List Value), j ≤ Nw8 ∧ i = .int .i64 j ∧ Hid (CutAt wr base g (iterO shLease j ow8)) ∧ Hid (wr.ownsRow w.heap.size 101 4 (.slice A j c) j xs) ∧ Hid (Blk wr (w.heap.size + 1) 38 [.int .i64 nw0, .int .i64 nw1, .slice Aw2 mw2 kw2, .slice Aw3 mw3 kw3, .slice Aw4 mw4 kw4, .slice Aw5 mw5 kw5, .slice Aw6 mw6 kw6, .slice Aw7 mw7 kw7, .slice A j c, .int .i64 0]) ∧ Hid (Blk wr w.heap.size 38 [.int .i64 0, .int .i64 0, .slice none 0 0, .slice none 0 0, .slice none 0 0, .slice none 0 0, .slice none 0 0, .slice none 0 0, .slice none 0 0, .int .i64 0]) ∧ Hid (Below base w wr) ∧ Hid (Keeps [108, 106] w wr)) (fun i _ => Nw8 - (intOf i).toNat)
      case atStart => exact ⟨0, none, 0, [], Nat.zero_le _, rfl, Lib.hid (by rw [iterO_zero]; exact HR.out), Lib.hid (World.ownsRow_nil _ w.heap.size 101 4), HX, HRes, HB, HK⟩
      case round =>
        clear HR HX HRes HB HK
        obtain ⟨mw8, Aw8, kw8, xs, hj, rfl, HR, HO, HX, HRes, HB, HK⟩ := hrel
        obtain ⟨nb, hnb⟩ : ∃ nb, (iterO shLease mw8 ow8).isNone = nb := ⟨_, rfl⟩
        have hcb : wr.cell? ⟨g, 1, none⟩ = some (.bool nb) := by
          obtain ⟨r, A', n, c', i, lb, hB, _⟩ := HR.out
          rw [← hnb]
          exact hB.cell 1
        have HNB := Lib.hid hnb
        clear hnb
        have hwr := HB.out.size
        have hwz := HK.out.size
        by_cases hlt2 : mw8 < Nw8
        rotate_left
        · have hjN : mw8 = Nw8 := by omega
          replace HR : Hid (CutAt wr base g (stepO (.rows shLease) (stepO (.rows shDone) (stepO (.rows shGrant) (stepO (.rows shMember) (stepO (.rows [.text]) (stepO (.rows shTable) (stepO (.rows shSchema) (stepO (.num) (stepO (.num) (o))))))))))) := Lib.hid (by rw [HRSw8.out, ← hjN]; exact HR.out)
          clear hjN
          go_wp2_with fail
          refine (C_num base g (stepO (.rows shLease) (stepO (.rows shDone) (stepO (.rows shGrant) (stepO (.rows shMember) (stepO (.rows [.text]) (stepO (.rows shTable) (stepO (.rows shSchema) (stepO (.num) (stepO (.num) (o)))))))))) _ HR.out).mono ?_
          rintro e ws4_0 ⟨⟨v, rfl, _⟩, hA, hK⟩
          obtain ⟨nw9, rfl⟩ : ∃ x, x = v := ⟨v, rfl⟩
          replace HR := Lib.hid hA
          replace HB := Lib.hid (HB.out.trans hK.below)
          replace HK := Lib.hid (HK.out.trans hK.keeps)
          replace HX := Lib.hid (HX.out.keeps hK.keeps (by decide))
          replace HRes := Lib.hid (HRes.out.keeps hK.keeps (by decide))
          have hszws4_0 := HK.out.size
          clear hA hK
          have hcxws4_0_0 : ws4_0.cell? ⟨w.heap.size + 1, 9, none⟩ = some (.int .i64 0) := HX.out.cell 9
          have hfzws4_0_0 : ws4_0.frozen? ⟨w.heap.size + 1, 9, none⟩ = false := HX.out.frozen 9
          have HY : Hid (Blk (ws4_0.setCell ⟨w.heap.size + 1, 9, none⟩ (.int .i64 nw9)) (w.heap.size + 1) 38 [.int .i64 nw0, .int .i64 nw1, .slice Aw2 mw2 kw2, .slice Aw3 mw3 kw3, .slice Aw4 mw4 kw4, .slice Aw5 mw5 kw5, .slice Aw6 mw6 kw6, .slice Aw7 mw7 kw7, .slice Aw8 mw8 kw8, .int .i64 nw9]) := Lib.hid (HX.out.set_ 9 (.int .i64 nw9))
          have HKA : Hid (Keeps [38] ws4_0 (ws4_0.setCell ⟨w.heap.size + 1, 9, none⟩ (.int .i64 nw9))) := Lib.hid ((Keeps.refl _ _).trans (Keeps.set_ HX.out.typ (by simp) (.int .i64 nw9)))
          have HBA : Hid (Below w.heap.size ws4_0 (ws4_0.setCell ⟨w.heap.size + 1, 9, none⟩ (.int .i64 nw9))) := Lib.hid ((Below.refl w.heap.size ws4_0).setCell hgx _)
          replace HRes := Lib.hid (HRes.out.far (p := ⟨w.heap.size + 1, 9, none⟩) (by dsimp only; omega) (.int .i64 nw9))
          replace HX := HY
          replace HR := Lib.hid (HR.out.keeps HKA.out (HBA.out.mono hbs) (by decide) (by decide))
          replace HB := Lib.hid (HB.out.trans (HBA.out.mono hbs))
          replace HK := Lib.hid (HK.out.below_new HBA.out)
          clear HY HKA HBA
          have HRG := Lib.hid HX.out.range0
          have HTE : Hid (World.there _ w.heap.size 0 (List.toArray ([.int .i64 nw0, .int .i64 nw1, .slice Aw2 mw2 kw2, .slice Aw3 mw3 kw3, .slice Aw4 mw4 kw4, .slice Aw5 mw5 kw5, .slice Aw6 mw6 kw6, .slice Aw7 mw7 kw7, .slice Aw8 mw8 kw8, .int .i64 nw9] : List Value)).size) := Lib.hid (HRes.out.there 0 10 (by simp))
          have hiV : Hid ((Tryz.prog.info? 38).map (·.size) = some (List.length ([.int .i64 nw0, .int .i64 nw1, .slice Aw2 mw2 kw2, .slice Aw3 mw3 kw3, .slice Aw4 mw4 kw4, .slice Aw5 mw5 kw5, .slice Aw6 mw6 kw6, .slice Aw7 mw7 kw7, .slice Aw8 mw8 kw8, .int .i64 nw9] : List Value))) := Lib.hid hi.out
          have hsV : Hid ((Tryz.prog.info? 38).map (·.size) = some (List.toArray ([.int .i64 nw0, .int .i64 nw1, .slice Aw2 mw2 kw2, .slice Aw3 mw3 kw3, .slice Aw4 mw4 kw4, .slice Aw5 mw5 kw5, .slice Aw6 mw6 kw6, .slice Aw7 mw7 kw7, .slice Aw8 mw8 kw8, .int .i64 nw9] : List Value)).size) := Lib.hid hi.out
          have h1V : Hid ((List.toArray ([.int .i64 nw0, .int .i64 nw1, .slice Aw2 mw2 kw2, .slice Aw3 mw3 kw3, .slice Aw4 mw4 kw4, .slice Aw5 mw5 kw5, .slice Aw6 mw6 kw6, .slice Aw7 mw7 kw7, .slice Aw8 mw8 kw8, .int .i64 nw9] : List Value)).all (·.oneCell') = true) := Lib.hid (all_oneCell_toArray (by simp [Value.oneCell']))
          go_wp2_with (first | (with_reducible refine wpList_load_mid rfl 38 _ rfl (w.heap.size + 1) 0 rfl [.int .i64 nw0, .int .i64 nw1, .slice Aw2 mw2 kw2, .slice Aw3 mw3 kw3, .slice Aw4 mw4 kw4, .slice Aw5 mw5 kw5, .slice Aw6 mw6 kw6, .slice Aw7 mw7 kw7, .slice Aw8 mw8 kw8, .int .i64 nw9] _ HRG.out Tryz.underlying38 rfl hiV.out ?_) | (with_reducible refine wpList_store_mid rfl 38 _ _ rfl w.heap.size 0 (List.toArray ([.int .i64 nw0, .int .i64 nw1, .slice Aw2 mw2 kw2, .slice Aw3 mw3 kw3, .slice Aw4 mw4 kw4, .slice Aw5 mw5 kw5, .slice Aw6 mw6 kw6, .slice Aw7 mw7 kw7, .slice Aw8 mw8 kw8, .int .i64 nw9] : List Value)) rfl rfl HTE.out hsV.out h1V.out ?_))
          have HXE := Lib.hid (HRes.out.setCells0 [.int .i64 nw0, .int .i64 nw1, .slice Aw2 mw2 kw2, .slice Aw3 mw3 kw3, .slice Aw4 mw4 kw4, .slice Aw5 mw5 kw5, .slice Aw6 mw6 kw6, .slice Aw7 mw7 kw7, .slice Aw8 mw8 kw8, .int .i64 nw9] rfl)
          have HKE := Lib.hid (Keeps.setCells (ts := [38]) (t := 38) (by simp) HRes.out.typ 0 [.int .i64 nw0, .int .i64 nw1, .slice Aw2 mw2 kw2, .slice Aw3 mw3 kw3, .slice Aw4 mw4 kw4, .slice Aw5 mw5 kw5, .slice Aw6 mw6 kw6, .slice Aw7 mw7 kw7, .slice Aw8 mw8 kw8, .int .i64 nw9])
          refine bodyPost_ret (results_cell rfl _ _ w.heap.size rfl [.int .i64 nw0, .int .i64 nw1, .slice Aw2 mw2 kw2, .slice Aw3 mw3 kw3, .slice Aw4 mw4 kw4, .slice Aw5 mw5 kw5, .slice Aw6 mw6 kw6, .slice Aw7 mw7 kw7, .slice Aw8 mw8 kw8, .int .i64 nw9] _ HXE.out.range0 Tryz.underlying38 rfl hiV.out) rfl ?_
          refine ⟨⟨[.int .i64 nw0, .int .i64 nw1, .slice Aw2 mw2 kw2, .slice Aw3 mw3 kw3, .slice Aw4 mw4 kw4, .slice Aw5 mw5 kw5, .slice Aw6 mw6 kw6, .slice Aw7 mw7 kw7, .slice Aw8 mw8 kw8, .int .i64 nw9], rfl, (Kinds.mk (Kind1.num nw0) (Kinds.mk (Kind1.num nw1) (Kinds.mk (Kind1.rows _ Aw2 mw2 kw2) (Kinds.mk (Kind1.rows _ Aw3 mw3 kw3) (Kinds.mk (Kind1.rows _ Aw4 mw4 kw4) (Kinds.mk (Kind1.rows _ Aw5 mw5 kw5) (Kinds.mk (Kind1.rows _ Aw6 mw6 kw6) (Kinds.mk (Kind1.rows _ Aw7 mw7 kw7) (Kinds.mk (Kind1.rows _ Aw8 mw8 kw8) (Kinds.mk (Kind1.num nw9) Kinds.mk0))))))))))⟩, ?_, HB.out.trans (below_setCells_ hbs _ _), HK.out.below_new (below_setCells_ (Nat.le_refl _) _ _)⟩
          have hfin := HR.out.keeps HKE.out (below_setCells_ hbs _ _) (by decide) (by decide)
          simpa only [shMachine, stepS_cons, stepS_nil] using hfin

        cases nb with
        | true =>
          replace HR : Hid (CutAt wr base g (stepO (.rows shLease) (stepO (.rows shDone) (stepO (.rows shGrant) (stepO (.rows shMember) (stepO (.rows [.text]) (stepO (.rows shTable) (stepO (.rows shSchema) (stepO (.num) (stepO (.num) (o))))))))))) := Lib.hid (by
            have h1 : iterO shLease mw8 ow8 = none := by have := HNB.out; simpa using this
            rw [HRSw8.out, iterO_none h1 (by omega), ← h1]
            exact HR.out)
          go_wp2_with fail
          refine (C_num base g (stepO (.rows shLease) (stepO (.rows shDone) (stepO (.rows shGrant) (stepO (.rows shMember) (stepO (.rows [.text]) (stepO (.rows shTable) (stepO (.rows shSchema) (stepO (.num) (stepO (.num) (o)))))))))) _ HR.out).mono ?_
          rintro e ws4_0 ⟨⟨v, rfl, _⟩, hA, hK⟩
          obtain ⟨nw9, rfl⟩ : ∃ x, x = v := ⟨v, rfl⟩
          replace HR := Lib.hid hA
          replace HB := Lib.hid (HB.out.trans hK.below)
          replace HK := Lib.hid (HK.out.trans hK.keeps)
          replace HX := Lib.hid (HX.out.keeps hK.keeps (by decide))
          replace HRes := Lib.hid (HRes.out.keeps hK.keeps (by decide))
          have hszws4_0 := HK.out.size
          clear hA hK
          have hcxws4_0_0 : ws4_0.cell? ⟨w.heap.size + 1, 9, none⟩ = some (.int .i64 0) := HX.out.cell 9
          have hfzws4_0_0 : ws4_0.frozen? ⟨w.heap.size + 1, 9, none⟩ = false := HX.out.frozen 9
          have HY : Hid (Blk (ws4_0.setCell ⟨w.heap.size + 1, 9, none⟩ (.int .i64 nw9)) (w.heap.size + 1) 38 [.int .i64 nw0, .int .i64 nw1, .slice Aw2 mw2 kw2, .slice Aw3 mw3 kw3, .slice Aw4 mw4 kw4, .slice Aw5 mw5 kw5, .slice Aw6 mw6 kw6, .slice Aw7 mw7 kw7, .slice Aw8 mw8 kw8, .int .i64 nw9]) := Lib.hid (HX.out.set_ 9 (.int .i64 nw9))
          have HKA : Hid (Keeps [38] ws4_0 (ws4_0.setCell ⟨w.heap.size + 1, 9, none⟩ (.int .i64 nw9))) := Lib.hid ((Keeps.refl _ _).trans (Keeps.set_ HX.out.typ (by simp) (.int .i64 nw9)))
          have HBA : Hid (Below w.heap.size ws4_0 (ws4_0.setCell ⟨w.heap.size + 1, 9, none⟩ (.int .i64 nw9))) := Lib.hid ((Below.refl w.heap.size ws4_0).setCell hgx _)
          replace HRes := Lib.hid (HRes.out.far (p := ⟨w.heap.size + 1, 9, none⟩) (by dsimp only; omega) (.int .i64 nw9))
          replace HX := HY
          replace HR := Lib.hid (HR.out.keeps HKA.out (HBA.out.mono hbs) (by decide) (by decide))
          replace HB := Lib.hid (HB.out.trans (HBA.out.mono hbs))
          replace HK := Lib.hid (HK.out.below_new HBA.out)
          clear HY HKA HBA
          have HRG := Lib.hid HX.out.range0
          have HTE : Hid (World.there _ w.heap.size 0 (List.toArray ([.int .i64 nw0, .int .i64 nw1, .slice Aw2 mw2 kw2, .slice Aw3 mw3 kw3, .slice Aw4 mw4 kw4, .slice Aw5 mw5 kw5, .slice Aw6 mw6 kw6, .slice Aw7 mw7 kw7, .slice Aw8 mw8 kw8, .int .i64 nw9] : List Value)).size) := Lib.hid (HRes.out.there 0 10 (by simp))
          have hiV : Hid ((Tryz.prog.info? 38).map (·.size) = some (List.length ([.int .i64 nw0, .int .i64 nw1, .slice Aw2 mw2 kw2, .slice Aw3 mw3 kw3, .slice Aw4 mw4 kw4, .slice Aw5 mw5 kw5, .slice Aw6 mw6 kw6, .slice Aw7 mw7 kw7, .slice Aw8 mw8 kw8, .int .i64 nw9] : List Value))) := Lib.hid hi.out
          have hsV : Hid ((Tryz.prog.info? 38).map (·.size) = some (List.toArray ([.int .i64 nw0, .int .i64 nw1, .slice Aw2 mw2 kw2, .slice Aw3 mw3 kw3, .slice Aw4 mw4 kw4, .slice Aw5 mw5 kw5, .slice Aw6 mw6 kw6, .slice Aw7 mw7 kw7, .slice Aw8 mw8 kw8, .int .i64 nw9] : List Value)).size) := Lib.hid hi.out
          have h1V : Hid ((List.toArray ([.int .i64 nw0, .int .i64 nw1, .slice Aw2 mw2 kw2, .slice Aw3 mw3 kw3, .slice Aw4 mw4 kw4, .slice Aw5 mw5 kw5, .slice Aw6 mw6 kw6, .slice Aw7 mw7 kw7, .slice Aw8 mw8 kw8, .int .i64 nw9] : List Value)).all (·.oneCell') = true) := Lib.hid (all_oneCell_toArray (by simp [Value.oneCell']))
          go_wp2_with (first | (with_reducible refine wpList_load_mid rfl 38 _ rfl (w.heap.size + 1) 0 rfl [.int .i64 nw0, .int .i64 nw1, .slice Aw2 mw2 kw2, .slice Aw3 mw3 kw3, .slice Aw4 mw4 kw4, .slice Aw5 mw5 kw5, .slice Aw6 mw6 kw6, .slice Aw7 mw7 kw7, .slice Aw8 mw8 kw8, .int .i64 nw9] _ HRG.out Tryz.underlying38 rfl hiV.out ?_) | (with_reducible refine wpList_store_mid rfl 38 _ _ rfl w.heap.size 0 (List.toArray ([.int .i64 nw0, .int .i64 nw1, .slice Aw2 mw2 kw2, .slice Aw3 mw3 kw3, .slice Aw4 mw4 kw4, .slice Aw5 mw5 kw5, .slice Aw6 mw6 kw6, .slice Aw7 mw7 kw7, .slice Aw8 mw8 kw8, .int .i64 nw9] : List Value)) rfl rfl HTE.out hsV.out h1V.out ?_))
          have HXE := Lib.hid (HRes.out.setCells0 [.int .i64 nw0, .int .i64 nw1, .slice Aw2 mw2 kw2, .slice Aw3 mw3 kw3, .slice Aw4 mw4 kw4, .slice Aw5 mw5 kw5, .slice Aw6 mw6 kw6, .slice Aw7 mw7 kw7, .slice Aw8 mw8 kw8, .int .i64 nw9] rfl)
          have HKE := Lib.hid (Keeps.setCells (ts := [38]) (t := 38) (by simp) HRes.out.typ 0 [.int .i64 nw0, .int .i64 nw1, .slice Aw2 mw2 kw2, .slice Aw3 mw3 kw3, .slice Aw4 mw4 kw4, .slice Aw5 mw5 kw5, .slice Aw6 mw6 kw6, .slice Aw7 mw7 kw7, .slice Aw8 mw8 kw8, .int .i64 nw9])
          refine bodyPost_ret (results_cell rfl _ _ w.heap.size rfl [.int .i64 nw0, .int .i64 nw1, .slice Aw2 mw2 kw2, .slice Aw3 mw3 kw3, .slice Aw4 mw4 kw4, .slice Aw5 mw5 kw5, .slice Aw6 mw6 kw6, .slice Aw7 mw7 kw7, .slice Aw8 mw8 kw8, .int .i64 nw9] _ HXE.out.range0 Tryz.underlying38 rfl hiV.out) rfl ?_
          refine ⟨⟨[.int .i64 nw0, .int .i64 nw1, .slice Aw2 mw2 kw2, .slice Aw3 mw3 kw3, .slice Aw4 mw4 kw4, .slice Aw5 mw5 kw5, .slice Aw6 mw6 kw6, .slice Aw7 mw7 kw7, .slice Aw8 mw8 kw8, .int .i64 nw9], rfl, (Kinds.mk (Kind1.num nw0) (Kinds.mk (Kind1.num nw1) (Kinds.mk (Kind1.rows _ Aw2 mw2 kw2) (Kinds.mk (Kind1.rows _ Aw3 mw3 kw3) (Kinds.mk (Kind1.rows _ Aw4 mw4 kw4) (Kinds.mk (Kind1.rows _ Aw5 mw5 kw5) (Kinds.mk (Kind1.rows _ Aw6 mw6 kw6) (Kinds.mk (Kind1.rows _ Aw7 mw7 kw7) (Kinds.mk (Kind1.rows _ Aw8 mw8 kw8) (Kinds.mk (Kind1.num nw9) Kinds.mk0))))))))))⟩, ?_, HB.out.trans (below_setCells_ hbs _ _), HK.out.below_new (below_setCells_ (Nat.le_refl _) _ _)⟩
          have hfin := HR.out.keeps HKE.out (below_setCells_ hbs _ _) (by decide) (by decide)
          simpa only [shMachine, stepS_cons, stepS_nil] using hfin

        | false =>
          have hbs0 := hbs
          have hobx : ∀ k, (Value.slice Aw8 mw8 kw8).ownBlock = some k → k < wr.heap.size := fun k hk => (HO.out.lt k hk).2
          have HXo := HX
          have HBo := HB
          have HKo := HK
          have hbs1 : base ≤ wr.heap.size := by omega
          replace HX : Hid (Blk (wr.alloc (.cells #[.int .i64 0, .int .i64 0, .int .i64 0, .int .i64 0] 101)) wr.heap.size 101 [.int .i64 0, .int .i64 0, .int .i64 0, .int .i64 0]) := Lib.hid (Blk.new wr 101 [.int .i64 0, .int .i64 0, .int .i64 0, .int .i64 0])
          have HTZ : Hid (World.there (wr.alloc (.cells #[.int .i64 0, .int .i64 0, .int .i64 0, .int .i64 0] 101)) (wr.heap.size) 0 (List.toArray ([.int .i64 0, .int .i64 0, .int .i64 0, .int .i64 0] : List Value)).size) := Lib.hid (HX.out.there 0 4 (by simp))
          have hsZ : Hid ((Tryz.prog.info? 101).map (·.size) = some (List.toArray ([.int .i64 0, .int .i64 0, .int .i64 0, .int .i64 0] : List Value)).size) := Lib.hid (by kernel_rfl)
          have h1Z : Hid ((List.toArray ([.int .i64 0, .int .i64 0, .int .i64 0, .int .i64 0] : List Value)).all (·.oneCell') = true) := Lib.hid (all_oneCell_toArray (by simp [Value.oneCell']))
          have hbw3 : Below wr.heap.size wr ((wr.alloc (.cells #[.int .i64 0, .int .i64 0, .int .i64 0, .int .i64 0] 101)).setCells (wr.heap.size) 0 [.int .i64 0, .int .i64 0, .int .i64 0, .int .i64 0]) := ((Below.refl _ _).alloc (Nat.le_refl _) _).trans (below_setCells_ (Nat.le_refl _) 0 [.int .i64 0, .int .i64 0, .int .i64 0, .int .i64 0])
          replace HR := Lib.hid (HR.out.below_ hbw3)
          replace HB : Hid (Below base wr ((wr.alloc (.cells #[.int .i64 0, .int .i64 0, .int .i64 0, .int .i64 0] 101)).setCells (wr.heap.size) 0 [.int .i64 0, .int .i64 0, .int .i64 0, .int .i64 0])) := Lib.hid (hbw3.mono hbs1)
          replace HK : Hid (Keeps [108, 106] wr ((wr.alloc (.cells #[.int .i64 0, .int .i64 0, .int .i64 0, .int .i64 0] 101)).setCells (wr.heap.size) 0 [.int .i64 0, .int .i64 0, .int .i64 0, .int .i64 0])) := Lib.hid (Keeps.of_below hbw3 (Nat.le_refl _))
          replace HX : Hid (Blk ((wr.alloc (.cells #[.int .i64 0, .int .i64 0, .int .i64 0, .int .i64 0] 101)).setCells (wr.heap.size) 0 [.int .i64 0, .int .i64 0, .int .i64 0, .int .i64 0]) wr.heap.size 101 [.int .i64 0, .int .i64 0, .int .i64 0, .int .i64 0]) := Lib.hid (HX.out.setCells0 [.int .i64 0, .int .i64 0, .int .i64 0, .int .i64 0] rfl)
          replace HXo := Lib.hid (HXo.out.below hbw3 HXo.out.lt)
          replace HRes := Lib.hid (HRes.out.below hbw3 HRes.out.lt)
          replace HO := Lib.hid (HO.out.below_ hbw3)
          clear hbw3
          have hob := hobx
          have hgx0 := hgx
          have hgx : wr.heap.size ≤ wr.heap.size := Nat.le_refl _
          have hbs := hbs1
          go_wp2_with (with_reducible refine wpList_store_mid rfl 101 _ _ rfl (wr.heap.size) 0 (List.toArray ([.int .i64 0, .int .i64 0, .int .i64 0, .int .i64 0] : List Value)) rfl rfl HTZ.out hsZ.out h1Z.out ?_)
          refine (C_num base g (iterO shLease mw8 ow8) _ HR.out).mono ?_
          rintro e u8_0 ⟨⟨v, rfl, _⟩, hA, hK⟩
          obtain ⟨nu0, rfl⟩ : ∃ x, x = v := ⟨v, rfl⟩
          replace HR := Lib.hid hA
          replace HB := Lib.hid (HB.out.trans hK.below)
          replace HK := Lib.hid (HK.out.trans hK.keeps)
          replace HX := Lib.hid (HX.out.keeps hK.keeps (by decide))
          replace HO := Lib.hid (HO.out.keeps hK.keeps (by decide))
          replace HXo := Lib.hid (HXo.out.keeps hK.keeps (by decide))
          replace HRes := Lib.hid (HRes.out.keeps hK.keeps (by decide))
          have hszu8_0 := HK.out.size
          clear hA hK
          have hcxu8_0_0 : u8_0.cell? ⟨wr.heap.size, 0, none⟩ = some (.int .i64 0) := HX.out.cell 0
          have hfzu8_0_0 : u8_0.frozen? ⟨wr.heap.size, 0, none⟩ = false := HX.out.frozen 0
          have HY : Hid (Blk (u8_0.setCell ⟨wr.heap.size, 0, none⟩ (.int .i64 nu0)) (wr.heap.size) 101 [.int .i64 nu0, .int .i64 0, .int .i64 0, .int .i64 0]) := Lib.hid (HX.out.set_ 0 (.int .i64 nu0))
          have HKA : Hid (Keeps [101] u8_0 (u8_0.setCell ⟨wr.heap.size, 0, none⟩ (.int .i64 nu0))) := Lib.hid ((Keeps.refl _ _).trans (Keeps.set_ HX.out.typ (by simp) (.int .i64 nu0)))
          have HBA : Hid (Below wr.heap.size u8_0 (u8_0.setCell ⟨wr.heap.size, 0, none⟩ (.int .i64 nu0))) := Lib.hid ((Below.refl wr.heap.size u8_0).setCell hgx _)
          replace HO := Lib.hid (own_set HO.out hob 0 (.int .i64 nu0))
          replace HX := HY
          replace HXo := Lib.hid (HXo.out.keeps HKA.out (by decide))
          replace HRes := Lib.hid (HRes.out.keeps HKA.out (by decide))
          replace HR := Lib.hid (HR.out.keeps HKA.out (HBA.out.mono hbs) (by decide) (by decide))
          replace HB := Lib.hid (HB.out.trans (HBA.out.mono hbs))
          replace HK := Lib.hid (HK.out.below_new HBA.out)
          clear HY HKA HBA
          go_wp2_with fail
          refine (C_num base g (stepO .num (iterO shLease mw8 ow8)) _ HR.out).mono ?_
          rintro e u8_1 ⟨⟨v, rfl, _⟩, hA, hK⟩
          obtain ⟨nu1, rfl⟩ : ∃ x, x = v := ⟨v, rfl⟩
          replace HR := Lib.hid hA
          replace HB := Lib.hid (HB.out.trans hK.below)
          replace HK := Lib.hid (HK.out.trans hK.keeps)
          replace HX := Lib.hid (HX.out.keeps hK.keeps (by decide))
          replace HO := Lib.hid (HO.out.keeps hK.keeps (by decide))
          replace HXo := Lib.hid (HXo.out.keeps hK.keeps (by decide))
          replace HRes := Lib.hid (HRes.out.keeps hK.keeps (by decide))
          have hszu8_1 := HK.out.size
          clear hA hK
          have hcxu8_1_0 : u8_1.cell? ⟨wr.heap.size, 1, none⟩ = some (.int .i64 0) := HX.out.cell 1
          have hfzu8_1_0 : u8_1.frozen? ⟨wr.heap.size, 1, none⟩ = false := HX.out.frozen 1
          have HY : Hid (Blk (u8_1.setCell ⟨wr.heap.size, 1, none⟩ (.int .i64 nu1)) (wr.heap.size) 101 [.int .i64 nu0, .int .i64 nu1, .int .i64 0, .int .i64 0]) := Lib.hid (HX.out.set_ 1 (.int .i64 nu1))
          have HKA : Hid (Keeps [101] u8_1 (u8_1.setCell ⟨wr.heap.size, 1, none⟩ (.int .i64 nu1))) := Lib.hid ((Keeps.refl _ _).trans (Keeps.set_ HX.out.typ (by simp) (.int .i64 nu1)))
          have HBA : Hid (Below wr.heap.size u8_1 (u8_1.setCell ⟨wr.heap.size, 1, none⟩ (.int .i64 nu1))) := Lib.hid ((Below.refl wr.heap.size u8_1).setCell hgx _)
          replace HO := Lib.hid (own_set HO.out hob 1 (.int .i64 nu1))
          replace HX := HY
          replace HXo := Lib.hid (HXo.out.keeps HKA.out (by decide))
          replace HRes := Lib.hid (HRes.out.keeps HKA.out (by decide))
          replace HR := Lib.hid (HR.out.keeps HKA.out (HBA.out.mono hbs) (by decide) (by decide))
          replace HB := Lib.hid (HB.out.trans (HBA.out.mono hbs))
          replace HK := Lib.hid (HK.out.below_new HBA.out)
          clear HY HKA HBA
          go_wp2_with fail
          refine (C_num base g (stepO .num (stepO .num (iterO shLease mw8 ow8))) _ HR.out).mono ?_
          rintro e u8_2 ⟨⟨v, rfl, _⟩, hA, hK⟩
          obtain ⟨nu2, rfl⟩ : ∃ x, x = v := ⟨v, rfl⟩
          replace HR := Lib.hid hA
          replace HB := Lib.hid (HB.out.trans hK.below)
          replace HK := Lib.hid (HK.out.trans hK.keeps)
          replace HX := Lib.hid (HX.out.keeps hK.keeps (by decide))
          replace HO := Lib.hid (HO.out.keeps hK.keeps (by decide))
          replace HXo := Lib.hid (HXo.out.keeps hK.keeps (by decide))
          replace HRes := Lib.hid (HRes.out.keeps hK.keeps (by decide))
          have hszu8_2 := HK.out.size
          clear hA hK
          have hcxu8_2_0 : u8_2.cell? ⟨wr.heap.size, 2, none⟩ = some (.int .i64 0) := HX.out.cell 2
          have hfzu8_2_0 : u8_2.frozen? ⟨wr.heap.size, 2, none⟩ = false := HX.out.frozen 2
          have HY : Hid (Blk (u8_2.setCell ⟨wr.heap.size, 2, none⟩ (.int .i64 nu2)) (wr.heap.size) 101 [.int .i64 nu0, .int .i64 nu1, .int .i64 nu2, .int .i64 0]) := Lib.hid (HX.out.set_ 2 (.int .i64 nu2))
          have HKA : Hid (Keeps [101] u8_2 (u8_2.setCell ⟨wr.heap.size, 2, none⟩ (.int .i64 nu2))) := Lib.hid ((Keeps.refl _ _).trans (Keeps.set_ HX.out.typ (by simp) (.int .i64 nu2)))
          have HBA : Hid (Below wr.heap.size u8_2 (u8_2.setCell ⟨wr.heap.size, 2, none⟩ (.int .i64 nu2))) := Lib.hid ((Below.refl wr.heap.size u8_2).setCell hgx _)
          replace HO := Lib.hid (own_set HO.out hob 2 (.int .i64 nu2))
          replace HX := HY
          replace HXo := Lib.hid (HXo.out.keeps HKA.out (by decide))
          replace HRes := Lib.hid (HRes.out.keeps HKA.out (by decide))
          replace HR := Lib.hid (HR.out.keeps HKA.out (HBA.out.mono hbs) (by decide) (by decide))
          replace HB := Lib.hid (HB.out.trans (HBA.out.mono hbs))
          replace HK := Lib.hid (HK.out.below_new HBA.out)
          clear HY HKA HBA
          go_wp2_with fail
          refine (C_num base g (stepO .num (stepO .num (stepO .num (iterO shLease mw8 ow8)))) _ HR.out).mono ?_
          rintro e u8_3 ⟨⟨v, rfl, _⟩, hA, hK⟩
          obtain ⟨nu3, rfl⟩ : ∃ x, x = v := ⟨v, rfl⟩
          replace HR := Lib.hid hA
          replace HB := Lib.hid (HB.out.trans hK.below)
          replace HK := Lib.hid (HK.out.trans hK.keeps)
          replace HX := Lib.hid (HX.out.keeps hK.keeps (by decide))
          replace HO := Lib.hid (HO.out.keeps hK.keeps (by decide))
          replace HXo := Lib.hid (HXo.out.keeps hK.keeps (by decide))
          replace HRes := Lib.hid (HRes.out.keeps hK.keeps (by decide))
          have hszu8_3 := HK.out.size
          clear hA hK
          have hcxu8_3_0 : u8_3.cell? ⟨wr.heap.size, 3, none⟩ = some (.int .i64 0) := HX.out.cell 3
          have hfzu8_3_0 : u8_3.frozen? ⟨wr.heap.size, 3, none⟩ = false := HX.out.frozen 3
          have HY : Hid (Blk (u8_3.setCell ⟨wr.heap.size, 3, none⟩ (.int .i64 nu3)) (wr.heap.size) 101 [.int .i64 nu0, .int .i64 nu1, .int .i64 nu2, .int .i64 nu3]) := Lib.hid (HX.out.set_ 3 (.int .i64 nu3))
          have HKA : Hid (Keeps [101] u8_3 (u8_3.setCell ⟨wr.heap.size, 3, none⟩ (.int .i64 nu3))) := Lib.hid ((Keeps.refl _ _).trans (Keeps.set_ HX.out.typ (by simp) (.int .i64 nu3)))
          have HBA : Hid (Below wr.heap.size u8_3 (u8_3.setCell ⟨wr.heap.size, 3, none⟩ (.int .i64 nu3))) := Lib.hid ((Below.refl wr.heap.size u8_3).setCell hgx _)
          replace HO := Lib.hid (own_set HO.out hob 3 (.int .i64 nu3))
          replace HX := HY
          replace HXo := Lib.hid (HXo.out.keeps HKA.out (by decide))
          replace HRes := Lib.hid (HRes.out.keeps HKA.out (by decide))
          replace HR := Lib.hid (HR.out.keeps HKA.out (HBA.out.mono hbs) (by decide) (by decide))
          replace HB := Lib.hid (HB.out.trans (HBA.out.mono hbs))
          replace HK := Lib.hid (HK.out.below_new HBA.out)
          clear HY HKA HBA
          have hst : stepO .num (stepO .num (stepO .num (stepO .num (iterO shLease mw8 ow8)))) = iterO shLease (mw8 + 1) ow8 := by rw [iterO_succ]; show _ = stepS [.num, .num, .num, .num] _; simp only [stepS_cons, stepS_nil]
          rw [hst] at HR
          have HA2 := HR
          have HB2 := Lib.hid (HBo.out.trans HB.out)
          have HK2 := Lib.hid (HKo.out.trans HK.out)
          have HX2 := HXo
          have HRes2 := HRes
          have HO2 := HO
          have HXe := HX
          have hiZ : Hid ((Tryz.prog.info? 101).map (·.size) = some (List.length ([.int .i64 nu0, .int .i64 nu1, .int .i64 nu2, .int .i64 nu3] : List Value))) := Lib.hid (by kernel_rfl)
          have hsz3 := HK.out.size
          clear HBo HB HKo HK HO HR hst hcb HX HXo HRes HTZ
          have hgx := hgx0
          obtain ⟨i0, hi0⟩ : ∃ i, Tryz.prog.info? 101 = some i := by
            cases hq : Tryz.prog.info? 101 with
            | none => have h0 : (Tryz.prog.info? 101).isSome = true := by kernel_rfl
                      rw [hq] at h0; cases h0
            | some i => exact ⟨i, rfl⟩
          have hinf : (Tryz.prog.info? 101).map (fun i => (i.zero, i.size, decide (i.bytes ≤ 1000))) = some (some (.agg #[.int .i64 0, .int .i64 0, .int .i64 0, .int .i64 0]), 4, true) := by kernel_rfl
          rw [hi0] at hinf
          simp only [Option.map_some, Option.some.injEq, Prod.mk.injEq, decide_eq_true_eq] at hinf
          obtain ⟨hz0, hz1, hz2⟩ := hinf
          have hby := Nat.mul_le_mul_left 4097 hz2
          have HI := Lib.hid (And.intro hi0 (And.intro hz0 hz1))
          clear hi0 hz0 hz1
          have hszn : (u8_3.setCell ⟨wr.heap.size, 3, none⟩ (.int .i64 nu3)).heap.size = u8_3.heap.size := by simp
          have HNB2 : Hid (Blk ((u8_3.setCell ⟨wr.heap.size, 3, none⟩ (.int .i64 nu3)).alloc (.cells (List.toArray ([.int .i64 nu0, .int .i64 nu1, .int .i64 nu2, .int .i64 nu3] : List Value)) 101)) (u8_3.heap.size) 101 [.int .i64 nu0, .int .i64 nu1, .int .i64 nu2, .int .i64 nu3]) := Lib.hid (by have := Blk.new (u8_3.setCell ⟨wr.heap.size, 3, none⟩ (.int .i64 nu3)) 101 [.int .i64 nu0, .int .i64 nu1, .int .i64 nu2, .int .i64 nu3]; rwa [hszn] at this)
          have HRG := Lib.hid HXe.out.range0
          have hcxf : (u8_3.setCell ⟨wr.heap.size, 3, none⟩ (.int .i64 nu3)).cell? ⟨w.heap.size + 1, 8, none⟩ = some (.slice Aw8 mw8 kw8) := HX2.out.cell 8
          have hbase2 := HK2.out.size
          go_wp2_with (first | (with_reducible refine wpList_load_mid rfl 101 _ rfl (wr.heap.size) 0 rfl [.int .i64 nu0, .int .i64 nu1, .int .i64 nu2, .int .i64 nu3] _ HRG.out Tryz.underlying101 rfl hiZ.out ?_) | (at_builtin; refine wpList_appN rfl _ _ 36 rfl w.heap.size 101 i0 _ 4 i0.bytes Tryz.underlying36 HI.out.1 HI.out.2.1 HI.out.2.2 rfl rfl (by decide) (.slice Aw8 mw8 kw8) mw8 xs rfl (HO2.out.alloc _) ⟨u8_3.heap.size, 0, none⟩ 1 [.int .i64 nu0, .int .i64 nu1, .int .i64 nu2, .int .i64 nu3] rfl rfl HNB2.out.news (by simp [Value.oneCell']) (by unfold maxLen; omega) (Nat.le_trans (Nat.mul_le_mul_right _ (by omega)) (Nat.le_trans hby (by decide))) (by simp at hbase2 ⊢; omega) ?_; intro A3 c3 w3 HO3 HG3; have HXA := Lib.hid ((HX2.out.alloc _).keeps (Keeps.grown (ts := [101]) (HO2.out.alloc _) HG3.out (by simp) HG3.out.size) (by decide)); have hcxa : w3.cell? ⟨w.heap.size + 1, 8, none⟩ = some (.slice Aw8 mw8 kw8) := HXA.out.cell 8; have hfxa : w3.frozen? ⟨w.heap.size + 1, 8, none⟩ = false := HXA.out.frozen 8))
          have HKA : Hid (Keeps [101] (u8_3.setCell ⟨wr.heap.size, 3, none⟩ (.int .i64 nu3)) w3) := Lib.hid ((Keeps.alloc (u8_3.setCell ⟨wr.heap.size, 3, none⟩ (.int .i64 nu3)) _).trans (Keeps.grown (HO2.out.alloc _) HG3.out (by simp) HG3.out.size))
          have HBA : Hid (Below base (u8_3.setCell ⟨wr.heap.size, 3, none⟩ (.int .i64 nu3)) w3) := Lib.hid (((Below.refl _ _).alloc (by omega) _).grown HG3.out (by simp; omega) (by intro k hk; have := own_block_ge HO2.out k hk; omega))
          have HKF : Hid (Keeps [38] w3 (w3.setCell ⟨w.heap.size + 1, 8, none⟩ (.slice A3 (mw8 + 1) c3))) := Lib.hid (Keeps.set_ HXA.out.typ (by simp) _)
          have HBF : Hid (Below w.heap.size w3 (w3.setCell ⟨w.heap.size + 1, 8, none⟩ (.slice A3 (mw8 + 1) c3))) := Lib.hid ((Below.refl _ _).setCell hgx _)
          have hrel : ∃ (j' : Nat) (A : Option Addr) (c : Nat) (xs : List Value), j' ≤ Nw8 ∧ Value.int .i64 ((mw8 : Int) + 1) = .int .i64 j' ∧ Hid (CutAt (w3.setCell ⟨w.heap.size + 1, 8, none⟩ (.slice A3 (mw8 + 1) c3)) base g (iterO shLease j' ow8)) ∧ Hid ((w3.setCell ⟨w.heap.size + 1, 8, none⟩ (.slice A3 (mw8 + 1) c3)).ownsRow w.heap.size 101 4 (.slice A j' c) j' xs) ∧ Hid (Blk (w3.setCell ⟨w.heap.size + 1, 8, none⟩ (.slice A3 (mw8 + 1) c3)) (w.heap.size + 1) 38 [.int .i64 nw0, .int .i64 nw1, .slice Aw2 mw2 kw2, .slice Aw3 mw3 kw3, .slice Aw4 mw4 kw4, .slice Aw5 mw5 kw5, .slice Aw6 mw6 kw6, .slice Aw7 mw7 kw7, .slice A j' c, .int .i64 0]) ∧ Hid (Blk (w3.setCell ⟨w.heap.size + 1, 8, none⟩ (.slice A3 (mw8 + 1) c3)) w.heap.size 38 [.int .i64 0, .int .i64 0, .slice none 0 0, .slice none 0 0, .slice none 0 0, .slice none 0 0, .slice none 0 0, .slice none 0 0, .slice none 0 0, .int .i64 0]) ∧ Hid (Below base w (w3.setCell ⟨w.heap.size + 1, 8, none⟩ (.slice A3 (mw8 + 1) c3))) ∧ Hid (Keeps [108, 106] w (w3.setCell ⟨w.heap.size + 1, 8, none⟩ (.slice A3 (mw8 + 1) c3))) := by
            refine ⟨mw8 + 1, A3, c3, _, by omega, by simp, Lib.hid ((HA2.out.keeps HKA.out HBA.out (by decide) (by decide)).keeps HKF.out (HBF.out.mono hbs0) (by decide) (by decide)), Lib.hid (HO3.out.kept (grownBy_setCell (World.grownBy.refl _ _) 8 _) (.inr (blk_own_ne HXA.out HO3.out (by decide)).symm)), Lib.hid (HXA.out.set_ 8 _), Lib.hid ((HRes2.out.keeps HKA.out (by decide)).far (by dsimp only; omega) _), Lib.hid ((HB2.out.trans HBA.out).trans (HBF.out.mono hbs0)), Lib.hid (Keeps.below_new ?_ HBF.out)⟩
            exact (HK2.out.then_below ((Below.refl _ _).alloc (Nat.le_refl _) _)).grown_new HG3.out (fun k hk => by have := own_block_ge HO2.out k hk; omega)
          clear HKA HBA HKF HBF HXA HO3 HG3 HO2 HA2 HK2 HB2 HX2 HRes2
          go_wp2
          go_roundw
          case rel => obtain ⟨j', A, c, xs, h1, h2, h3⟩ := hrel; exact ⟨j', A, c, xs, h1, by rw [← h2], h3⟩
          case measure => simp [intOf]; omega
    cases nb with
    | true =>
      replace HR : Hid (CutAt wr base g (stepO (.rows shDone) (stepO (.rows shGrant) (stepO (.rows shMember) (stepO (.rows [.text]) (stepO (.rows shTable) (stepO (.rows shSchema) (stepO (.num) (stepO (.num) (o)))))))))) := Lib.hid (by
        have h1 : iterO shDone mw7 ow7 = none := by have := HNB.out; simpa using this
        rw [HRSw7.out, iterO_none h1 (by omega), ← h1]
        exact HR.out)
      go_wp2_with fail
      refine (C_many base g (stepO (.rows shDone) (stepO (.rows shGrant) (stepO (.rows shMember) (stepO (.rows [.text]) (stepO (.rows shTable) (stepO (.rows shSchema) (stepO (.num) (stepO (.num) (o))))))))) _ HR.out).mono ?_
      rintro e wmw8 ⟨⟨Nw8, rfl, hN4, hN⟩, hA, hK⟩
      have HRSw8 := Lib.hid (rows_step (sh := shLease) hN)
      obtain ⟨ow8, ho1⟩ : ∃ o1, stepM (stepO (.rows shDone) (stepO (.rows shGrant) (stepO (.rows shMember) (stepO (.rows [.text]) (stepO (.rows shTable) (stepO (.rows shSchema) (stepO (.num) (stepO (.num) (o))))))))) = o1 := ⟨_, rfl⟩
      rw [ho1] at hA HRSw8
      replace HR := Lib.hid hA
      replace HB := Lib.hid (HB.out.trans hK.below)
      replace HK := Lib.hid (HK.out.trans hK.keeps)
      replace HX := Lib.hid (HX.out.keeps hK.keeps (by decide))
      replace HRes := Lib.hid (HRes.out.keeps hK.keeps (by decide))
      clear hN hA hK ho1
      go_wp2
      go_loopw [7] (fun i wr => ∃ (j : Nat) (A : Option Addr) (c : Nat) (xs : List Value), j ≤ Nw8 ∧ i = .int .i64 j ∧ Hid (CutAt wr base g (iterO shLease j ow8)) ∧ Hid (wr.ownsRow w.heap.size 101 4 (.slice A j c) j xs) ∧ Hid (Blk wr (w.heap.size + 1) 38 [.int .i64 nw0, .int .i64 nw1, .slice Aw2 mw2 kw2, .slice Aw3 mw3 kw3, .slice Aw4 mw4 kw4, .slice Aw5 mw5 kw5, .slice Aw6 mw6 kw6, .slice Aw7 mw7 kw7, .slice A j c, .int .i64 0]) ∧ Hid (Blk wr w.heap.size 38 [.int .i64 0, .int .i64 0, .slice none 0 0, .slice none 0 0, .slice none 0 0, .slice none 0 0, .slice none 0 0, .slice none 0 0, .slice none 0 0, .int .i64 0]) ∧ Hid (Below base w wr) ∧ Hid (Keeps [108, 106] w wr)) (fun i _ => Nw8 - (intOf i).toNat)
      case atStart => exact ⟨0, none, 0, [], Nat.zero_le _, rfl, Lib.hid (by rw [iterO_zero]; exact HR.out), Lib.hid (World.ownsRow_nil _ w.heap.size 101 4), HX, HRes, HB, HK⟩
      case round =>
        clear HR HX HRes HB HK
        obtain ⟨mw8, Aw8, kw8, xs, hj, rfl, HR, HO, HX, HRes, HB, HK⟩ := hrel
        obtain ⟨nb, hnb⟩ : ∃ nb, (iterO shLease mw8 ow8).isNone = nb := ⟨_, rfl⟩
        have hcb : wr.cell? ⟨g, 1, none⟩ = some (.bool nb) := by
          obtain ⟨r, A', n, c', i, lb, hB, _⟩ := HR.out
          rw [← hnb]
          exact hB.cell 1
        have HNB := Lib.hid hnb
        clear hnb
        have hwr := HB.out.size
        have hwz := HK.out.size
        by_cases hlt2 : mw8 < Nw8
        rotate_left
        · have hjN : mw8 = Nw8 := by omega
          replace HR : Hid (CutAt wr base g (stepO (.rows shLease) (stepO (.rows shDone) (stepO (.rows shGrant) (stepO (.rows shMember) (stepO (.rows [.text]) (stepO (.rows shTable) (stepO (.rows shSchema) (stepO (.num) (stepO (.num) (o))))))))))) := Lib.hid (by rw [HRSw8.out, ← hjN]; exact HR.out)
          clear hjN
          go_wp2_with fail
          refine (C_num base g (stepO (.rows shLease) (stepO (.rows shDone) (stepO (.rows shGrant) (stepO (.rows shMember) (stepO (.rows [.text]) (stepO (.rows shTable) (stepO (.rows shSchema) (stepO (.num) (stepO (.num) (o)))))))))) _ HR.out).mono ?_
          rintro e ws4_0 ⟨⟨v, rfl, _⟩, hA, hK⟩
          obtain ⟨nw9, rfl⟩ : ∃ x, x = v := ⟨v, rfl⟩
          replace HR := Lib.hid hA
          replace HB := Lib.hid (HB.out.trans hK.below)
          replace HK := Lib.hid (HK.out.trans hK.keeps)
          replace HX := Lib.hid (HX.out.keeps hK.keeps (by decide))
          replace HRes := Lib.hid (HRes.out.keeps hK.keeps (by decide))
          have hszws4_0 := HK.out.size
          clear hA hK
          have hcxws4_0_0 : ws4_0.cell? ⟨w.heap.size + 1, 9, none⟩ = some (.int .i64 0) := HX.out.cell 9
          have hfzws4_0_0 : ws4_0.frozen? ⟨w.heap.size + 1, 9, none⟩ = false := HX.out.frozen 9
          have HY : Hid (Blk (ws4_0.setCell ⟨w.heap.size + 1, 9, none⟩ (.int .i64 nw9)) (w.heap.size + 1) 38 [.int .i64 nw0, .int .i64 nw1, .slice Aw2 mw2 kw2, .slice Aw3 mw3 kw3, .slice Aw4 mw4 kw4, .slice Aw5 mw5 kw5, .slice Aw6 mw6 kw6, .slice Aw7 mw7 kw7, .slice Aw8 mw8 kw8, .int .i64 nw9]) := Lib.hid (HX.out.set_ 9 (.int .i64 nw9))
          have HKA : Hid (Keeps [38] ws4_0 (ws4_0.setCell ⟨w.heap.size + 1, 9, none⟩ (.int .i64 nw9))) := Lib.hid ((Keeps.refl _ _).trans (Keeps.set_ HX.out.typ (by simp) (.int .i64 nw9)))
          have HBA : Hid (Below w.heap.size ws4_0 (ws4_0.setCell ⟨w.heap.size + 1, 9, none⟩ (.int .i64 nw9))) := Lib.hid ((Below.refl w.heap.size ws4_0).setCell hgx _)
          replace HRes := Lib.hid (HRes.out.far (p := ⟨w.heap.size + 1, 9, none⟩) (by dsimp only; omega) (.int .i64 nw9))
          replace HX := HY
          replace HR := Lib.hid (HR.out.keeps HKA.out (HBA.out.mono hbs) (by decide) (by decide))
          replace HB := Lib.hid (HB.out.trans (HBA.out.mono hbs))
          replace HK := Lib.hid (HK.out.below_new HBA.out)
          clear HY HKA HBA
          have HRG := Lib.hid HX.out.range0
          have HTE : Hid (World.there _ w.heap.size 0 (List.toArray ([.int .i64 nw0, .int .i64 nw1, .slice Aw2 mw2 kw2, .slice Aw3 mw3 kw3, .slice Aw4 mw4 kw4, .slice Aw5 mw5 kw5, .slice Aw6 mw6 kw6, .slice Aw7 mw7 kw7, .slice Aw8 mw8 kw8, .int .i64 nw9] : List Value)).size) := Lib.hid (HRes.out.there 0 10 (by simp))
          have hiV : Hid ((Tryz.prog.info? 38).map (·.size) = some (List.length ([.int .i64 nw0, .int .i64 nw1, .slice Aw2 mw2 kw2, .slice Aw3 mw3 kw3, .slice Aw4 mw4 kw4, .slice Aw5 mw5 kw5, .slice Aw6 mw6 kw6, .slice Aw7 mw7 kw7, .slice Aw8 mw8 kw8, .int .i64 nw9] : List Value))) := Lib.hid hi.out
          have hsV : Hid ((Tryz.prog.info? 38).map (·.size) = some (List.toArray ([.int .i64 nw0, .int .i64 nw1, .slice Aw2 mw2 kw2, .slice Aw3 mw3 kw3, .slice Aw4 mw4 kw4, .slice Aw5 mw5 kw5, .slice Aw6 mw6 kw6, .slice Aw7 mw7 kw7, .slice Aw8 mw8 kw8, .int .i64 nw9] : List Value)).size) := Lib.hid hi.out
          have h1V : Hid ((List.toArray ([.int .i64 nw0, .int .i64 nw1, .slice Aw2 mw2 kw2, .slice Aw3 mw3 kw3, .slice Aw4 mw4 kw4, .slice Aw5 mw5 kw5, .slice Aw6 mw6 kw6, .slice Aw7 mw7 kw7, .slice Aw8 mw8 kw8, .int .i64 nw9] : List Value)).all (·.oneCell') = true) := Lib.hid (all_oneCell_toArray (by simp [Value.oneCell']))
          go_wp2_with (first | (with_reducible refine wpList_load_mid rfl 38 _ rfl (w.heap.size + 1) 0 rfl [.int .i64 nw0, .int .i64 nw1, .slice Aw2 mw2 kw2, .slice Aw3 mw3 kw3, .slice Aw4 mw4 kw4, .slice Aw5 mw5 kw5, .slice Aw6 mw6 kw6, .slice Aw7 mw7 kw7, .slice Aw8 mw8 kw8, .int .i64 nw9] _ HRG.out Tryz.underlying38 rfl hiV.out ?_) | (with_reducible refine wpList_store_mid rfl 38 _ _ rfl w.heap.size 0 (List.toArray ([.int .i64 nw0, .int .i64 nw1, .slice Aw2 mw2 kw2, .slice Aw3 mw3 kw3, .slice Aw4 mw4 kw4, .slice Aw5 mw5 kw5, .slice Aw6 mw6 kw6, .slice Aw7 mw7 kw7, .slice Aw8 mw8 kw8, .int .i64 nw9] : List Value)) rfl rfl HTE.out hsV.out h1V.out ?_))
          have HXE := Lib.hid (HRes.out.setCells0 [.int .i64 nw0, .int .i64 nw1, .slice Aw2 mw2 kw2, .slice Aw3 mw3 kw3, .slice Aw4 mw4 kw4, .slice Aw5 mw5 kw5, .slice Aw6 mw6 kw6, .slice Aw7 mw7 kw7, .slice Aw8 mw8 kw8, .int .i64 nw9] rfl)
          have HKE := Lib.hid (Keeps.setCells (ts := [38]) (t := 38) (by simp) HRes.out.typ 0 [.int .i64 nw0, .int .i64 nw1, .slice Aw2 mw2 kw2, .slice Aw3 mw3 kw3, .slice Aw4 mw4 kw4, .slice Aw5 mw5 kw5, .slice Aw6 mw6 kw6, .slice Aw7 mw7 kw7, .slice Aw8 mw8 kw8, .int .i64 nw9])
          refine bodyPost_ret (results_cell rfl _ _ w.heap.size rfl [.int .i64 nw0, .int .i64 nw1, .slice Aw2 mw2 kw2, .slice Aw3 mw3 kw3, .slice Aw4 mw4 kw4, .slice Aw5 mw5 kw5, .slice Aw6 mw6 kw6, .slice Aw7 mw7 kw7, .slice Aw8 mw8 kw8, .int .i64 nw9] _ HXE.out.range0 Tryz.underlying38 rfl hiV.out) rfl ?_
          refine ⟨⟨[.int .i64 nw0, .int .i64 nw1, .slice Aw2 mw2 kw2, .slice Aw3 mw3 kw3, .slice Aw4 mw4 kw4, .slice Aw5 mw5 kw5, .slice Aw6 mw6 kw6, .slice Aw7 mw7 kw7, .slice Aw8 mw8 kw8, .int .i64 nw9], rfl, (Kinds.mk (Kind1.num nw0) (Kinds.mk (Kind1.num nw1) (Kinds.mk (Kind1.rows _ Aw2 mw2 kw2) (Kinds.mk (Kind1.rows _ Aw3 mw3 kw3) (Kinds.mk (Kind1.rows _ Aw4 mw4 kw4) (Kinds.mk (Kind1.rows _ Aw5 mw5 kw5) (Kinds.mk (Kind1.rows _ Aw6 mw6 kw6) (Kinds.mk (Kind1.rows _ Aw7 mw7 kw7) (Kinds.mk (Kind1.rows _ Aw8 mw8 kw8) (Kinds.mk (Kind1.num nw9) Kinds.mk0))))))))))⟩, ?_, HB.out.trans (below_setCells_ hbs _ _), HK.out.below_new (below_setCells_ (Nat.le_refl _) _ _)⟩
          have hfin := HR.out.keeps HKE.out (below_setCells_ hbs _ _) (by decide) (by decide)
          simpa only [shMachine, stepS_cons, stepS_nil] using hfin

        cases nb with
        | true =>
          replace HR : Hid (CutAt wr base g (stepO (.rows shLease) (stepO (.rows shDone) (stepO (.rows shGrant) (stepO (.rows shMember) (stepO (.rows [.text]) (stepO (.rows shTable) (stepO (.rows shSchema) (stepO (.num) (stepO (.num) (o))))))))))) := Lib.hid (by
            have h1 : iterO shLease mw8 ow8 = none := by have := HNB.out; simpa using this
            rw [HRSw8.out, iterO_none h1 (by omega), ← h1]
            exact HR.out)
          go_wp2_with fail
          refine (C_num base g (stepO (.rows shLease) (stepO (.rows shDone) (stepO (.rows shGrant) (stepO (.rows shMember) (stepO (.rows [.text]) (stepO (.rows shTable) (stepO (.rows shSchema) (stepO (.num) (stepO (.num) (o)))))))))) _ HR.out).mono ?_
          rintro e ws4_0 ⟨⟨v, rfl, _⟩, hA, hK⟩
          obtain ⟨nw9, rfl⟩ : ∃ x, x = v := ⟨v, rfl⟩
          replace HR := Lib.hid hA
          replace HB := Lib.hid (HB.out.trans hK.below)
          replace HK := Lib.hid (HK.out.trans hK.keeps)
          replace HX := Lib.hid (HX.out.keeps hK.keeps (by decide))
          replace HRes := Lib.hid (HRes.out.keeps hK.keeps (by decide))
          have hszws4_0 := HK.out.size
          clear hA hK
          have hcxws4_0_0 : ws4_0.cell? ⟨w.heap.size + 1, 9, none⟩ = some (.int .i64 0) := HX.out.cell 9
          have hfzws4_0_0 : ws4_0.frozen? ⟨w.heap.size + 1, 9, none⟩ = false := HX.out.frozen 9
          have HY : Hid (Blk (ws4_0.setCell ⟨w.heap.size + 1, 9, none⟩ (.int .i64 nw9)) (w.heap.size + 1) 38 [.int .i64 nw0, .int .i64 nw1, .slice Aw2 mw2 kw2, .slice Aw3 mw3 kw3, .slice Aw4 mw4 kw4, .slice Aw5 mw5 kw5, .slice Aw6 mw6 kw6, .slice Aw7 mw7 kw7, .slice Aw8 mw8 kw8, .int .i64 nw9]) := Lib.hid (HX.out.set_ 9 (.int .i64 nw9))
          have HKA : Hid (Keeps [38] ws4_0 (ws4_0.setCell ⟨w.heap.size + 1, 9, none⟩ (.int .i64 nw9))) := Lib.hid ((Keeps.refl _ _).trans (Keeps.set_ HX.out.typ (by simp) (.int .i64 nw9)))
          have HBA : Hid (Below w.heap.size ws4_0 (ws4_0.setCell ⟨w.heap.size + 1, 9, none⟩ (.int .i64 nw9))) := Lib.hid ((Below.refl w.heap.size ws4_0).setCell hgx _)
          replace HRes := Lib.hid (HRes.out.far (p := ⟨w.heap.size + 1, 9, none⟩) (by dsimp only; omega) (.int .i64 nw9))
          replace HX := HY
          replace HR := Lib.hid (HR.out.keeps HKA.out (HBA.out.mono hbs) (by decide) (by decide))
          replace HB := Lib.hid (HB.out.trans (HBA.out.mono hbs))
          replace HK := Lib.hid (HK.out.below_new HBA.out)
          clear HY HKA HBA
          have HRG := Lib.hid HX.out.range0
          have HTE : Hid (World.there _ w.heap.size 0 (List.toArray ([.int .i64 nw0, .int .i64 nw1, .slice Aw2 mw2 kw2, .slice Aw3 mw3 kw3, .slice Aw4 mw4 kw4, .slice Aw5 mw5 kw5, .slice Aw6 mw6 kw6, .slice Aw7 mw7 kw7, .slice Aw8 mw8 kw8, .int .i64 nw9] : List Value)).size) := Lib.hid (HRes.out.there 0 10 (by simp))
          have hiV : Hid ((Tryz.prog.info? 38).map (·.size) = some (List.length ([.int .i64 nw0, .int .i64 nw1, .slice Aw2 mw2 kw2, .slice Aw3 mw3 kw3, .slice Aw4 mw4 kw4, .slice Aw5 mw5 kw5, .slice Aw6 mw6 kw6, .slice Aw7 mw7 kw7, .slice Aw8 mw8 kw8, .int .i64 nw9] : List Value))) := Lib.hid hi.out
          have hsV : Hid ((Tryz.prog.info? 38).map (·.size) = some (List.toArray ([.int .i64 nw0, .int .i64 nw1, .slice Aw2 mw2 kw2, .slice Aw3 mw3 kw3, .slice Aw4 mw4 kw4, .slice Aw5 mw5 kw5, .slice Aw6 mw6 kw6, .slice Aw7 mw7 kw7, .slice Aw8 mw8 kw8, .int .i64 nw9] : List Value)).size) := Lib.hid hi.out
          have h1V : Hid ((List.toArray ([.int .i64 nw0, .int .i64 nw1, .slice Aw2 mw2 kw2, .slice Aw3 mw3 kw3, .slice Aw4 mw4 kw4, .slice Aw5 mw5 kw5, .slice Aw6 mw6 kw6, .slice Aw7 mw7 kw7, .slice Aw8 mw8 kw8, .int .i64 nw9] : List Value)).all (·.oneCell') = true) := Lib.hid (all_oneCell_toArray (by simp [Value.oneCell']))
          go_wp2_with (first | (with_reducible refine wpList_load_mid rfl 38 _ rfl (w.heap.size + 1) 0 rfl [.int .i64 nw0, .int .i64 nw1, .slice Aw2 mw2 kw2, .slice Aw3 mw3 kw3, .slice Aw4 mw4 kw4, .slice Aw5 mw5 kw5, .slice Aw6 mw6 kw6, .slice Aw7 mw7 kw7, .slice Aw8 mw8 kw8, .int .i64 nw9] _ HRG.out Tryz.underlying38 rfl hiV.out ?_) | (with_reducible refine wpList_store_mid rfl 38 _ _ rfl w.heap.size 0 (List.toArray ([.int .i64 nw0, .int .i64 nw1, .slice Aw2 mw2 kw2, .slice Aw3 mw3 kw3, .slice Aw4 mw4 kw4, .slice Aw5 mw5 kw5, .slice Aw6 mw6 kw6, .slice Aw7 mw7 kw7, .slice Aw8 mw8 kw8, .int .i64 nw9] : List Value)) rfl rfl HTE.out hsV.out h1V.out ?_))
          have HXE := Lib.hid (HRes.out.setCells0 [.int .i64 nw0, .int .i64 nw1, .slice Aw2 mw2 kw2, .slice Aw3 mw3 kw3, .slice Aw4 mw4 kw4, .slice Aw5 mw5 kw5, .slice Aw6 mw6 kw6, .slice Aw7 mw7 kw7, .slice Aw8 mw8 kw8, .int .i64 nw9] rfl)
          have HKE := Lib.hid (Keeps.setCells (ts := [38]) (t := 38) (by simp) HRes.out.typ 0 [.int .i64 nw0, .int .i64 nw1, .slice Aw2 mw2 kw2, .slice Aw3 mw3 kw3, .slice Aw4 mw4 kw4, .slice Aw5 mw5 kw5, .slice Aw6 mw6 kw6, .slice Aw7 mw7 kw7, .slice Aw8 mw8 kw8, .int .i64 nw9])
          refine bodyPost_ret (results_cell rfl _ _ w.heap.size rfl [.int .i64 nw0, .int .i64 nw1, .slice Aw2 mw2 kw2, .slice Aw3 mw3 kw3, .slice Aw4 mw4 kw4, .slice Aw5 mw5 kw5, .slice Aw6 mw6 kw6, .slice Aw7 mw7 kw7, .slice Aw8 mw8 kw8, .int .i64 nw9] _ HXE.out.range0 Tryz.underlying38 rfl hiV.out) rfl ?_
          refine ⟨⟨[.int .i64 nw0, .int .i64 nw1, .slice Aw2 mw2 kw2, .slice Aw3 mw3 kw3, .slice Aw4 mw4 kw4, .slice Aw5 mw5 kw5, .slice Aw6 mw6 kw6, .slice Aw7 mw7 kw7, .slice Aw8 mw8 kw8, .int .i64 nw9], rfl, (Kinds.mk (Kind1.num nw0) (Kinds.mk (Kind1.num nw1) (Kinds.mk (Kind1.rows _ Aw2 mw2 kw2) (Kinds.mk (Kind1.rows _ Aw3 mw3 kw3) (Kinds.mk (Kind1.rows _ Aw4 mw4 kw4) (Kinds.mk (Kind1.rows _ Aw5 mw5 kw5) (Kinds.mk (Kind1.rows _ Aw6 mw6 kw6) (Kinds.mk (Kind1.rows _ Aw7 mw7 kw7) (Kinds.mk (Kind1.rows _ Aw8 mw8 kw8) (Kinds.mk (Kind1.num nw9) Kinds.mk0))))))))))⟩, ?_, HB.out.trans (below_setCells_ hbs _ _), HK.out.below_new (below_setCells_ (Nat.le_refl _) _ _)⟩
          have hfin := HR.out.keeps HKE.out (below_setCells_ hbs _ _) (by decide) (by decide)
          simpa only [shMachine, stepS_cons, stepS_nil] using hfin

        | false =>
          have hbs0 := hbs
          have hobx : ∀ k, (Value.slice Aw8 mw8 kw8).ownBlock = some k → k < wr.heap.size := fun k hk => (HO.out.lt k hk).2
          have HXo := HX
          have HBo := HB
          have HKo := HK
          have hbs1 : base ≤ wr.heap.size := by omega
          replace HX : Hid (Blk (wr.alloc (.cells #[.int .i64 0, .int .i64 0, .int .i64 0, .int .i64 0] 101)) wr.heap.size 101 [.int .i64 0, .int .i64 0, .int .i64 0, .int .i64 0]) := Lib.hid (Blk.new wr 101 [.int .i64 0, .int .i64 0, .int .i64 0, .int .i64 0])
          have HTZ : Hid (World.there (wr.alloc (.cells #[.int .i64 0, .int .i64 0, .int .i64 0, .int .i64 0] 101)) (wr.heap.size) 0 (List.toArray ([.int .i64 0, .int .i64 0, .int .i64 0, .int .i64 0] : List Value)).size) := Lib.hid (HX.out.there 0 4 (by simp))
          have hsZ : Hid ((Tryz.prog.info? 101).map (·.size) = some (List.toArray ([.int .i64 0, .int .i64 0, .int .i64 0, .int .i64 0] : List Value)).size) := Lib.hid (by kernel_rfl)
          have h1Z : Hid ((List.toArray ([.int .i64 0, .int .i64 0, .int .i64 0, .int .i64 0] : List Value)).all (·.oneCell') = true) := Lib.hid (all_oneCell_toArray (by simp [Value.oneCell']))
          have hbw3 : Below wr.heap.size wr ((wr.alloc (.cells #[.int .i64 0, .int .i64 0, .int .i64 0, .int .i64 0] 101)).setCells (wr.heap.size) 0 [.int .i64 0, .int .i64 0, .int .i64 0, .int .i64 0]) := ((Below.refl _ _).alloc (Nat.le_refl _) _).trans (below_setCells_ (Nat.le_refl _) 0 [.int .i64 0, .int .i64 0, .int .i64 0, .int .i64 0])
          replace HR := Lib.hid (HR.out.below_ hbw3)
          replace HB : Hid (Below base wr ((wr.alloc (.cells #[.int .i64 0, .int .i64 0, .int .i64 0, .int .i64 0] 101)).setCells (wr.heap.size) 0 [.int .i64 0, .int .i64 0, .int .i64 0, .int .i64 0])) := Lib.hid (hbw3.mono hbs1)
          replace HK : Hid (Keeps [108, 106] wr ((wr.alloc (.cells #[.int .i64 0, .int .i64 0, .int .i64 0, .int .i64 0] 101)).setCells (wr.heap.size) 0 [.int .i64 0, .int .i64 0, .int .i64 0, .int .i64 0])) := Lib.hid (Keeps.of_below hbw3 (Nat.le_refl _))
          replace HX : Hid (Blk ((wr.alloc (.cells #[.int .i64 0, .int .i64 0, .int .i64 0, .int .i64 0] 101)).setCells (wr.heap.size) 0 [.int .i64 0, .int .i64 0, .int .i64 0, .int .i64 0]) wr.heap.size 101 [.int .i64 0, .int .i64 0, .int .i64 0, .int .i64 0]) := Lib.hid (HX.out.setCells0 [.int .i64 0, .int .i64 0, .int .i64 0, .int .i64 0] rfl)
          replace HXo := Lib.hid (HXo.out.below hbw3 HXo.out.lt)
          replace HRes := Lib.hid (HRes.out.below hbw3 HRes.out.lt)
          replace HO := Lib.hid (HO.out.below_ hbw3)
          clear hbw3
          have hob := hobx
          have hgx0 := hgx
          have hgx : wr.heap.size ≤ wr.heap.size := Nat.le_refl _
          have hbs := hbs1
          go_wp2_with (with_reducible refine wpList_store_mid rfl 101 _ _ rfl (wr.heap.size) 0 (List.toArray ([.int .i64 0, .int .i64 0, .int .i64 0, .int .i64 0] : List Value)) rfl rfl HTZ.out hsZ.out h1Z.out ?_)
          refine (C_num base g (iterO shLease mw8 ow8) _ HR.out).mono ?_
          rintro e u8_0 ⟨⟨v, rfl, _⟩, hA, hK⟩
          obtain ⟨nu0, rfl⟩ : ∃ x, x = v := ⟨v, rfl⟩
          replace HR := Lib.hid hA
          replace HB := Lib.hid (HB.out.trans hK.below)
          replace HK := Lib.hid (HK.out.trans hK.keeps)
          replace HX := Lib.hid (HX.out.keeps hK.keeps (by decide))
          replace HO := Lib.hid (HO.out.keeps hK.keeps (by decide))
          replace HXo := Lib.hid (HXo.out.keeps hK.keeps (by decide))
          replace HRes := Lib.hid (HRes.out.keeps hK.keeps (by decide))
          have hszu8_0 := HK.out.size
          clear hA hK
          have hcxu8_0_0 : u8_0.cell? ⟨wr.heap.size, 0, none⟩ = some (.int .i64 0) := HX.out.cell 0
          have hfzu8_0_0 : u8_0.frozen? ⟨wr.heap.size, 0, none⟩ = false := HX.out.frozen 0
          have HY : Hid (Blk (u8_0.setCell ⟨wr.heap.size, 0, none⟩ (.int .i64 nu0)) (wr.heap.size) 101 [.int .i64 nu0, .int .i64 0, .int .i64 0, .int .i64 0]) := Lib.hid (HX.out.set_ 0 (.int .i64 nu0))
          have HKA : Hid (Keeps [101] u8_0 (u8_0.setCell ⟨wr.heap.size, 0, none⟩ (.int .i64 nu0))) := Lib.hid ((Keeps.refl _ _).trans (Keeps.set_ HX.out.typ (by simp) (.int .i64 nu0)))
          have HBA : Hid (Below wr.heap.size u8_0 (u8_0.setCell ⟨wr.heap.size, 0, none⟩ (.int .i64 nu0))) := Lib.hid ((Below.refl wr.heap.size u8_0).setCell hgx _)
          replace HO := Lib.hid (own_set HO.out hob 0 (.int .i64 nu0))
          replace HX := HY
          replace HXo := Lib.hid (HXo.out.keeps HKA.out (by decide))
          replace HRes := Lib.hid (HRes.out.keeps HKA.out (by decide))
          replace HR := Lib.hid (HR.out.keeps HKA.out (HBA.out.mono hbs) (by decide) (by decide))
          replace HB := Lib.hid (HB.out.trans (HBA.out.mono hbs))
          replace HK := Lib.hid (HK.out.below_new HBA.out)
          clear HY HKA HBA
          go_wp2_with fail
          refine (C_num base g (stepO .num (iterO shLease mw8 ow8)) _ HR.out).mono ?_
          rintro e u8_1 ⟨⟨v, rfl, _⟩, hA, hK⟩
          obtain ⟨nu1, rfl⟩ : ∃ x, x = v := ⟨v, rfl⟩
          replace HR := Lib.hid hA
          replace HB := Lib.hid (HB.out.trans hK.below)
          replace HK := Lib.hid (HK.out.trans hK.keeps)
          replace HX := Lib.hid (HX.out.keeps hK.keeps (by decide))
          replace HO := Lib.hid (HO.out.keeps hK.keeps (by decide))
          replace HXo := Lib.hid (HXo.out.keeps hK.keeps (by decide))
          replace HRes := Lib.hid (HRes.out.keeps hK.keeps (by decide))
          have hszu8_1 := HK.out.size
          clear hA hK
          have hcxu8_1_0 : u8_1.cell? ⟨wr.heap.size, 1, none⟩ = some (.int .i64 0) := HX.out.cell 1
          have hfzu8_1_0 : u8_1.frozen? ⟨wr.heap.size, 1, none⟩ = false := HX.out.frozen 1
          have HY : Hid (Blk (u8_1.setCell ⟨wr.heap.size, 1, none⟩ (.int .i64 nu1)) (wr.heap.size) 101 [.int .i64 nu0, .int .i64 nu1, .int .i64 0, .int .i64 0]) := Lib.hid (HX.out.set_ 1 (.int .i64 nu1))
          have HKA : Hid (Keeps [101] u8_1 (u8_1.setCell ⟨wr.heap.size, 1, none⟩ (.int .i64 nu1))) := Lib.hid ((Keeps.refl _ _).trans (Keeps.set_ HX.out.typ (by simp) (.int .i64 nu1)))
          have HBA : Hid (Below wr.heap.size u8_1 (u8_1.setCell ⟨wr.heap.size, 1, none⟩ (.int .i64 nu1))) := Lib.hid ((Below.refl wr.heap.size u8_1).setCell hgx _)
          replace HO := Lib.hid (own_set HO.out hob 1 (.int .i64 nu1))
          replace HX := HY
          replace HXo := Lib.hid (HXo.out.keeps HKA.out (by decide))
          replace HRes := Lib.hid (HRes.out.keeps HKA.out (by decide))
          replace HR := Lib.hid (HR.out.keeps HKA.out (HBA.out.mono hbs) (by decide) (by decide))
          replace HB := Lib.hid (HB.out.trans (HBA.out.mono hbs))
          replace HK := Lib.hid (HK.out.below_new HBA.out)
          clear HY HKA HBA
          go_wp2_with fail
          refine (C_num base g (stepO .num (stepO .num (iterO shLease mw8 ow8))) _ HR.out).mono ?_
          rintro e u8_2 ⟨⟨v, rfl, _⟩, hA, hK⟩
          obtain ⟨nu2, rfl⟩ : ∃ x, x = v := ⟨v, rfl⟩
          replace HR := Lib.hid hA
          replace HB := Lib.hid (HB.out.trans hK.below)
          replace HK := Lib.hid (HK.out.trans hK.keeps)
          replace HX := Lib.hid (HX.out.keeps hK.keeps (by decide))
          replace HO := Lib.hid (HO.out.keeps hK.keeps (by decide))
          replace HXo := Lib.hid (HXo.out.keeps hK.keeps (by decide))
          replace HRes := Lib.hid (HRes.out.keeps hK.keeps (by decide))
          have hszu8_2 := HK.out.size
          clear hA hK
          have hcxu8_2_0 : u8_2.cell? ⟨wr.heap.size, 2, none⟩ = some (.int .i64 0) := HX.out.cell 2
          have hfzu8_2_0 : u8_2.frozen? ⟨wr.heap.size, 2, none⟩ = false := HX.out.frozen 2
          have HY : Hid (Blk (u8_2.setCell ⟨wr.heap.size, 2, none⟩ (.int .i64 nu2)) (wr.heap.size) 101 [.int .i64 nu0, .int .i64 nu1, .int .i64 nu2, .int .i64 0]) := Lib.hid (HX.out.set_ 2 (.int .i64 nu2))
          have HKA : Hid (Keeps [101] u8_2 (u8_2.setCell ⟨wr.heap.size, 2, none⟩ (.int .i64 nu2))) := Lib.hid ((Keeps.refl _ _).trans (Keeps.set_ HX.out.typ (by simp) (.int .i64 nu2)))
          have HBA : Hid (Below wr.heap.size u8_2 (u8_2.setCell ⟨wr.heap.size, 2, none⟩ (.int .i64 nu2))) := Lib.hid ((Below.refl wr.heap.size u8_2).setCell hgx _)
          replace HO := Lib.hid (own_set HO.out hob 2 (.int .i64 nu2))
          replace HX := HY
          replace HXo := Lib.hid (HXo.out.keeps HKA.out (by decide))
          replace HRes := Lib.hid (HRes.out.keeps HKA.out (by decide))
          replace HR := Lib.hid (HR.out.keeps HKA.out (HBA.out.mono hbs) (by decide) (by decide))
          replace HB := Lib.hid (HB.out.trans (HBA.out.mono hbs))
          replace HK := Lib.hid (HK.out.below_new HBA.out)
          clear HY HKA HBA
          go_wp2_with fail
          refine (C_num base g (stepO .num (stepO .num (stepO .num (iterO shLease mw8 ow8)))) _ HR.out).mono ?_
          rintro e u8_3 ⟨⟨v, rfl, _⟩, hA, hK⟩
          obtain ⟨nu3, rfl⟩ : ∃ x, x = v := ⟨v, rfl⟩
          replace HR := Lib.hid hA
          replace HB := Lib.hid (HB.out.trans hK.below)
          replace HK := Lib.hid (HK.out.trans hK.keeps)
          replace HX := Lib.hid (HX.out.keeps hK.keeps (by decide))
          replace HO := Lib.hid (HO.out.keeps hK.keeps (by decide))
          replace HXo := Lib.hid (HXo.out.keeps hK.keeps (by decide))
          replace HRes := Lib.hid (HRes.out.keeps hK.keeps (by decide))
          have hszu8_3 := HK.out.size
          clear hA hK
          have hcxu8_3_0 : u8_3.cell? ⟨wr.heap.size, 3, none⟩ = some (.int .i64 0) := HX.out.cell 3
          have hfzu8_3_0 : u8_3.frozen? ⟨wr.heap.size, 3, none⟩ = false := HX.out.frozen 3
          have HY : Hid (Blk (u8_3.setCell ⟨wr.heap.size, 3, none⟩ (.int .i64 nu3)) (wr.heap.size) 101 [.int .i64 nu0, .int .i64 nu1, .int .i64 nu2, .int .i64 nu3]) := Lib.hid (HX.out.set_ 3 (.int .i64 nu3))
          have HKA : Hid (Keeps [101] u8_3 (u8_3.setCell ⟨wr.heap.size, 3, none⟩ (.int .i64 nu3))) := Lib.hid ((Keeps.refl _ _).trans (Keeps.set_ HX.out.typ (by simp) (.int .i64 nu3)))
          have HBA : Hid (Below wr.heap.size u8_3 (u8_3.setCell ⟨wr.heap.size, 3, none⟩ (.int .i64 nu3))) := Lib.hid ((Below.refl wr.heap.size u8_3).setCell hgx _)
          replace HO := Lib.hid (own_set HO.out hob 3 (.int .i64 nu3))
          replace HX := HY
          replace HXo := Lib.hid (HXo.out.keeps HKA.out (by decide))
          replace HRes := Lib.hid (HRes.out.keeps HKA.out (by decide))
          replace HR := Lib.hid (HR.out.keeps HKA.out (HBA.out.mono hbs) (by decide) (by decide))
          replace HB := Lib.hid (HB.out.trans (HBA.out.mono hbs))
          replace HK := Lib.hid (HK.out.below_new HBA.out)
          clear HY HKA HBA
          have hst : stepO .num (stepO .num (stepO .num (stepO .num (iterO shLease mw8 ow8)))) = iterO shLease (mw8 + 1) ow8 := by rw [iterO_succ]; show _ = stepS [.num, .num, .num, .num] _; simp only [stepS_cons, stepS_nil]
          rw [hst] at HR
          have HA2 := HR
          have HB2 := Lib.hid (HBo.out.trans HB.out)
          have HK2 := Lib.hid (HKo.out.trans HK.out)
          have HX2 := HXo
          have HRes2 := HRes
          have HO2 := HO
          have HXe := HX
          have hiZ : Hid ((Tryz.prog.info? 101).map (·.size) = some (List.length ([.int .i64 nu0, .int .i64 nu1, .int .i64 nu2, .int .i64 nu3] : List Value))) := Lib.hid (by kernel_rfl)
          have hsz3 := HK.out.size
          clear HBo HB HKo HK HO HR hst hcb HX HXo HRes HTZ
          have hgx := hgx0
          obtain ⟨i0, hi0⟩ : ∃ i, Tryz.prog.info? 101 = some i := by
            cases hq : Tryz.prog.info? 101 with
            | none => have h0 : (Tryz.prog.info? 101).isSome = true := by kernel_rfl
                      rw [hq] at h0; cases h0
            | some i => exact ⟨i, rfl⟩
          have hinf : (Tryz.prog.info? 101).map (fun i => (i.zero, i.size, decide (i.bytes ≤ 1000))) = some (some (.agg #[.int .i64 0, .int .i64 0, .int .i64 0, .int .i64 0]), 4, true) := by kernel_rfl
          rw [hi0] at hinf
          simp only [Option.map_some, Option.some.injEq, Prod.mk.injEq, decide_eq_true_eq] at hinf
          obtain ⟨hz0, hz1, hz2⟩ := hinf
          have hby := Nat.mul_le_mul_left 4097 hz2
          have HI := Lib.hid (And.intro hi0 (And.intro hz0 hz1))
          clear hi0 hz0 hz1
          have hszn : (u8_3.setCell ⟨wr.heap.size, 3, none⟩ (.int .i64 nu3)).heap.size = u8_3.heap.size := by simp
          have HNB2 : Hid (Blk ((u8_3.setCell ⟨wr.heap.size, 3, none⟩ (.int .i64 nu3)).alloc (.cells (List.toArray ([.int .i64 nu0, .int .i64 nu1, .int .i64 nu2, .int .i64 nu3] : List Value)) 101)) (u8_3.heap.size) 101 [.int .i64 nu0, .int .i64 nu1, .int .i64 nu2, .int .i64 nu3]) := Lib.hid (by have := Blk.new (u8_3.setCell ⟨wr.heap.size, 3, none⟩ (.int .i64 nu3)) 101 [.int .i64 nu0, .int .i64 nu1, .int .i64 nu2, .int .i64 nu3]; rwa [hszn] at this)
          have HRG := Lib.hid HXe.out.range0
          have hcxf : (u8_3.setCell ⟨wr.heap.size, 3, none⟩ (.int .i64 nu3)).cell? ⟨w.heap.size + 1, 8, none⟩ = some (.slice Aw8 mw8 kw8) := HX2.out.cell 8
          have hbase2 := HK2.out.size
          go_wp2_with (first | (with_reducible refine wpList_load_mid rfl 101 _ rfl (wr.heap.size) 0 rfl [.int .i64 nu0, .int .i64 nu1, .int .i64 nu2, .int .i64 nu3] _ HRG.out Tryz.underlying101 rfl hiZ.out ?_) | (at_builtin; refine wpList_appN rfl _ _ 36 rfl w.heap.size 101 i0 _ 4 i0.bytes Tryz.underlying36 HI.out.1 HI.out.2.1 HI.out.2.2 rfl rfl (by decide) (.slice Aw8 mw8 kw8) mw8 xs rfl (HO2.out.alloc _) ⟨u8_3.heap.size, 0, none⟩ 1 [.int .i64 nu0, .int .i64 nu1, .int .i64 nu2, .int .i64 nu3] rfl rfl HNB2.out.news (by simp [Value.oneCell']) (by unfold maxLen; omega) (Nat.le_trans (Nat.mul_le_mul_right _ (by omega)) (Nat.le_trans hby (by decide))) (by simp at hbase2 ⊢; omega) ?_; intro A3 c3 w3 HO3 HG3; have HXA := Lib.hid ((HX2.out.alloc _).keeps (Keeps.grown (ts := [101]) (HO2.out.alloc _) HG3.out (by simp) HG3.out.size) (by decide)); have hcxa : w3.cell? ⟨w.heap.size + 1, 8, none⟩ = some (.slice Aw8 mw8 kw8) := HXA.out.cell 8; have hfxa : w3.frozen? ⟨w.heap.size + 1, 8, none⟩ = false := HXA.out.frozen 8))
          have HKA : Hid (Keeps [101] (u8_3.setCell ⟨wr.heap.size, 3, none⟩ (.int .i64 nu3)) w3) := Lib.hid ((Keeps.alloc (u8_3.setCell ⟨wr.heap.size, 3, none⟩ (.int .i64 nu3)) _).trans (Keeps.grown (HO2.out.alloc _) HG3.out (by simp) HG3.out.size))
          have HBA : Hid (Below base (u8_3.setCell ⟨wr.heap.size, 3, none⟩ (.int .i64 nu3)) w3) := Lib.hid (((Below.refl _ _).alloc (by omega) _).grown HG3.out (by simp; omega) (by intro k hk; have := own_block_ge HO2.out k hk; omega))
          have HKF : Hid (Keeps [38] w3 (w3.setCell ⟨w.heap.size + 1, 8, none⟩ (.slice A3 (mw8 + 1) c3))) := Lib.hid (Keeps.set_ HXA.out.typ (by simp) _)
          have HBF : Hid (Below w.heap.size w3 (w3.setCell ⟨w.heap.size + 1, 8, none⟩ (.slice A3 (mw8 + 1) c3))) := Lib.hid ((Below.refl _ _).setCell hgx _)
          have hrel : ∃ (j' : Nat) (A : Option Addr) (c : Nat) (xs : List Value), j' ≤ Nw8 ∧ Value.int .i64 ((mw8 : Int) + 1) = .int .i64 j' ∧ Hid (CutAt (w3.setCell ⟨w.heap.size + 1, 8, none⟩ (.slice A3 (mw8 + 1) c3)) base g (iterO shLease j' ow8)) ∧ Hid ((w3.setCell ⟨w.heap.size + 1, 8, none⟩ (.slice A3 (mw8 + 1) c3)).ownsRow w.heap.size 101 4 (.slice A j' c) j' xs) ∧ Hid (Blk (w3.setCell ⟨w.heap.size + 1, 8, none⟩ (.slice A3 (mw8 + 1) c3)) (w.heap.size + 1) 38 [.int .i64 nw0, .int .i64 nw1, .slice Aw2 mw2 kw2, .slice Aw3 mw3 kw3, .slice Aw4 mw4 kw4, .slice Aw5 mw5 kw5, .slice Aw6 mw6 kw6, .slice Aw7 mw7 kw7, .slice A j' c, .int .i64 0]) ∧ Hid (Blk (w3.setCell ⟨w.heap.size + 1, 8, none⟩ (.slice A3 (mw8 + 1) c3)) w.heap.size 38 [.int .i64 0, .int .i64 0, .slice none 0 0, .slice none 0 0, .slice none 0 0, .slice none 0 0, .slice none 0 0, .slice none 0 0, .slice none 0 0, .int .i64 0]) ∧ Hid (Below base w (w3.setCell ⟨w.heap.size + 1, 8, none⟩ (.slice A3 (mw8 + 1) c3))) ∧ Hid (Keeps [108, 106] w (w3.setCell ⟨w.heap.size + 1, 8, none⟩ (.slice A3 (mw8 + 1) c3))) := by
            refine ⟨mw8 + 1, A3, c3, _, by omega, by simp, Lib.hid ((HA2.out.keeps HKA.out HBA.out (by decide) (by decide)).keeps HKF.out (HBF.out.mono hbs0) (by decide) (by decide)), Lib.hid (HO3.out.kept (grownBy_setCell (World.grownBy.refl _ _) 8 _) (.inr (blk_own_ne HXA.out HO3.out (by decide)).symm)), Lib.hid (HXA.out.set_ 8 _), Lib.hid ((HRes2.out.keeps HKA.out (by decide)).far (by dsimp only; omega) _), Lib.hid ((HB2.out.trans HBA.out).trans (HBF.out.mono hbs0)), Lib.hid (Keeps.below_new ?_ HBF.out)⟩
            exact (HK2.out.then_below ((Below.refl _ _).alloc (Nat.le_refl _) _)).grown_new HG3.out (fun k hk => by have := own_block_ge HO2.out k hk; omega)
          clear HKA HBA HKF HBF HXA HO3 HG3 HO2 HA2 HK2 HB2 HX2 HRes2
          go_wp2
          go_roundw
          case rel => obtain ⟨j', A, c, xs, h1, h2, h3⟩ := hrel; exact ⟨j', A, c, xs, h1, by rw [← h2], h3⟩
          case measure => simp [intOf]; omega
    | false =>
      have hbs0 := hbs
      have hobx : ∀ k, (Value.slice Aw7 mw7 kw7).ownBlock = some k → k < wr.heap.size := fun k hk => (HO.out.lt k hk).2
      have HXo := HX
      have HBo := HB
      have HKo := HK
      have hbs1 : base ≤ wr.heap.size := by omega
      replace HX : Hid (Blk (wr.alloc (.cells #[.int .i64 0, .int .i64 0, .int .i64 0, .int .i64 0, .int .i64 0] 96)) wr.heap.size 96 [.int .i64 0, .int .i64 0, .int .i64 0, .int .i64 0, .int .i64 0]) := Lib.hid (Blk.new wr 96 [.int .i64 0, .int .i64 0, .int .i64 0, .int .i64 0, .int .i64 0])
      have HTZ : Hid (World.there (wr.alloc (.cells #[.int .i64 0, .int .i64 0, .int .i64 0, .int .i64 0, .int .i64 0] 96)) (wr.heap.size) 0 (List.toArray ([.int .i64 0, .int .i64 0, .int .i64 0, .int .i64 0, .int .i64 0] : List Value)).size) := Lib.hid (HX.out.there 0 5 (by simp))
      have hsZ : Hid ((Tryz.prog.info? 96).map (·.size) = some (List.toArray ([.int .i64 0, .int .i64 0, .int .i64 0, .int .i64 0, .int .i64 0] : List Value)).size) := Lib.hid (by kernel_rfl)
      have h1Z : Hid ((List.toArray ([.int .i64 0, .int .i64 0, .int .i64 0, .int .i64 0, .int .i64 0] : List Value)).all (·.oneCell') = true) := Lib.hid (all_oneCell_toArray (by simp [Value.oneCell']))
      have hbw3 : Below wr.heap.size wr ((wr.alloc (.cells #[.int .i64 0, .int .i64 0, .int .i64 0, .int .i64 0, .int .i64 0] 96)).setCells (wr.heap.size) 0 [.int .i64 0, .int .i64 0, .int .i64 0, .int .i64 0, .int .i64 0]) := ((Below.refl _ _).alloc (Nat.le_refl _) _).trans (below_setCells_ (Nat.le_refl _) 0 [.int .i64 0, .int .i64 0, .int .i64 0, .int .i64 0, .int .i64 0])
      replace HR := Lib.hid (HR.out.below_ hbw3)
      replace HB : Hid (Below base wr ((wr.alloc (.cells #[.int .i64 0, .int .i64 0, .int .i64 0, .int .i64 0, .int .i64 0] 96)).setCells (wr.heap.size) 0 [.int .i64 0, .int .i64 0, .int .i64 0, .int .i64 0, .int .i64 0])) := Lib.hid (hbw3.mono hbs1)
      replace HK : Hid (Keeps [108, 106] wr ((wr.alloc (.cells #[.int .i64 0, .int .i64 0, .int .i64 0, .int .i64 0, .int .i64 0] 96)).setCells (wr.heap.size) 0 [.int .i64 0, .int .i64 0, .int .i64 0, .int .i64 0, .int .i64 0])) := Lib.hid (Keeps.of_below hbw3 (Nat.le_refl _))
      replace HX : Hid (Blk ((wr.alloc (.cells #[.int .i64 0, .int .i64 0, .int .i64 0, .int .i64 0, .int .i64 0] 96)).setCells (wr.heap.size) 0 [.int .i64 0, .int .i64 0, .int .i64 0, .int .i64 0, .int .i64 0]) wr.heap.size 96 [.int .i64 0, .int .i64 0, .int .i64 0, .int .i64 0, .int .i64 0]) := Lib.hid (HX.out.setCells0 [.int .i64 0, .int .i64 0, .int .i64 0, .int .i64 0, .int .i64 0] rfl)
      replace HXo := Lib.hid (HXo.out.below hbw3 HXo.out.lt)
      replace HRes := Lib.hid (HRes.out.below hbw3 HRes.out.lt)
      replace HO := Lib.hid (HO.out.below_ hbw3)
      clear hbw3
      have hob := hobx
      have hgx0 := hgx
      have hgx : wr.heap.size ≤ wr.heap.size := Nat.le_refl _
      have hbs := hbs1
      go_wp2_with (with_reducible refine wpList_store_mid rfl 96 _ _ rfl (wr.heap.size) 0 (List.toArray ([.int .i64 0, .int .i64 0, .int .i64 0, .int .i64 0, .int .i64 0] : List Value)) rfl rfl HTZ.out hsZ.out h1Z.out ?_)
      refine (C_num base g (iterO shDone mw7 ow7) _ HR.out).mono ?_
      rintro e u7_0 ⟨⟨v, rfl, _⟩, hA, hK⟩
      obtain ⟨nu0, rfl⟩ : ∃ x, x = v := ⟨v, rfl⟩
      replace HR := Lib.hid hA
      replace HB := Lib.hid (HB.out.trans hK.below)
      replace HK := Lib.hid (HK.out.trans hK.keeps)
      replace HX := Lib.hid (HX.out.keeps hK.keeps (by decide))
      replace HO := Lib.hid (HO.out.keeps hK.keeps (by decide))
      replace HXo := Lib.hid (HXo.out.keeps hK.keeps (by decide))
      replace HRes := Lib.hid (HRes.out.keeps hK.keeps (by decide))
      have hszu7_0 := HK.out.size
      clear hA hK
      have hcxu7_0_0 : u7_0.cell? ⟨wr.heap.size, 0, none⟩ = some (.int .i64 0) := HX.out.cell 0
      have hfzu7_0_0 : u7_0.frozen? ⟨wr.heap.size, 0, none⟩ = false := HX.out.frozen 0
      have HY : Hid (Blk (u7_0.setCell ⟨wr.heap.size, 0, none⟩ (.int .i64 nu0)) (wr.heap.size) 96 [.int .i64 nu0, .int .i64 0, .int .i64 0, .int .i64 0, .int .i64 0]) := Lib.hid (HX.out.set_ 0 (.int .i64 nu0))
      have HKA : Hid (Keeps [96] u7_0 (u7_0.setCell ⟨wr.heap.size, 0, none⟩ (.int .i64 nu0))) := Lib.hid ((Keeps.refl _ _).trans (Keeps.set_ HX.out.typ (by simp) (.int .i64 nu0)))
      have HBA : Hid (Below wr.heap.size u7_0 (u7_0.setCell ⟨wr.heap.size, 0, none⟩ (.int .i64 nu0))) := Lib.hid ((Below.refl wr.heap.size u7_0).setCell hgx _)
      replace HO := Lib.hid (own_set HO.out hob 0 (.int .i64 nu0))
      replace HX := HY
      replace HXo := Lib.hid (HXo.out.keeps HKA.out (by decide))
      replace HRes := Lib.hid (HRes.out.keeps HKA.out (by decide))
      replace HR := Lib.hid (HR.out.keeps HKA.out (HBA.out.mono hbs) (by decide) (by decide))
      replace HB := Lib.hid (HB.out.trans (HBA.out.mono hbs))
      replace HK := Lib.hid (HK.out.below_new HBA.out)
      clear HY HKA HBA
      go_wp2_with fail
      refine (C_num base g (stepO .num (iterO shDone mw7 ow7)) _ HR.out).mono ?_
      rintro e u7_1 ⟨⟨v, rfl, _⟩, hA, hK⟩
      obtain ⟨nu1, rfl⟩ : ∃ x, x = v := ⟨v, rfl⟩
      replace HR := Lib.hid hA
      replace HB := Lib.hid (HB.out.trans hK.below)
      replace HK := Lib.hid (HK.out.trans hK.keeps)
      replace HX := Lib.hid (HX.out.keeps hK.keeps (by decide))
      replace HO := Lib.hid (HO.out.keeps hK.keeps (by decide))
      replace HXo := Lib.hid (HXo.out.keeps hK.keeps (by decide))
      replace HRes := Lib.hid (HRes.out.keeps hK.keeps (by decide))
      have hszu7_1 := HK.out.size
      clear hA hK
      have hcxu7_1_0 : u7_1.cell? ⟨wr.heap.size, 1, none⟩ = some (.int .i64 0) := HX.out.cell 1
      have hfzu7_1_0 : u7_1.frozen? ⟨wr.heap.size, 1, none⟩ = false := HX.out.frozen 1
      have HY : Hid (Blk (u7_1.setCell ⟨wr.heap.size, 1, none⟩ (.int .i64 nu1)) (wr.heap.size) 96 [.int .i64 nu0, .int .i64 nu1, .int .i64 0, .int .i64 0, .int .i64 0]) := Lib.hid (HX.out.set_ 1 (.int .i64 nu1))
      have HKA : Hid (Keeps [96] u7_1 (u7_1.setCell ⟨wr.heap.size, 1, none⟩ (.int .i64 nu1))) := Lib.hid ((Keeps.refl _ _).trans (Keeps.set_ HX.out.typ (by simp) (.int .i64 nu1)))
      have HBA : Hid (Below wr.heap.size u7_1 (u7_1.setCell ⟨wr.heap.size, 1, none⟩ (.int .i64 nu1))) := Lib.hid ((Below.refl wr.heap.size u7_1).setCell hgx _)
      replace HO := Lib.hid (own_set HO.out hob 1 (.int .i64 nu1))
      replace HX := HY
      replace HXo := Lib.hid (HXo.out.keeps HKA.out (by decide))
      replace HRes := Lib.hid (HRes.out.keeps HKA.out (by decide))
      replace HR := Lib.hid (HR.out.keeps HKA.out (HBA.out.mono hbs) (by decide) (by decide))
      replace HB := Lib.hid (HB.out.trans (HBA.out.mono hbs))
      replace HK := Lib.hid (HK.out.below_new HBA.out)
      clear HY HKA HBA
      go_wp2_with fail
      refine (C_num base g (stepO .num (stepO .num (iterO shDone mw7 ow7))) _ HR.out).mono ?_
      rintro e u7_2 ⟨⟨v, rfl, _⟩, hA, hK⟩
      obtain ⟨nu2, rfl⟩ : ∃ x, x = v := ⟨v, rfl⟩
      replace HR := Lib.hid hA
      replace HB := Lib.hid (HB.out.trans hK.below)
      replace HK := Lib.hid (HK.out.trans hK.keeps)
      replace HX := Lib.hid (HX.out.keeps hK.keeps (by decide))
      replace HO := Lib.hid (HO.out.keeps hK.keeps (by decide))
      replace HXo := Lib.hid (HXo.out.keeps hK.keeps (by decide))
      replace HRes := Lib.hid (HRes.out.keeps hK.keeps (by decide))
      have hszu7_2 := HK.out.size
      clear hA hK
      have hcxu7_2_0 : u7_2.cell? ⟨wr.heap.size, 2, none⟩ = some (.int .i64 0) := HX.out.cell 2
      have hfzu7_2_0 : u7_2.frozen? ⟨wr.heap.size, 2, none⟩ = false := HX.out.frozen 2
      have HY : Hid (Blk (u7_2.setCell ⟨wr.heap.size, 2, none⟩ (.int .i64 nu2)) (wr.heap.size) 96 [.int .i64 nu0, .int .i64 nu1, .int .i64 nu2, .int .i64 0, .int .i64 0]) := Lib.hid (HX.out.set_ 2 (.int .i64 nu2))
      have HKA : Hid (Keeps [96] u7_2 (u7_2.setCell ⟨wr.heap.size, 2, none⟩ (.int .i64 nu2))) := Lib.hid ((Keeps.refl _ _).trans (Keeps.set_ HX.out.typ (by simp) (.int .i64 nu2)))
      have HBA : Hid (Below wr.heap.size u7_2 (u7_2.setCell ⟨wr.heap.size, 2, none⟩ (.int .i64 nu2))) := Lib.hid ((Below.refl wr.heap.size u7_2).setCell hgx _)
      replace HO := Lib.hid (own_set HO.out hob 2 (.int .i64 nu2))
      replace HX := HY
      replace HXo := Lib.hid (HXo.out.keeps HKA.out (by decide))
      replace HRes := Lib.hid (HRes.out.keeps HKA.out (by decide))
      replace HR := Lib.hid (HR.out.keeps HKA.out (HBA.out.mono hbs) (by decide) (by decide))
      replace HB := Lib.hid (HB.out.trans (HBA.out.mono hbs))
      replace HK := Lib.hid (HK.out.below_new HBA.out)
      clear HY HKA HBA
      go_wp2_with fail
      refine (C_num base g (stepO .num (stepO .num (stepO .num (iterO shDone mw7 ow7)))) _ HR.out).mono ?_
      rintro e u7_3 ⟨⟨v, rfl, _⟩, hA, hK⟩
      obtain ⟨nu3, rfl⟩ : ∃ x, x = v := ⟨v, rfl⟩
      replace HR := Lib.hid hA
      replace HB := Lib.hid (HB.out.trans hK.below)
      replace HK := Lib.hid (HK.out.trans hK.keeps)
      replace HX := Lib.hid (HX.out.keeps hK.keeps (by decide))
      replace HO := Lib.hid (HO.out.keeps hK.keeps (by decide))
      replace HXo := Lib.hid (HXo.out.keeps hK.keeps (by decide))
      replace HRes := Lib.hid (HRes.out.keeps hK.keeps (by decide))
      have hszu7_3 := HK.out.size
      clear hA hK
      have hcxu7_3_0 : u7_3.cell? ⟨wr.heap.size, 3, none⟩ = some (.int .i64 0) := HX.out.cell 3
      have hfzu7_3_0 : u7_3.frozen? ⟨wr.heap.size, 3, none⟩ = false := HX.out.frozen 3
      have HY : Hid (Blk (u7_3.setCell ⟨wr.heap.size, 3, none⟩ (.int .i64 nu3)) (wr.heap.size) 96 [.int .i64 nu0, .int .i64 nu1, .int .i64 nu2, .int .i64 nu3, .int .i64 0]) := Lib.hid (HX.out.set_ 3 (.int .i64 nu3))
      have HKA : Hid (Keeps [96] u7_3 (u7_3.setCell ⟨wr.heap.size, 3, none⟩ (.int .i64 nu3))) := Lib.hid ((Keeps.refl _ _).trans (Keeps.set_ HX.out.typ (by simp) (.int .i64 nu3)))
      have HBA : Hid (Below wr.heap.size u7_3 (u7_3.setCell ⟨wr.heap.size, 3, none⟩ (.int .i64 nu3))) := Lib.hid ((Below.refl wr.heap.size u7_3).setCell hgx _)
      replace HO := Lib.hid (own_set HO.out hob 3 (.int .i64 nu3))
      replace HX := HY
      replace HXo := Lib.hid (HXo.out.keeps HKA.out (by decide))
      replace HRes := Lib.hid (HRes.out.keeps HKA.out (by decide))
      replace HR := Lib.hid (HR.out.keeps HKA.out (HBA.out.mono hbs) (by decide) (by decide))
      replace HB := Lib.hid (HB.out.trans (HBA.out.mono hbs))
      replace HK := Lib.hid (HK.out.below_new HBA.out)
      clear HY HKA HBA
      go_wp2_with fail
      refine (C_num base g (stepO .num (stepO .num (stepO .num (stepO .num (iterO shDone mw7 ow7))))) _ HR.out).mono ?_
      rintro e u7_4 ⟨⟨v, rfl, _⟩, hA, hK⟩
      obtain ⟨nu4, rfl⟩ : ∃ x, x = v := ⟨v, rfl⟩
      replace HR := Lib.hid hA
      replace HB := Lib.hid (HB.out.trans hK.below)
      replace HK := Lib.hid (HK.out.trans hK.keeps)
      replace HX := Lib.hid (HX.out.keeps hK.keeps (by decide))
      replace HO := Lib.hid (HO.out.keeps hK.keeps (by decide))
      replace HXo := Lib.hid (HXo.out.keeps hK.keeps (by decide))
      replace HRes := Lib.hid (HRes.out.keeps hK.keeps (by decide))
      have hszu7_4 := HK.out.size
      clear hA hK
      have hcxu7_4_0 : u7_4.cell? ⟨wr.heap.size, 4, none⟩ = some (.int .i64 0) := HX.out.cell 4
      have hfzu7_4_0 : u7_4.frozen? ⟨wr.heap.size, 4, none⟩ = false := HX.out.frozen 4
      have HY : Hid (Blk (u7_4.setCell ⟨wr.heap.size, 4, none⟩ (.int .i64 nu4)) (wr.heap.size) 96 [.int .i64 nu0, .int .i64 nu1, .int .i64 nu2, .int .i64 nu3, .int .i64 nu4]) := Lib.hid (HX.out.set_ 4 (.int .i64 nu4))
      have HKA : Hid (Keeps [96] u7_4 (u7_4.setCell ⟨wr.heap.size, 4, none⟩ (.int .i64 nu4))) := Lib.hid ((Keeps.refl _ _).trans (Keeps.set_ HX.out.typ (by simp) (.int .i64 nu4)))
      have HBA : Hid (Below wr.heap.size u7_4 (u7_4.setCell ⟨wr.heap.size, 4, none⟩ (.int .i64 nu4))) := Lib.hid ((Below.refl wr.heap.size u7_4).setCell hgx _)
      replace HO := Lib.hid (own_set HO.out hob 4 (.int .i64 nu4))
      replace HX := HY
      replace HXo := Lib.hid (HXo.out.keeps HKA.out (by decide))
      replace HRes := Lib.hid (HRes.out.keeps HKA.out (by decide))
      replace HR := Lib.hid (HR.out.keeps HKA.out (HBA.out.mono hbs) (by decide) (by decide))
      replace HB := Lib.hid (HB.out.trans (HBA.out.mono hbs))
      replace HK := Lib.hid (HK.out.below_new HBA.out)
      clear HY HKA HBA
      have hst : stepO .num (stepO .num (stepO .num (stepO .num (stepO .num (iterO shDone mw7 ow7))))) = iterO shDone (mw7 + 1) ow7 := by rw [iterO_succ]; show _ = stepS [.num, .num, .num, .num, .num] _; simp only [stepS_cons, stepS_nil]
      rw [hst] at HR
      have HA2 := HR
      have HB2 := Lib.hid (HBo.out.trans HB.out)
      have HK2 := Lib.hid (HKo.out.trans HK.out)
      have HX2 := HXo
      have HRes2 := HRes
      have HO2 := HO
      have HXe := HX
      have hiZ : Hid ((Tryz.prog.info? 96).map (·.size) = some (List.length ([.int .i64 nu0, .int .i64 nu1, .int .i64 nu2, .int .i64 nu3, .int .i64 nu4] : List Value))) := Lib.hid (by kernel_rfl)
      have hsz3 := HK.out.size
      clear HBo HB HKo HK HO HR hst hcb HX HXo HRes HTZ
      have hgx := hgx0
      obtain ⟨i0, hi0⟩ : ∃ i, Tryz.prog.info? 96 = some i := by
        cases hq : Tryz.prog.info? 96 with
        | none => have h0 : (Tryz.prog.info? 96).isSome = true := by kernel_rfl
                  rw [hq] at h0; cases h0
        | some i => exact ⟨i, rfl⟩
      have hinf : (Tryz.prog.info? 96).map (fun i => (i.zero, i.size, decide (i.bytes ≤ 1000))) = some (some (.agg #[.int .i64 0, .int .i64 0, .int .i64 0, .int .i64 0, .int .i64 0]), 5, true) := by kernel_rfl
      rw [hi0] at hinf
      simp only [Option.map_some, Option.some.injEq, Prod.mk.injEq, decide_eq_true_eq] at hinf
      obtain ⟨hz0, hz1, hz2⟩ := hinf
      have hby := Nat.mul_le_mul_left 4097 hz2
      have HI := Lib.hid (And.intro hi0 (And.intro hz0 hz1))
      clear hi0 hz0 hz1
      have hszn : (u7_4.setCell ⟨wr.heap.size, 4, none⟩ (.int .i64 nu4)).heap.size = u7_4.heap.size := by simp
      have HNB2 : Hid (Blk ((u7_4.setCell ⟨wr.heap.size, 4, none⟩ (.int .i64 nu4)).alloc (.cells (List.toArray ([.int .i64 nu0, .int .i64 nu1, .int .i64 nu2, .int .i64 nu3, .int .i64 nu4] : List Value)) 96)) (u7_4.heap.size) 96 [.int .i64 nu0, .int .i64 nu1, .int .i64 nu2, .int .i64 nu3, .int .i64 nu4]) := Lib.hid (by have := Blk.new (u7_4.setCell ⟨wr.heap.size, 4, none⟩ (.int .i64 nu4)) 96 [.int .i64 nu0, .int .i64 nu1, .int .i64 nu2, .int .i64 nu3, .int .i64 nu4]; rwa [hszn] at this)
      have HRG := Lib.hid HXe.out.range0
      have hcxf : (u7_4.setCell ⟨wr.heap.size, 4, none⟩ (.int .i64 nu4)).cell? ⟨w.heap.size + 1, 7, none⟩ = some (.slice Aw7 mw7 kw7) := HX2.out.cell 7
      have hbase2 := HK2.out.size
      go_wp2_with (first | (with_reducible refine wpList_load_mid rfl 96 _ rfl (wr.heap.size) 0 rfl [.int .i64 nu0, .int .i64 nu1, .int .i64 nu2, .int .i64 nu3, .int .i64 nu4] _ HRG.out Tryz.underlying96 rfl hiZ.out ?_) | (at_builtin; refine wpList_appN rfl _ _ 35 rfl w.heap.size 96 i0 _ 5 i0.bytes Tryz.underlying35 HI.out.1 HI.out.2.1 HI.out.2.2 rfl rfl (by decide) (.slice Aw7 mw7 kw7) mw7 xs rfl (HO2.out.alloc _) ⟨u7_4.heap.size, 0, none⟩ 1 [.int .i64 nu0, .int .i64 nu1, .int .i64 nu2, .int .i64 nu3, .int .i64 nu4] rfl rfl HNB2.out.news (by simp [Value.oneCell']) (by unfold maxLen; omega) (Nat.le_trans (Nat.mul_le_mul_right _ (by omega)) (Nat.le_trans hby (by decide))) (by simp at hbase2 ⊢; omega) ?_; intro A3 c3 w3 HO3 HG3; have HXA := Lib.hid ((HX2.out.alloc _).keeps (Keeps.grown (ts := [96]) (HO2.out.alloc _) HG3.out (by simp) HG3.out.size) (by decide)); have hcxa : w3.cell? ⟨w.heap.size + 1, 7, none⟩ = some (.slice Aw7 mw7 kw7) := HXA.out.cell 7; have hfxa : w3.frozen? ⟨w.heap.size + 1, 7, none⟩ = false := HXA.out.frozen 7))
      have HKA : Hid (Keeps [96] (u7_4.setCell ⟨wr.heap.size, 4, none⟩ (.int .i64 nu4)) w3) := Lib.hid ((Keeps.alloc (u7_4.setCell ⟨wr.heap.size, 4, none⟩ (.int .i64 nu4)) _).trans (Keeps.grown (HO2.out.alloc _) HG3.out (by simp) HG3.out.size))
      have HBA : Hid (Below base (u7_4.setCell ⟨wr.heap.size, 4, none⟩ (.int .i64 nu4)) w3) := Lib.hid (((Below.refl _ _).alloc (by omega) _).grown HG3.out (by simp; omega) (by intro k hk; have := own_block_ge HO2.out k hk; omega))
      have HKF : Hid (Keeps [38] w3 (w3.setCell ⟨w.heap.size + 1, 7, none⟩ (.slice A3 (mw7 + 1) c3))) := Lib.hid (Keeps.set_ HXA.out.typ (by simp) _)
      have HBF : Hid (Below w.heap.size w3 (w3.setCell ⟨w.heap.size + 1, 7, none⟩ (.slice A3 (mw7 + 1) c3))) := Lib.hid ((Below.refl _ _).setCell hgx _)
      have hrel : ∃ (j' : Nat) (A : Option Addr) (c : Nat) (xs : List Value), j' ≤ Nw7 ∧ Value.int .i64 ((mw7 : Int) + 1) = .int .i64 j' ∧ Hid (CutAt (w3.setCell ⟨w.heap.size + 1, 7, none⟩ (.slice A3 (mw7 + 1) c3)) base g (iterO shDone j' ow7)) ∧ Hid ((w3.setCell ⟨w.heap.size + 1, 7, none⟩ (.slice A3 (mw7 + 1) c3)).ownsRow w.heap.size 96 5 (.slice A j' c) j' xs) ∧ Hid (Blk (w3.setCell ⟨w.heap.size + 1, 7, none⟩ (.slice A3 (mw7 + 1) c3)) (w.heap.size + 1) 38 [.int .i64 nw0, .int .i64 nw1, .slice Aw2 mw2 kw2, .slice Aw3 mw3 kw3, .slice Aw4 mw4 kw4, .slice Aw5 mw5 kw5, .slice Aw6 mw6 kw6, .slice A j' c, .slice none 0 0, .int .i64 0]) ∧ Hid (Blk (w3.setCell ⟨w.heap.size + 1, 7, none⟩ (.slice A3 (mw7 + 1) c3)) w.heap.size 38 [.int .i64 0, .int .i64 0, .slice none 0 0, .slice none 0 0, .slice none 0 0, .slice none 0 0, .slice none 0 0, .slice none 0 0, .slice none 0 0, .int .i64 0]) ∧ Hid (Below base w (w3.setCell ⟨w.heap.size + 1, 7, none⟩ (.slice A3 (mw7 + 1) c3))) ∧ Hid (Keeps [108, 106] w (w3.setCell ⟨w.heap.size + 1, 7, none⟩ (.slice A3 (mw7 + 1) c3))) := by
        refine ⟨mw7 + 1, A3, c3, _, by omega, by simp, Lib.hid ((HA2.out.keeps HKA.out HBA.out (by decide) (by decide)).keeps HKF.out (HBF.out.mono hbs0) (by decide) (by decide)), Lib.hid (HO3.out.kept (grownBy_setCell (World.grownBy.refl _ _) 7 _) (.inr (blk_own_ne HXA.out HO3.out (by decide)).symm)), Lib.hid (HXA.out.set_ 7 _), Lib.hid ((HRes2.out.keeps HKA.out (by decide)).far (by dsimp only; omega) _), Lib.hid ((HB2.out.trans HBA.out).trans (HBF.out.mono hbs0)), Lib.hid (Keeps.below_new ?_ HBF.out)⟩
        exact (HK2.out.then_below ((Below.refl _ _).alloc (Nat.le_refl _) _)).grown_new HG3.out (fun k hk => by have := own_block_ge HO2.out k hk; omega)
      clear HKA HBA HKF HBF HXA HO3 HG3 HO2 HA2 HK2 HB2 HX2 HRes2
      go_wp2
      go_roundw
      case rel => obtain ⟨j', A, c, xs, h1, h2, h3⟩ := hrel; exact ⟨j', A, c, xs, h1, by rw [← h2], h3⟩
      case measure => simp [intOf]; omega

end Go.Proofs.YteohhgkehkmgcaaGreat
