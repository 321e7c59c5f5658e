/- The walks of the reference that reads: lists and structs. Printed by mkcu.py. -/
import Derived.Test.YteohhgkehkmgcaaCu4
namespace Go.Proofs.Yteohhgkehkmgcaa
open Go.RowKit Le
set_option maxRecDepth 100000
set_option linter.unusedVariables false
set_option linter.unusedSimpArgs false

set_option maxHeartbeats 1600000 in
theorem C_rule (base g : Nat) (o : Option (List UInt8)) (w : World) (h : CutAt w base g o) :
    Calls Try.prog 100 #[.pointer (some ⟨g, 0, none⟩)] w fun e w' => (∃ vs, e = .returned (.agg vs.toArray) ∧ Kinds shRule vs) ∧ CutAt w' base g (stepS shRule o) ∧ Cuts base w w' := by
  have hi : (Try.prog.info? 46).map (·.size) = some 8 := by kernel_rfl
  replace hi := Lib.hid hi
  have hbs := h.lt
  have hgx : w.heap.size ≤ w.heap.size + 1 := Nat.le_succ _
  have HX : Hid (Blk ((w.alloc (.cells #[.string ⟨#[]⟩, .int .i64 0, .slice none 0 0, .int .i64 0, .int .i64 0, .string ⟨#[]⟩, .string ⟨#[]⟩, .string ⟨#[]⟩] 46)).alloc (.cells #[.string ⟨#[]⟩, .int .i64 0, .slice none 0 0, .int .i64 0, .int .i64 0, .string ⟨#[]⟩, .string ⟨#[]⟩, .string ⟨#[]⟩] 46)) (w.heap.size + 1) 46 [.string ⟨#[]⟩, .int .i64 0, .slice none 0 0, .int .i64 0, .int .i64 0, .string ⟨#[]⟩, .string ⟨#[]⟩, .string ⟨#[]⟩]) := Lib.hid (by have := Blk.new (w.alloc (.cells #[.string ⟨#[]⟩, .int .i64 0, .slice none 0 0, .int .i64 0, .int .i64 0, .string ⟨#[]⟩, .string ⟨#[]⟩, .string ⟨#[]⟩] 46)) 46 [.string ⟨#[]⟩, .int .i64 0, .slice none 0 0, .int .i64 0, .int .i64 0, .string ⟨#[]⟩, .string ⟨#[]⟩, .string ⟨#[]⟩]; simpa using this)
  have HRes : Hid (Blk ((w.alloc (.cells #[.string ⟨#[]⟩, .int .i64 0, .slice none 0 0, .int .i64 0, .int .i64 0, .string ⟨#[]⟩, .string ⟨#[]⟩, .string ⟨#[]⟩] 46)).alloc (.cells #[.string ⟨#[]⟩, .int .i64 0, .slice none 0 0, .int .i64 0, .int .i64 0, .string ⟨#[]⟩, .string ⟨#[]⟩, .string ⟨#[]⟩] 46)) w.heap.size 46 [.string ⟨#[]⟩, .int .i64 0, .slice none 0 0, .int .i64 0, .int .i64 0, .string ⟨#[]⟩, .string ⟨#[]⟩, .string ⟨#[]⟩]) := Lib.hid ((Blk.new w 46 [.string ⟨#[]⟩, .int .i64 0, .slice none 0 0, .int .i64 0, .int .i64 0, .string ⟨#[]⟩, .string ⟨#[]⟩, .string ⟨#[]⟩]).alloc _)
  have hbw : Below w.heap.size w ((w.alloc (.cells #[.string ⟨#[]⟩, .int .i64 0, .slice none 0 0, .int .i64 0, .int .i64 0, .string ⟨#[]⟩, .string ⟨#[]⟩, .string ⟨#[]⟩] 46)).alloc (.cells #[.string ⟨#[]⟩, .int .i64 0, .slice none 0 0, .int .i64 0, .int .i64 0, .string ⟨#[]⟩, .string ⟨#[]⟩, .string ⟨#[]⟩] 46)) := ((Below.refl _ _).alloc (Nat.le_refl _) _).alloc (by simp) _
  have HTZ : Hid (World.there ((w.alloc (.cells #[.string ⟨#[]⟩, .int .i64 0, .slice none 0 0, .int .i64 0, .int .i64 0, .string ⟨#[]⟩, .string ⟨#[]⟩, .string ⟨#[]⟩] 46)).alloc (.cells #[.string ⟨#[]⟩, .int .i64 0, .slice none 0 0, .int .i64 0, .int .i64 0, .string ⟨#[]⟩, .string ⟨#[]⟩, .string ⟨#[]⟩] 46)) (w.heap.size + 1) 0 (List.toArray ([.string ⟨#[]⟩, .int .i64 0, .slice none 0 0, .int .i64 0, .int .i64 0, .string ⟨#[]⟩, .string ⟨#[]⟩, .string ⟨#[]⟩] : List Value)).size) := Lib.hid (HX.out.there 0 8 (by simp))
  have hsZ : Hid ((Try.prog.info? 46).map (·.size) = some (List.toArray ([.string ⟨#[]⟩, .int .i64 0, .slice none 0 0, .int .i64 0, .int .i64 0, .string ⟨#[]⟩, .string ⟨#[]⟩, .string ⟨#[]⟩] : List Value)).size) := Lib.hid (by kernel_rfl)
  have h1Z : Hid ((List.toArray ([.string ⟨#[]⟩, .int .i64 0, .slice none 0 0, .int .i64 0, .int .i64 0, .string ⟨#[]⟩, .string ⟨#[]⟩, .string ⟨#[]⟩] : List Value)).all (·.oneCell') = true) := Lib.hid (all_oneCell_toArray (by simp [Value.oneCell']))
  have hbw3 : Below w.heap.size w (((w.alloc (.cells #[.string ⟨#[]⟩, .int .i64 0, .slice none 0 0, .int .i64 0, .int .i64 0, .string ⟨#[]⟩, .string ⟨#[]⟩, .string ⟨#[]⟩] 46)).alloc (.cells #[.string ⟨#[]⟩, .int .i64 0, .slice none 0 0, .int .i64 0, .int .i64 0, .string ⟨#[]⟩, .string ⟨#[]⟩, .string ⟨#[]⟩] 46)).setCells (w.heap.size + 1) 0 [.string ⟨#[]⟩, .int .i64 0, .slice none 0 0, .int .i64 0, .int .i64 0, .string ⟨#[]⟩, .string ⟨#[]⟩, .string ⟨#[]⟩]) := hbw.trans (below_setCells_ hgx 0 [.string ⟨#[]⟩, .int .i64 0, .slice none 0 0, .int .i64 0, .int .i64 0, .string ⟨#[]⟩, .string ⟨#[]⟩, .string ⟨#[]⟩])
  have HR := Lib.hid (h.below_ hbw3)
  have HB : Hid (Below base w (((w.alloc (.cells #[.string ⟨#[]⟩, .int .i64 0, .slice none 0 0, .int .i64 0, .int .i64 0, .string ⟨#[]⟩, .string ⟨#[]⟩, .string ⟨#[]⟩] 46)).alloc (.cells #[.string ⟨#[]⟩, .int .i64 0, .slice none 0 0, .int .i64 0, .int .i64 0, .string ⟨#[]⟩, .string ⟨#[]⟩, .string ⟨#[]⟩] 46)).setCells (w.heap.size + 1) 0 [.string ⟨#[]⟩, .int .i64 0, .slice none 0 0, .int .i64 0, .int .i64 0, .string ⟨#[]⟩, .string ⟨#[]⟩, .string ⟨#[]⟩])) := Lib.hid (hbw3.mono hbs)
  have HK : Hid (Keeps [144, 142] w (((w.alloc (.cells #[.string ⟨#[]⟩, .int .i64 0, .slice none 0 0, .int .i64 0, .int .i64 0, .string ⟨#[]⟩, .string ⟨#[]⟩, .string ⟨#[]⟩] 46)).alloc (.cells #[.string ⟨#[]⟩, .int .i64 0, .slice none 0 0, .int .i64 0, .int .i64 0, .string ⟨#[]⟩, .string ⟨#[]⟩, .string ⟨#[]⟩] 46)).setCells (w.heap.size + 1) 0 [.string ⟨#[]⟩, .int .i64 0, .slice none 0 0, .int .i64 0, .int .i64 0, .string ⟨#[]⟩, .string ⟨#[]⟩, .string ⟨#[]⟩])) := Lib.hid (Keeps.of_below hbw3 (Nat.le_refl _))
  replace HX : Hid (Blk (((w.alloc (.cells #[.string ⟨#[]⟩, .int .i64 0, .slice none 0 0, .int .i64 0, .int .i64 0, .string ⟨#[]⟩, .string ⟨#[]⟩, .string ⟨#[]⟩] 46)).alloc (.cells #[.string ⟨#[]⟩, .int .i64 0, .slice none 0 0, .int .i64 0, .int .i64 0, .string ⟨#[]⟩, .string ⟨#[]⟩, .string ⟨#[]⟩] 46)).setCells (w.heap.size + 1) 0 [.string ⟨#[]⟩, .int .i64 0, .slice none 0 0, .int .i64 0, .int .i64 0, .string ⟨#[]⟩, .string ⟨#[]⟩, .string ⟨#[]⟩]) (w.heap.size + 1) 46 [.string ⟨#[]⟩, .int .i64 0, .slice none 0 0, .int .i64 0, .int .i64 0, .string ⟨#[]⟩, .string ⟨#[]⟩, .string ⟨#[]⟩]) := Lib.hid (HX.out.setCells0 [.string ⟨#[]⟩, .int .i64 0, .slice none 0 0, .int .i64 0, .int .i64 0, .string ⟨#[]⟩, .string ⟨#[]⟩, .string ⟨#[]⟩] rfl)
  replace HRes : Hid (Blk (((w.alloc (.cells #[.string ⟨#[]⟩, .int .i64 0, .slice none 0 0, .int .i64 0, .int .i64 0, .string ⟨#[]⟩, .string ⟨#[]⟩, .string ⟨#[]⟩] 46)).alloc (.cells #[.string ⟨#[]⟩, .int .i64 0, .slice none 0 0, .int .i64 0, .int .i64 0, .string ⟨#[]⟩, .string ⟨#[]⟩, .string ⟨#[]⟩] 46)).setCells (w.heap.size + 1) 0 [.string ⟨#[]⟩, .int .i64 0, .slice none 0 0, .int .i64 0, .int .i64 0, .string ⟨#[]⟩, .string ⟨#[]⟩, .string ⟨#[]⟩]) w.heap.size 46 [.string ⟨#[]⟩, .int .i64 0, .slice none 0 0, .int .i64 0, .int .i64 0, .string ⟨#[]⟩, .string ⟨#[]⟩, .string ⟨#[]⟩]) := Lib.hid (Blk.far_setCells (by omega) 0 [.string ⟨#[]⟩, .int .i64 0, .slice none 0 0, .int .i64 0, .int .i64 0, .string ⟨#[]⟩, .string ⟨#[]⟩, .string ⟨#[]⟩] HRes.out)
  clear h hbw hbw3
  go_enter Try.func100, Try.ntmps100
  go_wp2_with (with_reducible refine wpList_store_mid rfl 46 _ _ rfl (w.heap.size + 1) 0 (List.toArray ([.string ⟨#[]⟩, .int .i64 0, .slice none 0 0, .int .i64 0, .int .i64 0, .string ⟨#[]⟩, .string ⟨#[]⟩, .string ⟨#[]⟩] : List Value)) rfl rfl HTZ.out hsZ.out h1Z.out ?_)
  refine (C_text base g (o) _ HR.out).mono ?_
  rintro e w0 ⟨⟨v, rfl, _⟩, hA, hK⟩
  obtain ⟨bw0, rfl⟩ : ∃ x, x = v := ⟨v, rfl⟩
  replace HR := Lib.hid hA
  replace HB := Lib.hid (HB.out.trans hK.below)
  replace HK := Lib.hid (HK.out.trans hK.keeps)
  replace HX := Lib.hid (HX.out.keeps hK.keeps (by decide))
  replace HRes := Lib.hid (HRes.out.keeps hK.keeps (by decide))
  have hszw0 := HK.out.size
  clear hA hK
  have hcxw0_0 : w0.cell? ⟨w.heap.size + 1, 0, none⟩ = some (.string ⟨#[]⟩) := HX.out.cell 0
  have hfzw0_0 : w0.frozen? ⟨w.heap.size + 1, 0, none⟩ = false := HX.out.frozen 0
  have HY : Hid (Blk (w0.setCell ⟨w.heap.size + 1, 0, none⟩ (.string bw0)) (w.heap.size + 1) 46 [.string bw0, .int .i64 0, .slice none 0 0, .int .i64 0, .int .i64 0, .string ⟨#[]⟩, .string ⟨#[]⟩, .string ⟨#[]⟩]) := Lib.hid (HX.out.set_ 0 (.string bw0))
  have HKA : Hid (Keeps [46] w0 (w0.setCell ⟨w.heap.size + 1, 0, none⟩ (.string bw0))) := Lib.hid ((Keeps.refl _ _).trans (Keeps.set_ HX.out.typ (by simp) (.string bw0)))
  have HBA : Hid (Below w.heap.size w0 (w0.setCell ⟨w.heap.size + 1, 0, none⟩ (.string bw0))) := Lib.hid ((Below.refl w.heap.size w0).setCell hgx _)
  replace HRes := Lib.hid (HRes.out.far (p := ⟨w.heap.size + 1, 0, none⟩) (by dsimp only; omega) (.string bw0))
  replace HX := HY
  replace HR := Lib.hid (HR.out.keeps HKA.out (HBA.out.mono hbs) (by decide) (by decide))
  replace HB := Lib.hid (HB.out.trans (HBA.out.mono hbs))
  replace HK := Lib.hid (HK.out.below_new HBA.out)
  clear HY HKA HBA
  go_wp2_with fail
  refine (C_num base g (stepO .text (o)) _ HR.out).mono ?_
  rintro e w1 ⟨⟨v, rfl, _⟩, hA, hK⟩
  obtain ⟨nw1, rfl⟩ : ∃ x, x = v := ⟨v, rfl⟩
  replace HR := Lib.hid hA
  replace HB := Lib.hid (HB.out.trans hK.below)
  replace HK := Lib.hid (HK.out.trans hK.keeps)
  replace HX := Lib.hid (HX.out.keeps hK.keeps (by decide))
  replace HRes := Lib.hid (HRes.out.keeps hK.keeps (by decide))
  have hszw1 := HK.out.size
  clear hA hK
  have hcxw1_0 : w1.cell? ⟨w.heap.size + 1, 1, none⟩ = some (.int .i64 0) := HX.out.cell 1
  have hfzw1_0 : w1.frozen? ⟨w.heap.size + 1, 1, none⟩ = false := HX.out.frozen 1
  have HY : Hid (Blk (w1.setCell ⟨w.heap.size + 1, 1, none⟩ (.int .i64 nw1)) (w.heap.size + 1) 46 [.string bw0, .int .i64 nw1, .slice none 0 0, .int .i64 0, .int .i64 0, .string ⟨#[]⟩, .string ⟨#[]⟩, .string ⟨#[]⟩]) := Lib.hid (HX.out.set_ 1 (.int .i64 nw1))
  have HKA : Hid (Keeps [46] w1 (w1.setCell ⟨w.heap.size + 1, 1, none⟩ (.int .i64 nw1))) := Lib.hid ((Keeps.refl _ _).trans (Keeps.set_ HX.out.typ (by simp) (.int .i64 nw1)))
  have HBA : Hid (Below w.heap.size w1 (w1.setCell ⟨w.heap.size + 1, 1, none⟩ (.int .i64 nw1))) := Lib.hid ((Below.refl w.heap.size w1).setCell hgx _)
  replace HRes := Lib.hid (HRes.out.far (p := ⟨w.heap.size + 1, 1, none⟩) (by dsimp only; omega) (.int .i64 nw1))
  replace HX := HY
  replace HR := Lib.hid (HR.out.keeps HKA.out (HBA.out.mono hbs) (by decide) (by decide))
  replace HB := Lib.hid (HB.out.trans (HBA.out.mono hbs))
  replace HK := Lib.hid (HK.out.below_new HBA.out)
  clear HY HKA HBA
  go_wp2_with fail
  refine (C_texts base g (stepO .num (stepO .text (o))) _ HR.out).mono ?_
  rintro e w2 ⟨⟨Aw2, mw2, kw2, rfl⟩, hA, hK⟩
  replace HR := Lib.hid hA
  replace HB := Lib.hid (HB.out.trans hK.below)
  replace HK := Lib.hid (HK.out.trans hK.keeps)
  replace HX := Lib.hid (HX.out.keeps hK.keeps (by decide))
  replace HRes := Lib.hid (HRes.out.keeps hK.keeps (by decide))
  have hszw2 := HK.out.size
  clear hA hK
  have hcxw2_0 : w2.cell? ⟨w.heap.size + 1, 2, none⟩ = some (.slice none 0 0) := HX.out.cell 2
  have hfzw2_0 : w2.frozen? ⟨w.heap.size + 1, 2, none⟩ = false := HX.out.frozen 2
  have HY : Hid (Blk (w2.setCell ⟨w.heap.size + 1, 2, none⟩ (.slice Aw2 mw2 kw2)) (w.heap.size + 1) 46 [.string bw0, .int .i64 nw1, .slice Aw2 mw2 kw2, .int .i64 0, .int .i64 0, .string ⟨#[]⟩, .string ⟨#[]⟩, .string ⟨#[]⟩]) := Lib.hid (HX.out.set_ 2 (.slice Aw2 mw2 kw2))
  have HKA : Hid (Keeps [46] w2 (w2.setCell ⟨w.heap.size + 1, 2, none⟩ (.slice Aw2 mw2 kw2))) := Lib.hid ((Keeps.refl _ _).trans (Keeps.set_ HX.out.typ (by simp) (.slice Aw2 mw2 kw2)))
  have HBA : Hid (Below w.heap.size w2 (w2.setCell ⟨w.heap.size + 1, 2, none⟩ (.slice Aw2 mw2 kw2))) := Lib.hid ((Below.refl w.heap.size w2).setCell hgx _)
  replace HRes := Lib.hid (HRes.out.far (p := ⟨w.heap.size + 1, 2, none⟩) (by dsimp only; omega) (.slice Aw2 mw2 kw2))
  replace HX := HY
  replace HR := Lib.hid (HR.out.keeps HKA.out (HBA.out.mono hbs) (by decide) (by decide))
  replace HB := Lib.hid (HB.out.trans (HBA.out.mono hbs))
  replace HK := Lib.hid (HK.out.below_new HBA.out)
  clear HY HKA HBA
  go_wp2_with fail
  refine (C_whole base g (stepO (.rows [.text]) (stepO .num (stepO .text (o)))) _ HR.out).mono ?_
  rintro e w3 ⟨⟨v, rfl, _⟩, hA, hK⟩
  obtain ⟨nw3, rfl⟩ : ∃ x, x = v := ⟨v, rfl⟩
  replace HR := Lib.hid hA
  replace HB := Lib.hid (HB.out.trans hK.below)
  replace HK := Lib.hid (HK.out.trans hK.keeps)
  replace HX := Lib.hid (HX.out.keeps hK.keeps (by decide))
  replace HRes := Lib.hid (HRes.out.keeps hK.keeps (by decide))
  have hszw3 := HK.out.size
  clear hA hK
  have hcxw3_0 : w3.cell? ⟨w.heap.size + 1, 3, none⟩ = some (.int .i64 0) := HX.out.cell 3
  have hfzw3_0 : w3.frozen? ⟨w.heap.size + 1, 3, none⟩ = false := HX.out.frozen 3
  have HY : Hid (Blk (w3.setCell ⟨w.heap.size + 1, 3, none⟩ (.int .i64 nw3)) (w.heap.size + 1) 46 [.string bw0, .int .i64 nw1, .slice Aw2 mw2 kw2, .int .i64 nw3, .int .i64 0, .string ⟨#[]⟩, .string ⟨#[]⟩, .string ⟨#[]⟩]) := Lib.hid (HX.out.set_ 3 (.int .i64 nw3))
  have HKA : Hid (Keeps [46] w3 (w3.setCell ⟨w.heap.size + 1, 3, none⟩ (.int .i64 nw3))) := Lib.hid ((Keeps.refl _ _).trans (Keeps.set_ HX.out.typ (by simp) (.int .i64 nw3)))
  have HBA : Hid (Below w.heap.size w3 (w3.setCell ⟨w.heap.size + 1, 3, none⟩ (.int .i64 nw3))) := Lib.hid ((Below.refl w.heap.size w3).setCell hgx _)
  replace HRes := Lib.hid (HRes.out.far (p := ⟨w.heap.size + 1, 3, none⟩) (by dsimp only; omega) (.int .i64 nw3))
  replace HX := HY
  replace HR := Lib.hid (HR.out.keeps HKA.out (HBA.out.mono hbs) (by decide) (by decide))
  replace HB := Lib.hid (HB.out.trans (HBA.out.mono hbs))
  replace HK := Lib.hid (HK.out.below_new HBA.out)
  clear HY HKA HBA
  go_wp2_with fail
  refine (C_whole base g (stepO .whole (stepO (.rows [.text]) (stepO .num (stepO .text (o))))) _ HR.out).mono ?_
  rintro e w4 ⟨⟨v, rfl, _⟩, hA, hK⟩
  obtain ⟨nw4, rfl⟩ : ∃ x, x = v := ⟨v, rfl⟩
  replace HR := Lib.hid hA
  replace HB := Lib.hid (HB.out.trans hK.below)
  replace HK := Lib.hid (HK.out.trans hK.keeps)
  replace HX := Lib.hid (HX.out.keeps hK.keeps (by decide))
  replace HRes := Lib.hid (HRes.out.keeps hK.keeps (by decide))
  have hszw4 := HK.out.size
  clear hA hK
  have hcxw4_0 : w4.cell? ⟨w.heap.size + 1, 4, none⟩ = some (.int .i64 0) := HX.out.cell 4
  have hfzw4_0 : w4.frozen? ⟨w.heap.size + 1, 4, none⟩ = false := HX.out.frozen 4
  have HY : Hid (Blk (w4.setCell ⟨w.heap.size + 1, 4, none⟩ (.int .i64 nw4)) (w.heap.size + 1) 46 [.string bw0, .int .i64 nw1, .slice Aw2 mw2 kw2, .int .i64 nw3, .int .i64 nw4, .string ⟨#[]⟩, .string ⟨#[]⟩, .string ⟨#[]⟩]) := Lib.hid (HX.out.set_ 4 (.int .i64 nw4))
  have HKA : Hid (Keeps [46] w4 (w4.setCell ⟨w.heap.size + 1, 4, none⟩ (.int .i64 nw4))) := Lib.hid ((Keeps.refl _ _).trans (Keeps.set_ HX.out.typ (by simp) (.int .i64 nw4)))
  have HBA : Hid (Below w.heap.size w4 (w4.setCell ⟨w.heap.size + 1, 4, none⟩ (.int .i64 nw4))) := Lib.hid ((Below.refl w.heap.size w4).setCell hgx _)
  replace HRes := Lib.hid (HRes.out.far (p := ⟨w.heap.size + 1, 4, none⟩) (by dsimp only; omega) (.int .i64 nw4))
  replace HX := HY
  replace HR := Lib.hid (HR.out.keeps HKA.out (HBA.out.mono hbs) (by decide) (by decide))
  replace HB := Lib.hid (HB.out.trans (HBA.out.mono hbs))
  replace HK := Lib.hid (HK.out.below_new HBA.out)
  clear HY HKA HBA
  go_wp2_with fail
  refine (C_text base g (stepO .whole (stepO .whole (stepO (.rows [.text]) (stepO .num (stepO .text (o)))))) _ HR.out).mono ?_
  rintro e w5 ⟨⟨v, rfl, _⟩, hA, hK⟩
  obtain ⟨bw5, rfl⟩ : ∃ x, x = v := ⟨v, rfl⟩
  replace HR := Lib.hid hA
  replace HB := Lib.hid (HB.out.trans hK.below)
  replace HK := Lib.hid (HK.out.trans hK.keeps)
  replace HX := Lib.hid (HX.out.keeps hK.keeps (by decide))
  replace HRes := Lib.hid (HRes.out.keeps hK.keeps (by decide))
  have hszw5 := HK.out.size
  clear hA hK
  have hcxw5_0 : w5.cell? ⟨w.heap.size + 1, 5, none⟩ = some (.string ⟨#[]⟩) := HX.out.cell 5
  have hfzw5_0 : w5.frozen? ⟨w.heap.size + 1, 5, none⟩ = false := HX.out.frozen 5
  have HY : Hid (Blk (w5.setCell ⟨w.heap.size + 1, 5, none⟩ (.string bw5)) (w.heap.size + 1) 46 [.string bw0, .int .i64 nw1, .slice Aw2 mw2 kw2, .int .i64 nw3, .int .i64 nw4, .string bw5, .string ⟨#[]⟩, .string ⟨#[]⟩]) := Lib.hid (HX.out.set_ 5 (.string bw5))
  have HKA : Hid (Keeps [46] w5 (w5.setCell ⟨w.heap.size + 1, 5, none⟩ (.string bw5))) := Lib.hid ((Keeps.refl _ _).trans (Keeps.set_ HX.out.typ (by simp) (.string bw5)))
  have HBA : Hid (Below w.heap.size w5 (w5.setCell ⟨w.heap.size + 1, 5, none⟩ (.string bw5))) := Lib.hid ((Below.refl w.heap.size w5).setCell hgx _)
  replace HRes := Lib.hid (HRes.out.far (p := ⟨w.heap.size + 1, 5, none⟩) (by dsimp only; omega) (.string bw5))
  replace HX := HY
  replace HR := Lib.hid (HR.out.keeps HKA.out (HBA.out.mono hbs) (by decide) (by decide))
  replace HB := Lib.hid (HB.out.trans (HBA.out.mono hbs))
  replace HK := Lib.hid (HK.out.below_new HBA.out)
  clear HY HKA HBA
  go_wp2_with fail
  refine (C_text base g (stepO .text (stepO .whole (stepO .whole (stepO (.rows [.text]) (stepO .num (stepO .text (o))))))) _ HR.out).mono ?_
  rintro e w6 ⟨⟨v, rfl, _⟩, hA, hK⟩
  obtain ⟨bw6, rfl⟩ : ∃ x, x = v := ⟨v, rfl⟩
  replace HR := Lib.hid hA
  replace HB := Lib.hid (HB.out.trans hK.below)
  replace HK := Lib.hid (HK.out.trans hK.keeps)
  replace HX := Lib.hid (HX.out.keeps hK.keeps (by decide))
  replace HRes := Lib.hid (HRes.out.keeps hK.keeps (by decide))
  have hszw6 := HK.out.size
  clear hA hK
  have hcxw6_0 : w6.cell? ⟨w.heap.size + 1, 6, none⟩ = some (.string ⟨#[]⟩) := HX.out.cell 6
  have hfzw6_0 : w6.frozen? ⟨w.heap.size + 1, 6, none⟩ = false := HX.out.frozen 6
  have HY : Hid (Blk (w6.setCell ⟨w.heap.size + 1, 6, none⟩ (.string bw6)) (w.heap.size + 1) 46 [.string bw0, .int .i64 nw1, .slice Aw2 mw2 kw2, .int .i64 nw3, .int .i64 nw4, .string bw5, .string bw6, .string ⟨#[]⟩]) := Lib.hid (HX.out.set_ 6 (.string bw6))
  have HKA : Hid (Keeps [46] w6 (w6.setCell ⟨w.heap.size + 1, 6, none⟩ (.string bw6))) := Lib.hid ((Keeps.refl _ _).trans (Keeps.set_ HX.out.typ (by simp) (.string bw6)))
  have HBA : Hid (Below w.heap.size w6 (w6.setCell ⟨w.heap.size + 1, 6, none⟩ (.string bw6))) := Lib.hid ((Below.refl w.heap.size w6).setCell hgx _)
  replace HRes := Lib.hid (HRes.out.far (p := ⟨w.heap.size + 1, 6, none⟩) (by dsimp only; omega) (.string bw6))
  replace HX := HY
  replace HR := Lib.hid (HR.out.keeps HKA.out (HBA.out.mono hbs) (by decide) (by decide))
  replace HB := Lib.hid (HB.out.trans (HBA.out.mono hbs))
  replace HK := Lib.hid (HK.out.below_new HBA.out)
  clear HY HKA HBA
  go_wp2_with fail
  refine (C_text base g (stepO .text (stepO .text (stepO .whole (stepO .whole (stepO (.rows [.text]) (stepO .num (stepO .text (o)))))))) _ HR.out).mono ?_
  rintro e w7 ⟨⟨v, rfl, _⟩, hA, hK⟩
  obtain ⟨bw7, rfl⟩ : ∃ x, x = v := ⟨v, rfl⟩
  replace HR := Lib.hid hA
  replace HB := Lib.hid (HB.out.trans hK.below)
  replace HK := Lib.hid (HK.out.trans hK.keeps)
  replace HX := Lib.hid (HX.out.keeps hK.keeps (by decide))
  replace HRes := Lib.hid (HRes.out.keeps hK.keeps (by decide))
  have hszw7 := HK.out.size
  clear hA hK
  have hcxw7_0 : w7.cell? ⟨w.heap.size + 1, 7, none⟩ = some (.string ⟨#[]⟩) := HX.out.cell 7
  have hfzw7_0 : w7.frozen? ⟨w.heap.size + 1, 7, none⟩ = false := HX.out.frozen 7
  have HY : Hid (Blk (w7.setCell ⟨w.heap.size + 1, 7, none⟩ (.string bw7)) (w.heap.size + 1) 46 [.string bw0, .int .i64 nw1, .slice Aw2 mw2 kw2, .int .i64 nw3, .int .i64 nw4, .string bw5, .string bw6, .string bw7]) := Lib.hid (HX.out.set_ 7 (.string bw7))
  have HKA : Hid (Keeps [46] w7 (w7.setCell ⟨w.heap.size + 1, 7, none⟩ (.string bw7))) := Lib.hid ((Keeps.refl _ _).trans (Keeps.set_ HX.out.typ (by simp) (.string bw7)))
  have HBA : Hid (Below w.heap.size w7 (w7.setCell ⟨w.heap.size + 1, 7, none⟩ (.string bw7))) := Lib.hid ((Below.refl w.heap.size w7).setCell hgx _)
  replace HRes := Lib.hid (HRes.out.far (p := ⟨w.heap.size + 1, 7, none⟩) (by dsimp only; omega) (.string bw7))
  replace HX := HY
  replace HR := Lib.hid (HR.out.keeps HKA.out (HBA.out.mono hbs) (by decide) (by decide))
  replace HB := Lib.hid (HB.out.trans (HBA.out.mono hbs))
  replace HK := Lib.hid (HK.out.below_new HBA.out)
  clear HY HKA HBA
  have HRG := Lib.hid HX.out.range0
  have HTE : Hid (World.there _ w.heap.size 0 (List.toArray ([.string bw0, .int .i64 nw1, .slice Aw2 mw2 kw2, .int .i64 nw3, .int .i64 nw4, .string bw5, .string bw6, .string bw7] : List Value)).size) := Lib.hid (HRes.out.there 0 8 (by simp))
  have hiV : Hid ((Try.prog.info? 46).map (·.size) = some (List.length ([.string bw0, .int .i64 nw1, .slice Aw2 mw2 kw2, .int .i64 nw3, .int .i64 nw4, .string bw5, .string bw6, .string bw7] : List Value))) := Lib.hid hi.out
  have hsV : Hid ((Try.prog.info? 46).map (·.size) = some (List.toArray ([.string bw0, .int .i64 nw1, .slice Aw2 mw2 kw2, .int .i64 nw3, .int .i64 nw4, .string bw5, .string bw6, .string bw7] : List Value)).size) := Lib.hid hi.out
  have h1V : Hid ((List.toArray ([.string bw0, .int .i64 nw1, .slice Aw2 mw2 kw2, .int .i64 nw3, .int .i64 nw4, .string bw5, .string bw6, .string bw7] : List Value)).all (·.oneCell') = true) := Lib.hid (all_oneCell_toArray (by simp [Value.oneCell']))
  go_wp2_with (first | (with_reducible refine wpList_load_mid rfl 46 _ rfl (w.heap.size + 1) 0 rfl [.string bw0, .int .i64 nw1, .slice Aw2 mw2 kw2, .int .i64 nw3, .int .i64 nw4, .string bw5, .string bw6, .string bw7] _ HRG.out Try.underlying46 rfl hiV.out ?_) | (with_reducible refine wpList_store_mid rfl 46 _ _ rfl w.heap.size 0 (List.toArray ([.string bw0, .int .i64 nw1, .slice Aw2 mw2 kw2, .int .i64 nw3, .int .i64 nw4, .string bw5, .string bw6, .string bw7] : List Value)) rfl rfl HTE.out hsV.out h1V.out ?_))
  have HXE := Lib.hid (HRes.out.setCells0 [.string bw0, .int .i64 nw1, .slice Aw2 mw2 kw2, .int .i64 nw3, .int .i64 nw4, .string bw5, .string bw6, .string bw7] rfl)
  have HKE := Lib.hid (Keeps.setCells (ts := [46]) (t := 46) (by simp) HRes.out.typ 0 [.string bw0, .int .i64 nw1, .slice Aw2 mw2 kw2, .int .i64 nw3, .int .i64 nw4, .string bw5, .string bw6, .string bw7])
  refine bodyPost_ret (results_cell rfl _ _ w.heap.size rfl [.string bw0, .int .i64 nw1, .slice Aw2 mw2 kw2, .int .i64 nw3, .int .i64 nw4, .string bw5, .string bw6, .string bw7] _ HXE.out.range0 Try.underlying46 rfl hiV.out) rfl ?_
  refine ⟨⟨[.string bw0, .int .i64 nw1, .slice Aw2 mw2 kw2, .int .i64 nw3, .int .i64 nw4, .string bw5, .string bw6, .string bw7], rfl, (Kinds.mk (Kind1.text bw0) (Kinds.mk (Kind1.num nw1) (Kinds.mk (Kind1.rows _ Aw2 mw2 kw2) (Kinds.mk (Kind1.whole nw3) (Kinds.mk (Kind1.whole nw4) (Kinds.mk (Kind1.text bw5) (Kinds.mk (Kind1.text bw6) (Kinds.mk (Kind1.text bw7) Kinds.mk0))))))))⟩, ?_, HB.out.trans (below_setCells_ hbs _ _), HK.out.below_new (below_setCells_ (Nat.le_refl _) _ _)⟩
  have hfin := HR.out.keeps HKE.out (below_setCells_ hbs _ _) (by decide) (by decide)
  simpa only [shRule, stepS_cons, stepS_nil] using hfin

set_option maxHeartbeats 1600000 in
theorem C_config (base g : Nat) (o : Option (List UInt8)) (w : World) (h : CutAt w base g o) :
    Calls Try.prog 104 #[.pointer (some ⟨g, 0, none⟩)] w fun e w' => (∃ vs, e = .returned (.agg vs.toArray) ∧ Kinds shConfig vs) ∧ CutAt w' base g (stepS shConfig o) ∧ Cuts base w w' := by
  have hi : (Try.prog.info? 27).map (·.size) = some 2 := by kernel_rfl
  replace hi := Lib.hid hi
  have hbs := h.lt
  have hgx : w.heap.size ≤ w.heap.size + 1 := Nat.le_succ _
  have HX : Hid (Blk ((w.alloc (.cells #[.slice none 0 0, .slice none 0 0] 27)).alloc (.cells #[.slice none 0 0, .slice none 0 0] 27)) (w.heap.size + 1) 27 [.slice none 0 0, .slice none 0 0]) := Lib.hid (by have := Blk.new (w.alloc (.cells #[.slice none 0 0, .slice none 0 0] 27)) 27 [.slice none 0 0, .slice none 0 0]; simpa using this)
  have HRes : Hid (Blk ((w.alloc (.cells #[.slice none 0 0, .slice none 0 0] 27)).alloc (.cells #[.slice none 0 0, .slice none 0 0] 27)) w.heap.size 27 [.slice none 0 0, .slice none 0 0]) := Lib.hid ((Blk.new w 27 [.slice none 0 0, .slice none 0 0]).alloc _)
  have hbw : Below w.heap.size w ((w.alloc (.cells #[.slice none 0 0, .slice none 0 0] 27)).alloc (.cells #[.slice none 0 0, .slice none 0 0] 27)) := ((Below.refl _ _).alloc (Nat.le_refl _) _).alloc (by simp) _
  have HTZ : Hid (World.there ((w.alloc (.cells #[.slice none 0 0, .slice none 0 0] 27)).alloc (.cells #[.slice none 0 0, .slice none 0 0] 27)) (w.heap.size + 1) 0 (List.toArray ([.slice none 0 0, .slice none 0 0] : List Value)).size) := Lib.hid (HX.out.there 0 2 (by simp))
  have hsZ : Hid ((Try.prog.info? 27).map (·.size) = some (List.toArray ([.slice none 0 0, .slice none 0 0] : List Value)).size) := Lib.hid (by kernel_rfl)
  have h1Z : Hid ((List.toArray ([.slice none 0 0, .slice none 0 0] : List Value)).all (·.oneCell') = true) := Lib.hid (all_oneCell_toArray (by simp [Value.oneCell']))
  have hbw3 : Below w.heap.size w (((w.alloc (.cells #[.slice none 0 0, .slice none 0 0] 27)).alloc (.cells #[.slice none 0 0, .slice none 0 0] 27)).setCells (w.heap.size + 1) 0 [.slice none 0 0, .slice none 0 0]) := hbw.trans (below_setCells_ hgx 0 [.slice none 0 0, .slice none 0 0])
  have HR := Lib.hid (h.below_ hbw3)
  have HB : Hid (Below base w (((w.alloc (.cells #[.slice none 0 0, .slice none 0 0] 27)).alloc (.cells #[.slice none 0 0, .slice none 0 0] 27)).setCells (w.heap.size + 1) 0 [.slice none 0 0, .slice none 0 0])) := Lib.hid (hbw3.mono hbs)
  have HK : Hid (Keeps [144, 142] w (((w.alloc (.cells #[.slice none 0 0, .slice none 0 0] 27)).alloc (.cells #[.slice none 0 0, .slice none 0 0] 27)).setCells (w.heap.size + 1) 0 [.slice none 0 0, .slice none 0 0])) := Lib.hid (Keeps.of_below hbw3 (Nat.le_refl _))
  replace HX : Hid (Blk (((w.alloc (.cells #[.slice none 0 0, .slice none 0 0] 27)).alloc (.cells #[.slice none 0 0, .slice none 0 0] 27)).setCells (w.heap.size + 1) 0 [.slice none 0 0, .slice none 0 0]) (w.heap.size + 1) 27 [.slice none 0 0, .slice none 0 0]) := Lib.hid (HX.out.setCells0 [.slice none 0 0, .slice none 0 0] rfl)
  replace HRes : Hid (Blk (((w.alloc (.cells #[.slice none 0 0, .slice none 0 0] 27)).alloc (.cells #[.slice none 0 0, .slice none 0 0] 27)).setCells (w.heap.size + 1) 0 [.slice none 0 0, .slice none 0 0]) w.heap.size 27 [.slice none 0 0, .slice none 0 0]) := Lib.hid (Blk.far_setCells (by omega) 0 [.slice none 0 0, .slice none 0 0] HRes.out)
  clear h hbw hbw3
  go_enter Try.func104, Try.ntmps104
  go_wp2_with (with_reducible refine wpList_store_mid rfl 27 _ _ rfl (w.heap.size + 1) 0 (List.toArray ([.slice none 0 0, .slice none 0 0] : List Value)) rfl rfl HTZ.out hsZ.out h1Z.out ?_)
  refine (C_set base g (o) _ HR.out).mono ?_
  rintro e w0 ⟨⟨Aw0, mw0, kw0, rfl⟩, hA, hK⟩
  replace HR := Lib.hid hA
  replace HB := Lib.hid (HB.out.trans hK.below)
  replace HK := Lib.hid (HK.out.trans hK.keeps)
  replace HX := Lib.hid (HX.out.keeps hK.keeps (by decide))
  replace HRes := Lib.hid (HRes.out.keeps hK.keeps (by decide))
  have hszw0 := HK.out.size
  clear hA hK
  have hcxw0_0 : w0.cell? ⟨w.heap.size + 1, 0, none⟩ = some (.slice none 0 0) := HX.out.cell 0
  have hfzw0_0 : w0.frozen? ⟨w.heap.size + 1, 0, none⟩ = false := HX.out.frozen 0
  have HY : Hid (Blk (w0.setCell ⟨w.heap.size + 1, 0, none⟩ (.slice Aw0 mw0 kw0)) (w.heap.size + 1) 27 [.slice Aw0 mw0 kw0, .slice none 0 0]) := Lib.hid (HX.out.set_ 0 (.slice Aw0 mw0 kw0))
  have HKA : Hid (Keeps [27] w0 (w0.setCell ⟨w.heap.size + 1, 0, none⟩ (.slice Aw0 mw0 kw0))) := Lib.hid ((Keeps.refl _ _).trans (Keeps.set_ HX.out.typ (by simp) (.slice Aw0 mw0 kw0)))
  have HBA : Hid (Below w.heap.size w0 (w0.setCell ⟨w.heap.size + 1, 0, none⟩ (.slice Aw0 mw0 kw0))) := Lib.hid ((Below.refl w.heap.size w0).setCell hgx _)
  replace HRes := Lib.hid (HRes.out.far (p := ⟨w.heap.size + 1, 0, none⟩) (by dsimp only; omega) (.slice Aw0 mw0 kw0))
  replace HX := HY
  replace HR := Lib.hid (HR.out.keeps HKA.out (HBA.out.mono hbs) (by decide) (by decide))
  replace HB := Lib.hid (HB.out.trans (HBA.out.mono hbs))
  replace HK := Lib.hid (HK.out.below_new HBA.out)
  clear HY HKA HBA
  go_wp2_with fail
  refine (C_set base g (stepO (.rows [.num]) (o)) _ HR.out).mono ?_
  rintro e w1 ⟨⟨Aw1, mw1, kw1, rfl⟩, hA, hK⟩
  replace HR := Lib.hid hA
  replace HB := Lib.hid (HB.out.trans hK.below)
  replace HK := Lib.hid (HK.out.trans hK.keeps)
  replace HX := Lib.hid (HX.out.keeps hK.keeps (by decide))
  replace HRes := Lib.hid (HRes.out.keeps hK.keeps (by decide))
  have hszw1 := HK.out.size
  clear hA hK
  have hcxw1_0 : w1.cell? ⟨w.heap.size + 1, 1, none⟩ = some (.slice none 0 0) := HX.out.cell 1
  have hfzw1_0 : w1.frozen? ⟨w.heap.size + 1, 1, none⟩ = false := HX.out.frozen 1
  have HY : Hid (Blk (w1.setCell ⟨w.heap.size + 1, 1, none⟩ (.slice Aw1 mw1 kw1)) (w.heap.size + 1) 27 [.slice Aw0 mw0 kw0, .slice Aw1 mw1 kw1]) := Lib.hid (HX.out.set_ 1 (.slice Aw1 mw1 kw1))
  have HKA : Hid (Keeps [27] w1 (w1.setCell ⟨w.heap.size + 1, 1, none⟩ (.slice Aw1 mw1 kw1))) := Lib.hid ((Keeps.refl _ _).trans (Keeps.set_ HX.out.typ (by simp) (.slice Aw1 mw1 kw1)))
  have HBA : Hid (Below w.heap.size w1 (w1.setCell ⟨w.heap.size + 1, 1, none⟩ (.slice Aw1 mw1 kw1))) := Lib.hid ((Below.refl w.heap.size w1).setCell hgx _)
  replace HRes := Lib.hid (HRes.out.far (p := ⟨w.heap.size + 1, 1, none⟩) (by dsimp only; omega) (.slice Aw1 mw1 kw1))
  replace HX := HY
  replace HR := Lib.hid (HR.out.keeps HKA.out (HBA.out.mono hbs) (by decide) (by decide))
  replace HB := Lib.hid (HB.out.trans (HBA.out.mono hbs))
  replace HK := Lib.hid (HK.out.below_new HBA.out)
  clear HY HKA HBA
  have HRG := Lib.hid HX.out.range0
  have HTE : Hid (World.there _ w.heap.size 0 (List.toArray ([.slice Aw0 mw0 kw0, .slice Aw1 mw1 kw1] : List Value)).size) := Lib.hid (HRes.out.there 0 2 (by simp))
  have hiV : Hid ((Try.prog.info? 27).map (·.size) = some (List.length ([.slice Aw0 mw0 kw0, .slice Aw1 mw1 kw1] : List Value))) := Lib.hid hi.out
  have hsV : Hid ((Try.prog.info? 27).map (·.size) = some (List.toArray ([.slice Aw0 mw0 kw0, .slice Aw1 mw1 kw1] : List Value)).size) := Lib.hid hi.out
  have h1V : Hid ((List.toArray ([.slice Aw0 mw0 kw0, .slice Aw1 mw1 kw1] : List Value)).all (·.oneCell') = true) := Lib.hid (all_oneCell_toArray (by simp [Value.oneCell']))
  go_wp2_with (first | (with_reducible refine wpList_load_mid rfl 27 _ rfl (w.heap.size + 1) 0 rfl [.slice Aw0 mw0 kw0, .slice Aw1 mw1 kw1] _ HRG.out Try.underlying27 rfl hiV.out ?_) | (with_reducible refine wpList_store_mid rfl 27 _ _ rfl w.heap.size 0 (List.toArray ([.slice Aw0 mw0 kw0, .slice Aw1 mw1 kw1] : List Value)) rfl rfl HTE.out hsV.out h1V.out ?_))
  have HXE := Lib.hid (HRes.out.setCells0 [.slice Aw0 mw0 kw0, .slice Aw1 mw1 kw1] rfl)
  have HKE := Lib.hid (Keeps.setCells (ts := [27]) (t := 27) (by simp) HRes.out.typ 0 [.slice Aw0 mw0 kw0, .slice Aw1 mw1 kw1])
  refine bodyPost_ret (results_cell rfl _ _ w.heap.size rfl [.slice Aw0 mw0 kw0, .slice Aw1 mw1 kw1] _ HXE.out.range0 Try.underlying27 rfl hiV.out) rfl ?_
  refine ⟨⟨[.slice Aw0 mw0 kw0, .slice Aw1 mw1 kw1], rfl, (Kinds.mk (Kind1.rows _ Aw0 mw0 kw0) (Kinds.mk (Kind1.rows _ Aw1 mw1 kw1) Kinds.mk0))⟩, ?_, HB.out.trans (below_setCells_ hbs _ _), HK.out.below_new (below_setCells_ (Nat.le_refl _) _ _)⟩
  have hfin := HR.out.keeps HKE.out (below_setCells_ hbs _ _) (by decide) (by decide)
  simpa only [shConfig, stepS_cons, stepS_nil] using hfin

end Go.Proofs.Yteohhgkehkmgcaa
