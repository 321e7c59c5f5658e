/- The walks of the reference that reads: lists and structs. Printed by mkcu.py. -/
import Derived.Test.YteohhgkehkmgcaaCu5
namespace Go.Proofs.Yteohhgkehkmgcaa
open Go.RowKit Le
set_option maxRecDepth 100000
set_option linter.unusedVariables false
set_option linter.unusedSimpArgs false

set_option maxHeartbeats 1600000 in
theorem C_Record (base g : Nat) (o : Option (List UInt8)) (w : World) (h : CutAt w base g o) :
    Calls Try.prog 56 #[.pointer (some ⟨g, 0, none⟩)] w fun e w' => (∃ vs, e = .returned (.agg vs.toArray) ∧ Kinds shRecord vs) ∧ CutAt w' base g (stepS shRecord o) ∧ Cuts base w w' := by
  have hi : (Try.prog.info? 33).map (·.size) = some 15 := by kernel_rfl
  replace hi := Lib.hid hi
  have hbs := h.lt
  have hgx : w.heap.size ≤ w.heap.size + 1 := Nat.le_succ _
  have HX : Hid (Blk ((w.alloc (.cells #[.int .i64 0, .int .i64 0, .int .i64 0, .int .i64 0, .int .i64 0, .int .i64 0, .slice none 0 0, .slice none 0 0, .string ⟨#[]⟩, .int .i64 0, .int .i64 0, .int .i64 0, .slice none 0 0, .slice none 0 0, .string ⟨#[]⟩] 33)).alloc (.cells #[.int .i64 0, .int .i64 0, .int .i64 0, .int .i64 0, .int .i64 0, .int .i64 0, .slice none 0 0, .slice none 0 0, .string ⟨#[]⟩, .int .i64 0, .int .i64 0, .int .i64 0, .slice none 0 0, .slice none 0 0, .string ⟨#[]⟩] 33)) (w.heap.size + 1) 33 [.int .i64 0, .int .i64 0, .int .i64 0, .int .i64 0, .int .i64 0, .int .i64 0, .slice none 0 0, .slice none 0 0, .string ⟨#[]⟩, .int .i64 0, .int .i64 0, .int .i64 0, .slice none 0 0, .slice none 0 0, .string ⟨#[]⟩]) := Lib.hid (by have := Blk.new (w.alloc (.cells #[.int .i64 0, .int .i64 0, .int .i64 0, .int .i64 0, .int .i64 0, .int .i64 0, .slice none 0 0, .slice none 0 0, .string ⟨#[]⟩, .int .i64 0, .int .i64 0, .int .i64 0, .slice none 0 0, .slice none 0 0, .string ⟨#[]⟩] 33)) 33 [.int .i64 0, .int .i64 0, .int .i64 0, .int .i64 0, .int .i64 0, .int .i64 0, .slice none 0 0, .slice none 0 0, .string ⟨#[]⟩, .int .i64 0, .int .i64 0, .int .i64 0, .slice none 0 0, .slice none 0 0, .string ⟨#[]⟩]; simpa using this)
  have HRes : Hid (Blk ((w.alloc (.cells #[.int .i64 0, .int .i64 0, .int .i64 0, .int .i64 0, .int .i64 0, .int .i64 0, .slice none 0 0, .slice none 0 0, .string ⟨#[]⟩, .int .i64 0, .int .i64 0, .int .i64 0, .slice none 0 0, .slice none 0 0, .string ⟨#[]⟩] 33)).alloc (.cells #[.int .i64 0, .int .i64 0, .int .i64 0, .int .i64 0, .int .i64 0, .int .i64 0, .slice none 0 0, .slice none 0 0, .string ⟨#[]⟩, .int .i64 0, .int .i64 0, .int .i64 0, .slice none 0 0, .slice none 0 0, .string ⟨#[]⟩] 33)) w.heap.size 33 [.int .i64 0, .int .i64 0, .int .i64 0, .int .i64 0, .int .i64 0, .int .i64 0, .slice none 0 0, .slice none 0 0, .string ⟨#[]⟩, .int .i64 0, .int .i64 0, .int .i64 0, .slice none 0 0, .slice none 0 0, .string ⟨#[]⟩]) := Lib.hid ((Blk.new w 33 [.int .i64 0, .int .i64 0, .int .i64 0, .int .i64 0, .int .i64 0, .int .i64 0, .slice none 0 0, .slice none 0 0, .string ⟨#[]⟩, .int .i64 0, .int .i64 0, .int .i64 0, .slice none 0 0, .slice none 0 0, .string ⟨#[]⟩]).alloc _)
  have hbw : Below w.heap.size w ((w.alloc (.cells #[.int .i64 0, .int .i64 0, .int .i64 0, .int .i64 0, .int .i64 0, .int .i64 0, .slice none 0 0, .slice none 0 0, .string ⟨#[]⟩, .int .i64 0, .int .i64 0, .int .i64 0, .slice none 0 0, .slice none 0 0, .string ⟨#[]⟩] 33)).alloc (.cells #[.int .i64 0, .int .i64 0, .int .i64 0, .int .i64 0, .int .i64 0, .int .i64 0, .slice none 0 0, .slice none 0 0, .string ⟨#[]⟩, .int .i64 0, .int .i64 0, .int .i64 0, .slice none 0 0, .slice none 0 0, .string ⟨#[]⟩] 33)) := ((Below.refl _ _).alloc (Nat.le_refl _) _).alloc (by simp) _
  have HTZ : Hid (World.there ((w.alloc (.cells #[.int .i64 0, .int .i64 0, .int .i64 0, .int .i64 0, .int .i64 0, .int .i64 0, .slice none 0 0, .slice none 0 0, .string ⟨#[]⟩, .int .i64 0, .int .i64 0, .int .i64 0, .slice none 0 0, .slice none 0 0, .string ⟨#[]⟩] 33)).alloc (.cells #[.int .i64 0, .int .i64 0, .int .i64 0, .int .i64 0, .int .i64 0, .int .i64 0, .slice none 0 0, .slice none 0 0, .string ⟨#[]⟩, .int .i64 0, .int .i64 0, .int .i64 0, .slice none 0 0, .slice none 0 0, .string ⟨#[]⟩] 33)) (w.heap.size + 1) 0 (List.toArray ([.int .i64 0, .int .i64 0, .int .i64 0, .int .i64 0, .int .i64 0, .int .i64 0, .slice none 0 0, .slice none 0 0, .string ⟨#[]⟩, .int .i64 0, .int .i64 0, .int .i64 0, .slice none 0 0, .slice none 0 0, .string ⟨#[]⟩] : List Value)).size) := Lib.hid (HX.out.there 0 15 (by simp))
  have hsZ : Hid ((Try.prog.info? 33).map (·.size) = some (List.toArray ([.int .i64 0, .int .i64 0, .int .i64 0, .int .i64 0, .int .i64 0, .int .i64 0, .slice none 0 0, .slice none 0 0, .string ⟨#[]⟩, .int .i64 0, .int .i64 0, .int .i64 0, .slice none 0 0, .slice none 0 0, .string ⟨#[]⟩] : List Value)).size) := Lib.hid (by kernel_rfl)
  have h1Z : Hid ((List.toArray ([.int .i64 0, .int .i64 0, .int .i64 0, .int .i64 0, .int .i64 0, .int .i64 0, .slice none 0 0, .slice none 0 0, .string ⟨#[]⟩, .int .i64 0, .int .i64 0, .int .i64 0, .slice none 0 0, .slice none 0 0, .string ⟨#[]⟩] : List Value)).all (·.oneCell') = true) := Lib.hid (all_oneCell_toArray (by simp [Value.oneCell']))
  have hbw3 : Below w.heap.size w (((w.alloc (.cells #[.int .i64 0, .int .i64 0, .int .i64 0, .int .i64 0, .int .i64 0, .int .i64 0, .slice none 0 0, .slice none 0 0, .string ⟨#[]⟩, .int .i64 0, .int .i64 0, .int .i64 0, .slice none 0 0, .slice none 0 0, .string ⟨#[]⟩] 33)).alloc (.cells #[.int .i64 0, .int .i64 0, .int .i64 0, .int .i64 0, .int .i64 0, .int .i64 0, .slice none 0 0, .slice none 0 0, .string ⟨#[]⟩, .int .i64 0, .int .i64 0, .int .i64 0, .slice none 0 0, .slice none 0 0, .string ⟨#[]⟩] 33)).setCells (w.heap.size + 1) 0 [.int .i64 0, .int .i64 0, .int .i64 0, .int .i64 0, .int .i64 0, .int .i64 0, .slice none 0 0, .slice none 0 0, .string ⟨#[]⟩, .int .i64 0, .int .i64 0, .int .i64 0, .slice none 0 0, .slice none 0 0, .string ⟨#[]⟩]) := hbw.trans (below_setCells_ hgx 0 [.int .i64 0, .int .i64 0, .int .i64 0, .int .i64 0, .int .i64 0, .int .i64 0, .slice none 0 0, .slice none 0 0, .string ⟨#[]⟩, .int .i64 0, .int .i64 0, .int .i64 0, .slice none 0 0, .slice none 0 0, .string ⟨#[]⟩])
  have HR := Lib.hid (h.below_ hbw3)
  have HB : Hid (Below base w (((w.alloc (.cells #[.int .i64 0, .int .i64 0, .int .i64 0, .int .i64 0, .int .i64 0, .int .i64 0, .slice none 0 0, .slice none 0 0, .string ⟨#[]⟩, .int .i64 0, .int .i64 0, .int .i64 0, .slice none 0 0, .slice none 0 0, .string ⟨#[]⟩] 33)).alloc (.cells #[.int .i64 0, .int .i64 0, .int .i64 0, .int .i64 0, .int .i64 0, .int .i64 0, .slice none 0 0, .slice none 0 0, .string ⟨#[]⟩, .int .i64 0, .int .i64 0, .int .i64 0, .slice none 0 0, .slice none 0 0, .string ⟨#[]⟩] 33)).setCells (w.heap.size + 1) 0 [.int .i64 0, .int .i64 0, .int .i64 0, .int .i64 0, .int .i64 0, .int .i64 0, .slice none 0 0, .slice none 0 0, .string ⟨#[]⟩, .int .i64 0, .int .i64 0, .int .i64 0, .slice none 0 0, .slice none 0 0, .string ⟨#[]⟩])) := Lib.hid (hbw3.mono hbs)
  have HK : Hid (Keeps [144, 142] w (((w.alloc (.cells #[.int .i64 0, .int .i64 0, .int .i64 0, .int .i64 0, .int .i64 0, .int .i64 0, .slice none 0 0, .slice none 0 0, .string ⟨#[]⟩, .int .i64 0, .int .i64 0, .int .i64 0, .slice none 0 0, .slice none 0 0, .string ⟨#[]⟩] 33)).alloc (.cells #[.int .i64 0, .int .i64 0, .int .i64 0, .int .i64 0, .int .i64 0, .int .i64 0, .slice none 0 0, .slice none 0 0, .string ⟨#[]⟩, .int .i64 0, .int .i64 0, .int .i64 0, .slice none 0 0, .slice none 0 0, .string ⟨#[]⟩] 33)).setCells (w.heap.size + 1) 0 [.int .i64 0, .int .i64 0, .int .i64 0, .int .i64 0, .int .i64 0, .int .i64 0, .slice none 0 0, .slice none 0 0, .string ⟨#[]⟩, .int .i64 0, .int .i64 0, .int .i64 0, .slice none 0 0, .slice none 0 0, .string ⟨#[]⟩])) := Lib.hid (Keeps.of_below hbw3 (Nat.le_refl _))
  replace HX : Hid (Blk (((w.alloc (.cells #[.int .i64 0, .int .i64 0, .int .i64 0, .int .i64 0, .int .i64 0, .int .i64 0, .slice none 0 0, .slice none 0 0, .string ⟨#[]⟩, .int .i64 0, .int .i64 0, .int .i64 0, .slice none 0 0, .slice none 0 0, .string ⟨#[]⟩] 33)).alloc (.cells #[.int .i64 0, .int .i64 0, .int .i64 0, .int .i64 0, .int .i64 0, .int .i64 0, .slice none 0 0, .slice none 0 0, .string ⟨#[]⟩, .int .i64 0, .int .i64 0, .int .i64 0, .slice none 0 0, .slice none 0 0, .string ⟨#[]⟩] 33)).setCells (w.heap.size + 1) 0 [.int .i64 0, .int .i64 0, .int .i64 0, .int .i64 0, .int .i64 0, .int .i64 0, .slice none 0 0, .slice none 0 0, .string ⟨#[]⟩, .int .i64 0, .int .i64 0, .int .i64 0, .slice none 0 0, .slice none 0 0, .string ⟨#[]⟩]) (w.heap.size + 1) 33 [.int .i64 0, .int .i64 0, .int .i64 0, .int .i64 0, .int .i64 0, .int .i64 0, .slice none 0 0, .slice none 0 0, .string ⟨#[]⟩, .int .i64 0, .int .i64 0, .int .i64 0, .slice none 0 0, .slice none 0 0, .string ⟨#[]⟩]) := Lib.hid (HX.out.setCells0 [.int .i64 0, .int .i64 0, .int .i64 0, .int .i64 0, .int .i64 0, .int .i64 0, .slice none 0 0, .slice none 0 0, .string ⟨#[]⟩, .int .i64 0, .int .i64 0, .int .i64 0, .slice none 0 0, .slice none 0 0, .string ⟨#[]⟩] rfl)
  replace HRes : Hid (Blk (((w.alloc (.cells #[.int .i64 0, .int .i64 0, .int .i64 0, .int .i64 0, .int .i64 0, .int .i64 0, .slice none 0 0, .slice none 0 0, .string ⟨#[]⟩, .int .i64 0, .int .i64 0, .int .i64 0, .slice none 0 0, .slice none 0 0, .string ⟨#[]⟩] 33)).alloc (.cells #[.int .i64 0, .int .i64 0, .int .i64 0, .int .i64 0, .int .i64 0, .int .i64 0, .slice none 0 0, .slice none 0 0, .string ⟨#[]⟩, .int .i64 0, .int .i64 0, .int .i64 0, .slice none 0 0, .slice none 0 0, .string ⟨#[]⟩] 33)).setCells (w.heap.size + 1) 0 [.int .i64 0, .int .i64 0, .int .i64 0, .int .i64 0, .int .i64 0, .int .i64 0, .slice none 0 0, .slice none 0 0, .string ⟨#[]⟩, .int .i64 0, .int .i64 0, .int .i64 0, .slice none 0 0, .slice none 0 0, .string ⟨#[]⟩]) w.heap.size 33 [.int .i64 0, .int .i64 0, .int .i64 0, .int .i64 0, .int .i64 0, .int .i64 0, .slice none 0 0, .slice none 0 0, .string ⟨#[]⟩, .int .i64 0, .int .i64 0, .int .i64 0, .slice none 0 0, .slice none 0 0, .string ⟨#[]⟩]) := Lib.hid (Blk.far_setCells (by omega) 0 [.int .i64 0, .int .i64 0, .int .i64 0, .int .i64 0, .int .i64 0, .int .i64 0, .slice none 0 0, .slice none 0 0, .string ⟨#[]⟩, .int .i64 0, .int .i64 0, .int .i64 0, .slice none 0 0, .slice none 0 0, .string ⟨#[]⟩] HRes.out)
  clear h hbw hbw3
  go_enter Try.func56, Try.ntmps56
  go_wp2_with (with_reducible refine wpList_store_mid rfl 33 _ _ rfl (w.heap.size + 1) 0 (List.toArray ([.int .i64 0, .int .i64 0, .int .i64 0, .int .i64 0, .int .i64 0, .int .i64 0, .slice none 0 0, .slice none 0 0, .string ⟨#[]⟩, .int .i64 0, .int .i64 0, .int .i64 0, .slice none 0 0, .slice none 0 0, .string ⟨#[]⟩] : List Value)) rfl rfl HTZ.out hsZ.out h1Z.out ?_)
  refine (C_num base g (o) _ HR.out).mono ?_
  rintro e w0 ⟨⟨v, rfl, _⟩, hA, hK⟩
  obtain ⟨nw0, rfl⟩ : ∃ x, x = v := ⟨v, rfl⟩
  replace HR := Lib.hid hA
  replace HB := Lib.hid (HB.out.trans hK.below)
  replace HK := Lib.hid (HK.out.trans hK.keeps)
  replace HX := Lib.hid (HX.out.keeps hK.keeps (by decide))
  replace HRes := Lib.hid (HRes.out.keeps hK.keeps (by decide))
  have hszw0 := HK.out.size
  clear hA hK
  have hcxw0_0 : w0.cell? ⟨w.heap.size + 1, 0, none⟩ = some (.int .i64 0) := HX.out.cell 0
  have hfzw0_0 : w0.frozen? ⟨w.heap.size + 1, 0, none⟩ = false := HX.out.frozen 0
  have HY : Hid (Blk (w0.setCell ⟨w.heap.size + 1, 0, none⟩ (.int .i64 nw0)) (w.heap.size + 1) 33 [.int .i64 nw0, .int .i64 0, .int .i64 0, .int .i64 0, .int .i64 0, .int .i64 0, .slice none 0 0, .slice none 0 0, .string ⟨#[]⟩, .int .i64 0, .int .i64 0, .int .i64 0, .slice none 0 0, .slice none 0 0, .string ⟨#[]⟩]) := Lib.hid (HX.out.set_ 0 (.int .i64 nw0))
  have HKA : Hid (Keeps [33] w0 (w0.setCell ⟨w.heap.size + 1, 0, none⟩ (.int .i64 nw0))) := Lib.hid ((Keeps.refl _ _).trans (Keeps.set_ HX.out.typ (by simp) (.int .i64 nw0)))
  have HBA : Hid (Below w.heap.size w0 (w0.setCell ⟨w.heap.size + 1, 0, none⟩ (.int .i64 nw0))) := Lib.hid ((Below.refl w.heap.size w0).setCell hgx _)
  replace HRes := Lib.hid (HRes.out.far (p := ⟨w.heap.size + 1, 0, none⟩) (by dsimp only; omega) (.int .i64 nw0))
  replace HX := HY
  replace HR := Lib.hid (HR.out.keeps HKA.out (HBA.out.mono hbs) (by decide) (by decide))
  replace HB := Lib.hid (HB.out.trans (HBA.out.mono hbs))
  replace HK := Lib.hid (HK.out.below_new HBA.out)
  clear HY HKA HBA
  go_wp2_with fail
  refine (C_num base g (stepO .num (o)) _ HR.out).mono ?_
  rintro e w1 ⟨⟨v, rfl, _⟩, hA, hK⟩
  obtain ⟨nw1, rfl⟩ : ∃ x, x = v := ⟨v, rfl⟩
  replace HR := Lib.hid hA
  replace HB := Lib.hid (HB.out.trans hK.below)
  replace HK := Lib.hid (HK.out.trans hK.keeps)
  replace HX := Lib.hid (HX.out.keeps hK.keeps (by decide))
  replace HRes := Lib.hid (HRes.out.keeps hK.keeps (by decide))
  have hszw1 := HK.out.size
  clear hA hK
  have hcxw1_0 : w1.cell? ⟨w.heap.size + 1, 1, none⟩ = some (.int .i64 0) := HX.out.cell 1
  have hfzw1_0 : w1.frozen? ⟨w.heap.size + 1, 1, none⟩ = false := HX.out.frozen 1
  have HY : Hid (Blk (w1.setCell ⟨w.heap.size + 1, 1, none⟩ (.int .i64 nw1)) (w.heap.size + 1) 33 [.int .i64 nw0, .int .i64 nw1, .int .i64 0, .int .i64 0, .int .i64 0, .int .i64 0, .slice none 0 0, .slice none 0 0, .string ⟨#[]⟩, .int .i64 0, .int .i64 0, .int .i64 0, .slice none 0 0, .slice none 0 0, .string ⟨#[]⟩]) := Lib.hid (HX.out.set_ 1 (.int .i64 nw1))
  have HKA : Hid (Keeps [33] w1 (w1.setCell ⟨w.heap.size + 1, 1, none⟩ (.int .i64 nw1))) := Lib.hid ((Keeps.refl _ _).trans (Keeps.set_ HX.out.typ (by simp) (.int .i64 nw1)))
  have HBA : Hid (Below w.heap.size w1 (w1.setCell ⟨w.heap.size + 1, 1, none⟩ (.int .i64 nw1))) := Lib.hid ((Below.refl w.heap.size w1).setCell hgx _)
  replace HRes := Lib.hid (HRes.out.far (p := ⟨w.heap.size + 1, 1, none⟩) (by dsimp only; omega) (.int .i64 nw1))
  replace HX := HY
  replace HR := Lib.hid (HR.out.keeps HKA.out (HBA.out.mono hbs) (by decide) (by decide))
  replace HB := Lib.hid (HB.out.trans (HBA.out.mono hbs))
  replace HK := Lib.hid (HK.out.below_new HBA.out)
  clear HY HKA HBA
  go_wp2_with fail
  refine (C_num base g (stepO .num (stepO .num (o))) _ HR.out).mono ?_
  rintro e w2 ⟨⟨v, rfl, _⟩, hA, hK⟩
  obtain ⟨nw2, rfl⟩ : ∃ x, x = v := ⟨v, rfl⟩
  replace HR := Lib.hid hA
  replace HB := Lib.hid (HB.out.trans hK.below)
  replace HK := Lib.hid (HK.out.trans hK.keeps)
  replace HX := Lib.hid (HX.out.keeps hK.keeps (by decide))
  replace HRes := Lib.hid (HRes.out.keeps hK.keeps (by decide))
  have hszw2 := HK.out.size
  clear hA hK
  have hcxw2_0 : w2.cell? ⟨w.heap.size + 1, 2, none⟩ = some (.int .i64 0) := HX.out.cell 2
  have hfzw2_0 : w2.frozen? ⟨w.heap.size + 1, 2, none⟩ = false := HX.out.frozen 2
  have HY : Hid (Blk (w2.setCell ⟨w.heap.size + 1, 2, none⟩ (.int .i64 nw2)) (w.heap.size + 1) 33 [.int .i64 nw0, .int .i64 nw1, .int .i64 nw2, .int .i64 0, .int .i64 0, .int .i64 0, .slice none 0 0, .slice none 0 0, .string ⟨#[]⟩, .int .i64 0, .int .i64 0, .int .i64 0, .slice none 0 0, .slice none 0 0, .string ⟨#[]⟩]) := Lib.hid (HX.out.set_ 2 (.int .i64 nw2))
  have HKA : Hid (Keeps [33] w2 (w2.setCell ⟨w.heap.size + 1, 2, none⟩ (.int .i64 nw2))) := Lib.hid ((Keeps.refl _ _).trans (Keeps.set_ HX.out.typ (by simp) (.int .i64 nw2)))
  have HBA : Hid (Below w.heap.size w2 (w2.setCell ⟨w.heap.size + 1, 2, none⟩ (.int .i64 nw2))) := Lib.hid ((Below.refl w.heap.size w2).setCell hgx _)
  replace HRes := Lib.hid (HRes.out.far (p := ⟨w.heap.size + 1, 2, none⟩) (by dsimp only; omega) (.int .i64 nw2))
  replace HX := HY
  replace HR := Lib.hid (HR.out.keeps HKA.out (HBA.out.mono hbs) (by decide) (by decide))
  replace HB := Lib.hid (HB.out.trans (HBA.out.mono hbs))
  replace HK := Lib.hid (HK.out.below_new HBA.out)
  clear HY HKA HBA
  go_wp2_with fail
  refine (C_num base g (stepO .num (stepO .num (stepO .num (o)))) _ HR.out).mono ?_
  rintro e w3 ⟨⟨v, rfl, _⟩, hA, hK⟩
  obtain ⟨nw3, rfl⟩ : ∃ x, x = v := ⟨v, rfl⟩
  replace HR := Lib.hid hA
  replace HB := Lib.hid (HB.out.trans hK.below)
  replace HK := Lib.hid (HK.out.trans hK.keeps)
  replace HX := Lib.hid (HX.out.keeps hK.keeps (by decide))
  replace HRes := Lib.hid (HRes.out.keeps hK.keeps (by decide))
  have hszw3 := HK.out.size
  clear hA hK
  have hcxw3_0 : w3.cell? ⟨w.heap.size + 1, 3, none⟩ = some (.int .i64 0) := HX.out.cell 3
  have hfzw3_0 : w3.frozen? ⟨w.heap.size + 1, 3, none⟩ = false := HX.out.frozen 3
  have HY : Hid (Blk (w3.setCell ⟨w.heap.size + 1, 3, none⟩ (.int .i64 nw3)) (w.heap.size + 1) 33 [.int .i64 nw0, .int .i64 nw1, .int .i64 nw2, .int .i64 nw3, .int .i64 0, .int .i64 0, .slice none 0 0, .slice none 0 0, .string ⟨#[]⟩, .int .i64 0, .int .i64 0, .int .i64 0, .slice none 0 0, .slice none 0 0, .string ⟨#[]⟩]) := Lib.hid (HX.out.set_ 3 (.int .i64 nw3))
  have HKA : Hid (Keeps [33] w3 (w3.setCell ⟨w.heap.size + 1, 3, none⟩ (.int .i64 nw3))) := Lib.hid ((Keeps.refl _ _).trans (Keeps.set_ HX.out.typ (by simp) (.int .i64 nw3)))
  have HBA : Hid (Below w.heap.size w3 (w3.setCell ⟨w.heap.size + 1, 3, none⟩ (.int .i64 nw3))) := Lib.hid ((Below.refl w.heap.size w3).setCell hgx _)
  replace HRes := Lib.hid (HRes.out.far (p := ⟨w.heap.size + 1, 3, none⟩) (by dsimp only; omega) (.int .i64 nw3))
  replace HX := HY
  replace HR := Lib.hid (HR.out.keeps HKA.out (HBA.out.mono hbs) (by decide) (by decide))
  replace HB := Lib.hid (HB.out.trans (HBA.out.mono hbs))
  replace HK := Lib.hid (HK.out.below_new HBA.out)
  clear HY HKA HBA
  go_wp2_with fail
  refine (C_num base g (stepO .num (stepO .num (stepO .num (stepO .num (o))))) _ HR.out).mono ?_
  rintro e w4 ⟨⟨v, rfl, _⟩, hA, hK⟩
  obtain ⟨nw4, rfl⟩ : ∃ x, x = v := ⟨v, rfl⟩
  replace HR := Lib.hid hA
  replace HB := Lib.hid (HB.out.trans hK.below)
  replace HK := Lib.hid (HK.out.trans hK.keeps)
  replace HX := Lib.hid (HX.out.keeps hK.keeps (by decide))
  replace HRes := Lib.hid (HRes.out.keeps hK.keeps (by decide))
  have hszw4 := HK.out.size
  clear hA hK
  have hcxw4_0 : w4.cell? ⟨w.heap.size + 1, 4, none⟩ = some (.int .i64 0) := HX.out.cell 4
  have hfzw4_0 : w4.frozen? ⟨w.heap.size + 1, 4, none⟩ = false := HX.out.frozen 4
  have HY : Hid (Blk (w4.setCell ⟨w.heap.size + 1, 4, none⟩ (.int .i64 nw4)) (w.heap.size + 1) 33 [.int .i64 nw0, .int .i64 nw1, .int .i64 nw2, .int .i64 nw3, .int .i64 nw4, .int .i64 0, .slice none 0 0, .slice none 0 0, .string ⟨#[]⟩, .int .i64 0, .int .i64 0, .int .i64 0, .slice none 0 0, .slice none 0 0, .string ⟨#[]⟩]) := Lib.hid (HX.out.set_ 4 (.int .i64 nw4))
  have HKA : Hid (Keeps [33] w4 (w4.setCell ⟨w.heap.size + 1, 4, none⟩ (.int .i64 nw4))) := Lib.hid ((Keeps.refl _ _).trans (Keeps.set_ HX.out.typ (by simp) (.int .i64 nw4)))
  have HBA : Hid (Below w.heap.size w4 (w4.setCell ⟨w.heap.size + 1, 4, none⟩ (.int .i64 nw4))) := Lib.hid ((Below.refl w.heap.size w4).setCell hgx _)
  replace HRes := Lib.hid (HRes.out.far (p := ⟨w.heap.size + 1, 4, none⟩) (by dsimp only; omega) (.int .i64 nw4))
  replace HX := HY
  replace HR := Lib.hid (HR.out.keeps HKA.out (HBA.out.mono hbs) (by decide) (by decide))
  replace HB := Lib.hid (HB.out.trans (HBA.out.mono hbs))
  replace HK := Lib.hid (HK.out.below_new HBA.out)
  clear HY HKA HBA
  go_wp2_with fail
  refine (C_num base g (stepO .num (stepO .num (stepO .num (stepO .num (stepO .num (o)))))) _ HR.out).mono ?_
  rintro e w5 ⟨⟨v, rfl, _⟩, hA, hK⟩
  obtain ⟨nw5, rfl⟩ : ∃ x, x = v := ⟨v, rfl⟩
  replace HR := Lib.hid hA
  replace HB := Lib.hid (HB.out.trans hK.below)
  replace HK := Lib.hid (HK.out.trans hK.keeps)
  replace HX := Lib.hid (HX.out.keeps hK.keeps (by decide))
  replace HRes := Lib.hid (HRes.out.keeps hK.keeps (by decide))
  have hszw5 := HK.out.size
  clear hA hK
  have hcxw5_0 : w5.cell? ⟨w.heap.size + 1, 5, none⟩ = some (.int .i64 0) := HX.out.cell 5
  have hfzw5_0 : w5.frozen? ⟨w.heap.size + 1, 5, none⟩ = false := HX.out.frozen 5
  have HY : Hid (Blk (w5.setCell ⟨w.heap.size + 1, 5, none⟩ (.int .i64 nw5)) (w.heap.size + 1) 33 [.int .i64 nw0, .int .i64 nw1, .int .i64 nw2, .int .i64 nw3, .int .i64 nw4, .int .i64 nw5, .slice none 0 0, .slice none 0 0, .string ⟨#[]⟩, .int .i64 0, .int .i64 0, .int .i64 0, .slice none 0 0, .slice none 0 0, .string ⟨#[]⟩]) := Lib.hid (HX.out.set_ 5 (.int .i64 nw5))
  have HKA : Hid (Keeps [33] w5 (w5.setCell ⟨w.heap.size + 1, 5, none⟩ (.int .i64 nw5))) := Lib.hid ((Keeps.refl _ _).trans (Keeps.set_ HX.out.typ (by simp) (.int .i64 nw5)))
  have HBA : Hid (Below w.heap.size w5 (w5.setCell ⟨w.heap.size + 1, 5, none⟩ (.int .i64 nw5))) := Lib.hid ((Below.refl w.heap.size w5).setCell hgx _)
  replace HRes := Lib.hid (HRes.out.far (p := ⟨w.heap.size + 1, 5, none⟩) (by dsimp only; omega) (.int .i64 nw5))
  replace HX := HY
  replace HR := Lib.hid (HR.out.keeps HKA.out (HBA.out.mono hbs) (by decide) (by decide))
  replace HB := Lib.hid (HB.out.trans (HBA.out.mono hbs))
  replace HK := Lib.hid (HK.out.below_new HBA.out)
  clear HY HKA HBA
  go_wp2_with fail
  refine (C_config base g (stepO .num (stepO .num (stepO .num (stepO .num (stepO .num (stepO .num (o))))))) _ HR.out).mono ?_
  rintro e w6 ⟨⟨vs, rfl, hv⟩, hA, hK⟩
  replace hv : Kinds [.rows [.num], .rows [.num]] vs := hv
  obtain ⟨_, vs, rfl, c6, hv⟩ := hv
  obtain ⟨_, vs, rfl, c7, hv⟩ := hv
  obtain rfl : vs = [] := hv
  obtain ⟨Aw6, mw6, kw6, rfl⟩ := c6
  obtain ⟨Aw7, mw7, kw7, rfl⟩ := c7
  simp only [shConfig, stepS_cons, stepS_nil] at hA
  replace HR := Lib.hid hA
  replace HB := Lib.hid (HB.out.trans hK.below)
  replace HK := Lib.hid (HK.out.trans hK.keeps)
  replace HX := Lib.hid (HX.out.keeps hK.keeps (by decide))
  replace HRes := Lib.hid (HRes.out.keeps hK.keeps (by decide))
  have hszw6 := HK.out.size
  clear hA hK
  have hcxw6_0 : w6.cell? ⟨w.heap.size + 1, 6, none⟩ = some (.slice none 0 0) := HX.out.cell 6
  have hfzw6_0 : w6.frozen? ⟨w.heap.size + 1, 6, none⟩ = false := HX.out.frozen 6
  have hcxw6_1 : w6.cell? ⟨w.heap.size + 1, 7, none⟩ = some (.slice none 0 0) := HX.out.cell 7
  have hfzw6_1 : w6.frozen? ⟨w.heap.size + 1, 7, none⟩ = false := HX.out.frozen 7
  have HY : Hid (Blk ((w6.setCell ⟨w.heap.size + 1, 6, none⟩ (.slice Aw6 mw6 kw6)).setCell ⟨w.heap.size + 1, 7, none⟩ (.slice Aw7 mw7 kw7)) (w.heap.size + 1) 33 [.int .i64 nw0, .int .i64 nw1, .int .i64 nw2, .int .i64 nw3, .int .i64 nw4, .int .i64 nw5, .slice Aw6 mw6 kw6, .slice Aw7 mw7 kw7, .string ⟨#[]⟩, .int .i64 0, .int .i64 0, .int .i64 0, .slice none 0 0, .slice none 0 0, .string ⟨#[]⟩]) := Lib.hid ((HX.out.set_ 6 (.slice Aw6 mw6 kw6)).set_ 7 (.slice Aw7 mw7 kw7))
  have HKA : Hid (Keeps [33] w6 ((w6.setCell ⟨w.heap.size + 1, 6, none⟩ (.slice Aw6 mw6 kw6)).setCell ⟨w.heap.size + 1, 7, none⟩ (.slice Aw7 mw7 kw7))) := Lib.hid (((Keeps.refl _ _).trans (Keeps.set_ HX.out.typ (by simp) (.slice Aw6 mw6 kw6))).trans (Keeps.set_ (HX.out.set_ 6 (.slice Aw6 mw6 kw6)).typ (by simp) (.slice Aw7 mw7 kw7)))
  have HBA : Hid (Below w.heap.size w6 ((w6.setCell ⟨w.heap.size + 1, 6, none⟩ (.slice Aw6 mw6 kw6)).setCell ⟨w.heap.size + 1, 7, none⟩ (.slice Aw7 mw7 kw7))) := Lib.hid (((Below.refl w.heap.size w6).setCell hgx _).setCell hgx _)
  replace HRes := Lib.hid ((HRes.out.far (p := ⟨w.heap.size + 1, 6, none⟩) (by dsimp only; omega) (.slice Aw6 mw6 kw6)).far (p := ⟨w.heap.size + 1, 7, none⟩) (by dsimp only; omega) (.slice Aw7 mw7 kw7))
  replace HX := HY
  replace HR := Lib.hid (HR.out.keeps HKA.out (HBA.out.mono hbs) (by decide) (by decide))
  replace HB := Lib.hid (HB.out.trans (HBA.out.mono hbs))
  replace HK := Lib.hid (HK.out.below_new HBA.out)
  clear HY HKA HBA
  go_wp2_with fail
  refine (C_text base g (stepO (.rows [.num]) (stepO (.rows [.num]) (stepO .num (stepO .num (stepO .num (stepO .num (stepO .num (stepO .num (o))))))))) _ HR.out).mono ?_
  rintro e w7 ⟨⟨v, rfl, _⟩, hA, hK⟩
  obtain ⟨bw8, rfl⟩ : ∃ x, x = v := ⟨v, rfl⟩
  replace HR := Lib.hid hA
  replace HB := Lib.hid (HB.out.trans hK.below)
  replace HK := Lib.hid (HK.out.trans hK.keeps)
  replace HX := Lib.hid (HX.out.keeps hK.keeps (by decide))
  replace HRes := Lib.hid (HRes.out.keeps hK.keeps (by decide))
  have hszw7 := HK.out.size
  clear hA hK
  have hcxw7_0 : w7.cell? ⟨w.heap.size + 1, 8, none⟩ = some (.string ⟨#[]⟩) := HX.out.cell 8
  have hfzw7_0 : w7.frozen? ⟨w.heap.size + 1, 8, none⟩ = false := HX.out.frozen 8
  have HY : Hid (Blk (w7.setCell ⟨w.heap.size + 1, 8, none⟩ (.string bw8)) (w.heap.size + 1) 33 [.int .i64 nw0, .int .i64 nw1, .int .i64 nw2, .int .i64 nw3, .int .i64 nw4, .int .i64 nw5, .slice Aw6 mw6 kw6, .slice Aw7 mw7 kw7, .string bw8, .int .i64 0, .int .i64 0, .int .i64 0, .slice none 0 0, .slice none 0 0, .string ⟨#[]⟩]) := Lib.hid (HX.out.set_ 8 (.string bw8))
  have HKA : Hid (Keeps [33] w7 (w7.setCell ⟨w.heap.size + 1, 8, none⟩ (.string bw8))) := Lib.hid ((Keeps.refl _ _).trans (Keeps.set_ HX.out.typ (by simp) (.string bw8)))
  have HBA : Hid (Below w.heap.size w7 (w7.setCell ⟨w.heap.size + 1, 8, none⟩ (.string bw8))) := Lib.hid ((Below.refl w.heap.size w7).setCell hgx _)
  replace HRes := Lib.hid (HRes.out.far (p := ⟨w.heap.size + 1, 8, none⟩) (by dsimp only; omega) (.string bw8))
  replace HX := HY
  replace HR := Lib.hid (HR.out.keeps HKA.out (HBA.out.mono hbs) (by decide) (by decide))
  replace HB := Lib.hid (HB.out.trans (HBA.out.mono hbs))
  replace HK := Lib.hid (HK.out.below_new HBA.out)
  clear HY HKA HBA
  go_wp2_with fail
  refine (C_num base g (stepO .text (stepO (.rows [.num]) (stepO (.rows [.num]) (stepO .num (stepO .num (stepO .num (stepO .num (stepO .num (stepO .num (o)))))))))) _ HR.out).mono ?_
  rintro e w8 ⟨⟨v, rfl, _⟩, hA, hK⟩
  obtain ⟨nw9, rfl⟩ : ∃ x, x = v := ⟨v, rfl⟩
  replace HR := Lib.hid hA
  replace HB := Lib.hid (HB.out.trans hK.below)
  replace HK := Lib.hid (HK.out.trans hK.keeps)
  replace HX := Lib.hid (HX.out.keeps hK.keeps (by decide))
  replace HRes := Lib.hid (HRes.out.keeps hK.keeps (by decide))
  have hszw8 := HK.out.size
  clear hA hK
  have hcxw8_0 : w8.cell? ⟨w.heap.size + 1, 9, none⟩ = some (.int .i64 0) := HX.out.cell 9
  have hfzw8_0 : w8.frozen? ⟨w.heap.size + 1, 9, none⟩ = false := HX.out.frozen 9
  have HY : Hid (Blk (w8.setCell ⟨w.heap.size + 1, 9, none⟩ (.int .i64 nw9)) (w.heap.size + 1) 33 [.int .i64 nw0, .int .i64 nw1, .int .i64 nw2, .int .i64 nw3, .int .i64 nw4, .int .i64 nw5, .slice Aw6 mw6 kw6, .slice Aw7 mw7 kw7, .string bw8, .int .i64 nw9, .int .i64 0, .int .i64 0, .slice none 0 0, .slice none 0 0, .string ⟨#[]⟩]) := Lib.hid (HX.out.set_ 9 (.int .i64 nw9))
  have HKA : Hid (Keeps [33] w8 (w8.setCell ⟨w.heap.size + 1, 9, none⟩ (.int .i64 nw9))) := Lib.hid ((Keeps.refl _ _).trans (Keeps.set_ HX.out.typ (by simp) (.int .i64 nw9)))
  have HBA : Hid (Below w.heap.size w8 (w8.setCell ⟨w.heap.size + 1, 9, none⟩ (.int .i64 nw9))) := Lib.hid ((Below.refl w.heap.size w8).setCell hgx _)
  replace HRes := Lib.hid (HRes.out.far (p := ⟨w.heap.size + 1, 9, none⟩) (by dsimp only; omega) (.int .i64 nw9))
  replace HX := HY
  replace HR := Lib.hid (HR.out.keeps HKA.out (HBA.out.mono hbs) (by decide) (by decide))
  replace HB := Lib.hid (HB.out.trans (HBA.out.mono hbs))
  replace HK := Lib.hid (HK.out.below_new HBA.out)
  clear HY HKA HBA
  go_wp2_with fail
  refine (C_num base g (stepO .num (stepO .text (stepO (.rows [.num]) (stepO (.rows [.num]) (stepO .num (stepO .num (stepO .num (stepO .num (stepO .num (stepO .num (o))))))))))) _ HR.out).mono ?_
  rintro e w9 ⟨⟨v, rfl, _⟩, hA, hK⟩
  obtain ⟨nw10, rfl⟩ : ∃ x, x = v := ⟨v, rfl⟩
  replace HR := Lib.hid hA
  replace HB := Lib.hid (HB.out.trans hK.below)
  replace HK := Lib.hid (HK.out.trans hK.keeps)
  replace HX := Lib.hid (HX.out.keeps hK.keeps (by decide))
  replace HRes := Lib.hid (HRes.out.keeps hK.keeps (by decide))
  have hszw9 := HK.out.size
  clear hA hK
  have hcxw9_0 : w9.cell? ⟨w.heap.size + 1, 10, none⟩ = some (.int .i64 0) := HX.out.cell 10
  have hfzw9_0 : w9.frozen? ⟨w.heap.size + 1, 10, none⟩ = false := HX.out.frozen 10
  have HY : Hid (Blk (w9.setCell ⟨w.heap.size + 1, 10, none⟩ (.int .i64 nw10)) (w.heap.size + 1) 33 [.int .i64 nw0, .int .i64 nw1, .int .i64 nw2, .int .i64 nw3, .int .i64 nw4, .int .i64 nw5, .slice Aw6 mw6 kw6, .slice Aw7 mw7 kw7, .string bw8, .int .i64 nw9, .int .i64 nw10, .int .i64 0, .slice none 0 0, .slice none 0 0, .string ⟨#[]⟩]) := Lib.hid (HX.out.set_ 10 (.int .i64 nw10))
  have HKA : Hid (Keeps [33] w9 (w9.setCell ⟨w.heap.size + 1, 10, none⟩ (.int .i64 nw10))) := Lib.hid ((Keeps.refl _ _).trans (Keeps.set_ HX.out.typ (by simp) (.int .i64 nw10)))
  have HBA : Hid (Below w.heap.size w9 (w9.setCell ⟨w.heap.size + 1, 10, none⟩ (.int .i64 nw10))) := Lib.hid ((Below.refl w.heap.size w9).setCell hgx _)
  replace HRes := Lib.hid (HRes.out.far (p := ⟨w.heap.size + 1, 10, none⟩) (by dsimp only; omega) (.int .i64 nw10))
  replace HX := HY
  replace HR := Lib.hid (HR.out.keeps HKA.out (HBA.out.mono hbs) (by decide) (by decide))
  replace HB := Lib.hid (HB.out.trans (HBA.out.mono hbs))
  replace HK := Lib.hid (HK.out.below_new HBA.out)
  clear HY HKA HBA
  go_wp2_with fail
  refine (C_num base g (stepO .num (stepO .num (stepO .text (stepO (.rows [.num]) (stepO (.rows [.num]) (stepO .num (stepO .num (stepO .num (stepO .num (stepO .num (stepO .num (o)))))))))))) _ HR.out).mono ?_
  rintro e w10 ⟨⟨v, rfl, _⟩, hA, hK⟩
  obtain ⟨nw11, rfl⟩ : ∃ x, x = v := ⟨v, rfl⟩
  replace HR := Lib.hid hA
  replace HB := Lib.hid (HB.out.trans hK.below)
  replace HK := Lib.hid (HK.out.trans hK.keeps)
  replace HX := Lib.hid (HX.out.keeps hK.keeps (by decide))
  replace HRes := Lib.hid (HRes.out.keeps hK.keeps (by decide))
  have hszw10 := HK.out.size
  clear hA hK
  have hcxw10_0 : w10.cell? ⟨w.heap.size + 1, 11, none⟩ = some (.int .i64 0) := HX.out.cell 11
  have hfzw10_0 : w10.frozen? ⟨w.heap.size + 1, 11, none⟩ = false := HX.out.frozen 11
  have HY : Hid (Blk (w10.setCell ⟨w.heap.size + 1, 11, none⟩ (.int .i64 nw11)) (w.heap.size + 1) 33 [.int .i64 nw0, .int .i64 nw1, .int .i64 nw2, .int .i64 nw3, .int .i64 nw4, .int .i64 nw5, .slice Aw6 mw6 kw6, .slice Aw7 mw7 kw7, .string bw8, .int .i64 nw9, .int .i64 nw10, .int .i64 nw11, .slice none 0 0, .slice none 0 0, .string ⟨#[]⟩]) := Lib.hid (HX.out.set_ 11 (.int .i64 nw11))
  have HKA : Hid (Keeps [33] w10 (w10.setCell ⟨w.heap.size + 1, 11, none⟩ (.int .i64 nw11))) := Lib.hid ((Keeps.refl _ _).trans (Keeps.set_ HX.out.typ (by simp) (.int .i64 nw11)))
  have HBA : Hid (Below w.heap.size w10 (w10.setCell ⟨w.heap.size + 1, 11, none⟩ (.int .i64 nw11))) := Lib.hid ((Below.refl w.heap.size w10).setCell hgx _)
  replace HRes := Lib.hid (HRes.out.far (p := ⟨w.heap.size + 1, 11, none⟩) (by dsimp only; omega) (.int .i64 nw11))
  replace HX := HY
  replace HR := Lib.hid (HR.out.keeps HKA.out (HBA.out.mono hbs) (by decide) (by decide))
  replace HB := Lib.hid (HB.out.trans (HBA.out.mono hbs))
  replace HK := Lib.hid (HK.out.below_new HBA.out)
  clear HY HKA HBA
  go_wp2_with fail
  refine (C_config base g (stepO .num (stepO .num (stepO .num (stepO .text (stepO (.rows [.num]) (stepO (.rows [.num]) (stepO .num (stepO .num (stepO .num (stepO .num (stepO .num (stepO .num (o))))))))))))) _ HR.out).mono ?_
  rintro e w11 ⟨⟨vs, rfl, hv⟩, hA, hK⟩
  replace hv : Kinds [.rows [.num], .rows [.num]] vs := hv
  obtain ⟨_, vs, rfl, c12, hv⟩ := hv
  obtain ⟨_, vs, rfl, c13, hv⟩ := hv
  obtain rfl : vs = [] := hv
  obtain ⟨Aw12, mw12, kw12, rfl⟩ := c12
  obtain ⟨Aw13, mw13, kw13, rfl⟩ := c13
  simp only [shConfig, stepS_cons, stepS_nil] at hA
  replace HR := Lib.hid hA
  replace HB := Lib.hid (HB.out.trans hK.below)
  replace HK := Lib.hid (HK.out.trans hK.keeps)
  replace HX := Lib.hid (HX.out.keeps hK.keeps (by decide))
  replace HRes := Lib.hid (HRes.out.keeps hK.keeps (by decide))
  have hszw11 := HK.out.size
  clear hA hK
  have hcxw11_0 : w11.cell? ⟨w.heap.size + 1, 12, none⟩ = some (.slice none 0 0) := HX.out.cell 12
  have hfzw11_0 : w11.frozen? ⟨w.heap.size + 1, 12, none⟩ = false := HX.out.frozen 12
  have hcxw11_1 : w11.cell? ⟨w.heap.size + 1, 13, none⟩ = some (.slice none 0 0) := HX.out.cell 13
  have hfzw11_1 : w11.frozen? ⟨w.heap.size + 1, 13, none⟩ = false := HX.out.frozen 13
  have HY : Hid (Blk ((w11.setCell ⟨w.heap.size + 1, 12, none⟩ (.slice Aw12 mw12 kw12)).setCell ⟨w.heap.size + 1, 13, none⟩ (.slice Aw13 mw13 kw13)) (w.heap.size + 1) 33 [.int .i64 nw0, .int .i64 nw1, .int .i64 nw2, .int .i64 nw3, .int .i64 nw4, .int .i64 nw5, .slice Aw6 mw6 kw6, .slice Aw7 mw7 kw7, .string bw8, .int .i64 nw9, .int .i64 nw10, .int .i64 nw11, .slice Aw12 mw12 kw12, .slice Aw13 mw13 kw13, .string ⟨#[]⟩]) := Lib.hid ((HX.out.set_ 12 (.slice Aw12 mw12 kw12)).set_ 13 (.slice Aw13 mw13 kw13))
  have HKA : Hid (Keeps [33] w11 ((w11.setCell ⟨w.heap.size + 1, 12, none⟩ (.slice Aw12 mw12 kw12)).setCell ⟨w.heap.size + 1, 13, none⟩ (.slice Aw13 mw13 kw13))) := Lib.hid (((Keeps.refl _ _).trans (Keeps.set_ HX.out.typ (by simp) (.slice Aw12 mw12 kw12))).trans (Keeps.set_ (HX.out.set_ 12 (.slice Aw12 mw12 kw12)).typ (by simp) (.slice Aw13 mw13 kw13)))
  have HBA : Hid (Below w.heap.size w11 ((w11.setCell ⟨w.heap.size + 1, 12, none⟩ (.slice Aw12 mw12 kw12)).setCell ⟨w.heap.size + 1, 13, none⟩ (.slice Aw13 mw13 kw13))) := Lib.hid (((Below.refl w.heap.size w11).setCell hgx _).setCell hgx _)
  replace HRes := Lib.hid ((HRes.out.far (p := ⟨w.heap.size + 1, 12, none⟩) (by dsimp only; omega) (.slice Aw12 mw12 kw12)).far (p := ⟨w.heap.size + 1, 13, none⟩) (by dsimp only; omega) (.slice Aw13 mw13 kw13))
  replace HX := HY
  replace HR := Lib.hid (HR.out.keeps HKA.out (HBA.out.mono hbs) (by decide) (by decide))
  replace HB := Lib.hid (HB.out.trans (HBA.out.mono hbs))
  replace HK := Lib.hid (HK.out.below_new HBA.out)
  clear HY HKA HBA
  go_wp2_with fail
  refine (C_text base g (stepO (.rows [.num]) (stepO (.rows [.num]) (stepO .num (stepO .num (stepO .num (stepO .text (stepO (.rows [.num]) (stepO (.rows [.num]) (stepO .num (stepO .num (stepO .num (stepO .num (stepO .num (stepO .num (o))))))))))))))) _ HR.out).mono ?_
  rintro e w12 ⟨⟨v, rfl, _⟩, hA, hK⟩
  obtain ⟨bw14, rfl⟩ : ∃ x, x = v := ⟨v, rfl⟩
  replace HR := Lib.hid hA
  replace HB := Lib.hid (HB.out.trans hK.below)
  replace HK := Lib.hid (HK.out.trans hK.keeps)
  replace HX := Lib.hid (HX.out.keeps hK.keeps (by decide))
  replace HRes := Lib.hid (HRes.out.keeps hK.keeps (by decide))
  have hszw12 := HK.out.size
  clear hA hK
  have hcxw12_0 : w12.cell? ⟨w.heap.size + 1, 14, none⟩ = some (.string ⟨#[]⟩) := HX.out.cell 14
  have hfzw12_0 : w12.frozen? ⟨w.heap.size + 1, 14, none⟩ = false := HX.out.frozen 14
  have HY : Hid (Blk (w12.setCell ⟨w.heap.size + 1, 14, none⟩ (.string bw14)) (w.heap.size + 1) 33 [.int .i64 nw0, .int .i64 nw1, .int .i64 nw2, .int .i64 nw3, .int .i64 nw4, .int .i64 nw5, .slice Aw6 mw6 kw6, .slice Aw7 mw7 kw7, .string bw8, .int .i64 nw9, .int .i64 nw10, .int .i64 nw11, .slice Aw12 mw12 kw12, .slice Aw13 mw13 kw13, .string bw14]) := Lib.hid (HX.out.set_ 14 (.string bw14))
  have HKA : Hid (Keeps [33] w12 (w12.setCell ⟨w.heap.size + 1, 14, none⟩ (.string bw14))) := Lib.hid ((Keeps.refl _ _).trans (Keeps.set_ HX.out.typ (by simp) (.string bw14)))
  have HBA : Hid (Below w.heap.size w12 (w12.setCell ⟨w.heap.size + 1, 14, none⟩ (.string bw14))) := Lib.hid ((Below.refl w.heap.size w12).setCell hgx _)
  replace HRes := Lib.hid (HRes.out.far (p := ⟨w.heap.size + 1, 14, none⟩) (by dsimp only; omega) (.string bw14))
  replace HX := HY
  replace HR := Lib.hid (HR.out.keeps HKA.out (HBA.out.mono hbs) (by decide) (by decide))
  replace HB := Lib.hid (HB.out.trans (HBA.out.mono hbs))
  replace HK := Lib.hid (HK.out.below_new HBA.out)
  clear HY HKA HBA
  have HRG := Lib.hid HX.out.range0
  have HTE : Hid (World.there _ w.heap.size 0 (List.toArray ([.int .i64 nw0, .int .i64 nw1, .int .i64 nw2, .int .i64 nw3, .int .i64 nw4, .int .i64 nw5, .slice Aw6 mw6 kw6, .slice Aw7 mw7 kw7, .string bw8, .int .i64 nw9, .int .i64 nw10, .int .i64 nw11, .slice Aw12 mw12 kw12, .slice Aw13 mw13 kw13, .string bw14] : List Value)).size) := Lib.hid (HRes.out.there 0 15 (by simp))
  have hiV : Hid ((Try.prog.info? 33).map (·.size) = some (List.length ([.int .i64 nw0, .int .i64 nw1, .int .i64 nw2, .int .i64 nw3, .int .i64 nw4, .int .i64 nw5, .slice Aw6 mw6 kw6, .slice Aw7 mw7 kw7, .string bw8, .int .i64 nw9, .int .i64 nw10, .int .i64 nw11, .slice Aw12 mw12 kw12, .slice Aw13 mw13 kw13, .string bw14] : List Value))) := Lib.hid hi.out
  have hsV : Hid ((Try.prog.info? 33).map (·.size) = some (List.toArray ([.int .i64 nw0, .int .i64 nw1, .int .i64 nw2, .int .i64 nw3, .int .i64 nw4, .int .i64 nw5, .slice Aw6 mw6 kw6, .slice Aw7 mw7 kw7, .string bw8, .int .i64 nw9, .int .i64 nw10, .int .i64 nw11, .slice Aw12 mw12 kw12, .slice Aw13 mw13 kw13, .string bw14] : List Value)).size) := Lib.hid hi.out
  have h1V : Hid ((List.toArray ([.int .i64 nw0, .int .i64 nw1, .int .i64 nw2, .int .i64 nw3, .int .i64 nw4, .int .i64 nw5, .slice Aw6 mw6 kw6, .slice Aw7 mw7 kw7, .string bw8, .int .i64 nw9, .int .i64 nw10, .int .i64 nw11, .slice Aw12 mw12 kw12, .slice Aw13 mw13 kw13, .string bw14] : List Value)).all (·.oneCell') = true) := Lib.hid (all_oneCell_toArray (by simp [Value.oneCell']))
  go_wp2_with (first | (with_reducible refine wpList_load_mid rfl 33 _ rfl (w.heap.size + 1) 0 rfl [.int .i64 nw0, .int .i64 nw1, .int .i64 nw2, .int .i64 nw3, .int .i64 nw4, .int .i64 nw5, .slice Aw6 mw6 kw6, .slice Aw7 mw7 kw7, .string bw8, .int .i64 nw9, .int .i64 nw10, .int .i64 nw11, .slice Aw12 mw12 kw12, .slice Aw13 mw13 kw13, .string bw14] _ HRG.out Try.underlying33 rfl hiV.out ?_) | (with_reducible refine wpList_store_mid rfl 33 _ _ rfl w.heap.size 0 (List.toArray ([.int .i64 nw0, .int .i64 nw1, .int .i64 nw2, .int .i64 nw3, .int .i64 nw4, .int .i64 nw5, .slice Aw6 mw6 kw6, .slice Aw7 mw7 kw7, .string bw8, .int .i64 nw9, .int .i64 nw10, .int .i64 nw11, .slice Aw12 mw12 kw12, .slice Aw13 mw13 kw13, .string bw14] : List Value)) rfl rfl HTE.out hsV.out h1V.out ?_))
  have HXE := Lib.hid (HRes.out.setCells0 [.int .i64 nw0, .int .i64 nw1, .int .i64 nw2, .int .i64 nw3, .int .i64 nw4, .int .i64 nw5, .slice Aw6 mw6 kw6, .slice Aw7 mw7 kw7, .string bw8, .int .i64 nw9, .int .i64 nw10, .int .i64 nw11, .slice Aw12 mw12 kw12, .slice Aw13 mw13 kw13, .string bw14] rfl)
  have HKE := Lib.hid (Keeps.setCells (ts := [33]) (t := 33) (by simp) HRes.out.typ 0 [.int .i64 nw0, .int .i64 nw1, .int .i64 nw2, .int .i64 nw3, .int .i64 nw4, .int .i64 nw5, .slice Aw6 mw6 kw6, .slice Aw7 mw7 kw7, .string bw8, .int .i64 nw9, .int .i64 nw10, .int .i64 nw11, .slice Aw12 mw12 kw12, .slice Aw13 mw13 kw13, .string bw14])
  refine bodyPost_ret (results_cell rfl _ _ w.heap.size rfl [.int .i64 nw0, .int .i64 nw1, .int .i64 nw2, .int .i64 nw3, .int .i64 nw4, .int .i64 nw5, .slice Aw6 mw6 kw6, .slice Aw7 mw7 kw7, .string bw8, .int .i64 nw9, .int .i64 nw10, .int .i64 nw11, .slice Aw12 mw12 kw12, .slice Aw13 mw13 kw13, .string bw14] _ HXE.out.range0 Try.underlying33 rfl hiV.out) rfl ?_
  refine ⟨⟨[.int .i64 nw0, .int .i64 nw1, .int .i64 nw2, .int .i64 nw3, .int .i64 nw4, .int .i64 nw5, .slice Aw6 mw6 kw6, .slice Aw7 mw7 kw7, .string bw8, .int .i64 nw9, .int .i64 nw10, .int .i64 nw11, .slice Aw12 mw12 kw12, .slice Aw13 mw13 kw13, .string bw14], rfl, (Kinds.mk (Kind1.num nw0) (Kinds.mk (Kind1.num nw1) (Kinds.mk (Kind1.num nw2) (Kinds.mk (Kind1.num nw3) (Kinds.mk (Kind1.num nw4) (Kinds.mk (Kind1.num nw5) (Kinds.mk (Kind1.rows _ Aw6 mw6 kw6) (Kinds.mk (Kind1.rows _ Aw7 mw7 kw7) (Kinds.mk (Kind1.text bw8) (Kinds.mk (Kind1.num nw9) (Kinds.mk (Kind1.num nw10) (Kinds.mk (Kind1.num nw11) (Kinds.mk (Kind1.rows _ Aw12 mw12 kw12) (Kinds.mk (Kind1.rows _ Aw13 mw13 kw13) (Kinds.mk (Kind1.text bw14) Kinds.mk0)))))))))))))))⟩, ?_, HB.out.trans (below_setCells_ hbs _ _), HK.out.below_new (below_setCells_ (Nat.le_refl _) _ _)⟩
  have hfin := HR.out.keeps HKE.out (below_setCells_ hbs _ _) (by decide) (by decide)
  simpa only [shRecord, stepS_cons, stepS_nil] using hfin

set_option maxHeartbeats 1600000 in
theorem C_Command (base g : Nat) (o : Option (List UInt8)) (w : World) (h : CutAt w base g o) :
    Calls Try.prog 53 #[.pointer (some ⟨g, 0, none⟩)] w fun e w' => (∃ vs, e = .returned (.agg vs.toArray) ∧ Kinds shCommand vs) ∧ CutAt w' base g (stepS shCommand o) ∧ Cuts base w w' := by
  have hi : (Try.prog.info? 49).map (·.size) = some 17 := by kernel_rfl
  replace hi := Lib.hid hi
  have hbs := h.lt
  have hgx : w.heap.size ≤ w.heap.size + 1 := Nat.le_succ _
  have HX : Hid (Blk ((w.alloc (.cells #[.int .i64 0, .string ⟨#[]⟩, .string ⟨#[]⟩, .string ⟨#[]⟩, .string ⟨#[]⟩, .string ⟨#[]⟩, .slice none 0 0, .string ⟨#[]⟩, .int .i64 0, .slice none 0 0, .int .i64 0, .int .i64 0, .string ⟨#[]⟩, .string ⟨#[]⟩, .string ⟨#[]⟩, .int .i64 0, .bool false] 49)).alloc (.cells #[.int .i64 0, .string ⟨#[]⟩, .string ⟨#[]⟩, .string ⟨#[]⟩, .string ⟨#[]⟩, .string ⟨#[]⟩, .slice none 0 0, .string ⟨#[]⟩, .int .i64 0, .slice none 0 0, .int .i64 0, .int .i64 0, .string ⟨#[]⟩, .string ⟨#[]⟩, .string ⟨#[]⟩, .int .i64 0, .bool false] 49)) (w.heap.size + 1) 49 [.int .i64 0, .string ⟨#[]⟩, .string ⟨#[]⟩, .string ⟨#[]⟩, .string ⟨#[]⟩, .string ⟨#[]⟩, .slice none 0 0, .string ⟨#[]⟩, .int .i64 0, .slice none 0 0, .int .i64 0, .int .i64 0, .string ⟨#[]⟩, .string ⟨#[]⟩, .string ⟨#[]⟩, .int .i64 0, .bool false]) := Lib.hid (by have := Blk.new (w.alloc (.cells #[.int .i64 0, .string ⟨#[]⟩, .string ⟨#[]⟩, .string ⟨#[]⟩, .string ⟨#[]⟩, .string ⟨#[]⟩, .slice none 0 0, .string ⟨#[]⟩, .int .i64 0, .slice none 0 0, .int .i64 0, .int .i64 0, .string ⟨#[]⟩, .string ⟨#[]⟩, .string ⟨#[]⟩, .int .i64 0, .bool false] 49)) 49 [.int .i64 0, .string ⟨#[]⟩, .string ⟨#[]⟩, .string ⟨#[]⟩, .string ⟨#[]⟩, .string ⟨#[]⟩, .slice none 0 0, .string ⟨#[]⟩, .int .i64 0, .slice none 0 0, .int .i64 0, .int .i64 0, .string ⟨#[]⟩, .string ⟨#[]⟩, .string ⟨#[]⟩, .int .i64 0, .bool false]; simpa using this)
  have HRes : Hid (Blk ((w.alloc (.cells #[.int .i64 0, .string ⟨#[]⟩, .string ⟨#[]⟩, .string ⟨#[]⟩, .string ⟨#[]⟩, .string ⟨#[]⟩, .slice none 0 0, .string ⟨#[]⟩, .int .i64 0, .slice none 0 0, .int .i64 0, .int .i64 0, .string ⟨#[]⟩, .string ⟨#[]⟩, .string ⟨#[]⟩, .int .i64 0, .bool false] 49)).alloc (.cells #[.int .i64 0, .string ⟨#[]⟩, .string ⟨#[]⟩, .string ⟨#[]⟩, .string ⟨#[]⟩, .string ⟨#[]⟩, .slice none 0 0, .string ⟨#[]⟩, .int .i64 0, .slice none 0 0, .int .i64 0, .int .i64 0, .string ⟨#[]⟩, .string ⟨#[]⟩, .string ⟨#[]⟩, .int .i64 0, .bool false] 49)) w.heap.size 49 [.int .i64 0, .string ⟨#[]⟩, .string ⟨#[]⟩, .string ⟨#[]⟩, .string ⟨#[]⟩, .string ⟨#[]⟩, .slice none 0 0, .string ⟨#[]⟩, .int .i64 0, .slice none 0 0, .int .i64 0, .int .i64 0, .string ⟨#[]⟩, .string ⟨#[]⟩, .string ⟨#[]⟩, .int .i64 0, .bool false]) := Lib.hid ((Blk.new w 49 [.int .i64 0, .string ⟨#[]⟩, .string ⟨#[]⟩, .string ⟨#[]⟩, .string ⟨#[]⟩, .string ⟨#[]⟩, .slice none 0 0, .string ⟨#[]⟩, .int .i64 0, .slice none 0 0, .int .i64 0, .int .i64 0, .string ⟨#[]⟩, .string ⟨#[]⟩, .string ⟨#[]⟩, .int .i64 0, .bool false]).alloc _)
  have hbw : Below w.heap.size w ((w.alloc (.cells #[.int .i64 0, .string ⟨#[]⟩, .string ⟨#[]⟩, .string ⟨#[]⟩, .string ⟨#[]⟩, .string ⟨#[]⟩, .slice none 0 0, .string ⟨#[]⟩, .int .i64 0, .slice none 0 0, .int .i64 0, .int .i64 0, .string ⟨#[]⟩, .string ⟨#[]⟩, .string ⟨#[]⟩, .int .i64 0, .bool false] 49)).alloc (.cells #[.int .i64 0, .string ⟨#[]⟩, .string ⟨#[]⟩, .string ⟨#[]⟩, .string ⟨#[]⟩, .string ⟨#[]⟩, .slice none 0 0, .string ⟨#[]⟩, .int .i64 0, .slice none 0 0, .int .i64 0, .int .i64 0, .string ⟨#[]⟩, .string ⟨#[]⟩, .string ⟨#[]⟩, .int .i64 0, .bool false] 49)) := ((Below.refl _ _).alloc (Nat.le_refl _) _).alloc (by simp) _
  have HTZ : Hid (World.there ((w.alloc (.cells #[.int .i64 0, .string ⟨#[]⟩, .string ⟨#[]⟩, .string ⟨#[]⟩, .string ⟨#[]⟩, .string ⟨#[]⟩, .slice none 0 0, .string ⟨#[]⟩, .int .i64 0, .slice none 0 0, .int .i64 0, .int .i64 0, .string ⟨#[]⟩, .string ⟨#[]⟩, .string ⟨#[]⟩, .int .i64 0, .bool false] 49)).alloc (.cells #[.int .i64 0, .string ⟨#[]⟩, .string ⟨#[]⟩, .string ⟨#[]⟩, .string ⟨#[]⟩, .string ⟨#[]⟩, .slice none 0 0, .string ⟨#[]⟩, .int .i64 0, .slice none 0 0, .int .i64 0, .int .i64 0, .string ⟨#[]⟩, .string ⟨#[]⟩, .string ⟨#[]⟩, .int .i64 0, .bool false] 49)) (w.heap.size + 1) 0 (List.toArray ([.int .i64 0, .string ⟨#[]⟩, .string ⟨#[]⟩, .string ⟨#[]⟩, .string ⟨#[]⟩, .string ⟨#[]⟩, .slice none 0 0, .string ⟨#[]⟩, .int .i64 0, .slice none 0 0, .int .i64 0, .int .i64 0, .string ⟨#[]⟩, .string ⟨#[]⟩, .string ⟨#[]⟩, .int .i64 0, .bool false] : List Value)).size) := Lib.hid (HX.out.there 0 17 (by simp))
  have hsZ : Hid ((Try.prog.info? 49).map (·.size) = some (List.toArray ([.int .i64 0, .string ⟨#[]⟩, .string ⟨#[]⟩, .string ⟨#[]⟩, .string ⟨#[]⟩, .string ⟨#[]⟩, .slice none 0 0, .string ⟨#[]⟩, .int .i64 0, .slice none 0 0, .int .i64 0, .int .i64 0, .string ⟨#[]⟩, .string ⟨#[]⟩, .string ⟨#[]⟩, .int .i64 0, .bool false] : List Value)).size) := Lib.hid (by kernel_rfl)
  have h1Z : Hid ((List.toArray ([.int .i64 0, .string ⟨#[]⟩, .string ⟨#[]⟩, .string ⟨#[]⟩, .string ⟨#[]⟩, .string ⟨#[]⟩, .slice none 0 0, .string ⟨#[]⟩, .int .i64 0, .slice none 0 0, .int .i64 0, .int .i64 0, .string ⟨#[]⟩, .string ⟨#[]⟩, .string ⟨#[]⟩, .int .i64 0, .bool false] : List Value)).all (·.oneCell') = true) := Lib.hid (all_oneCell_toArray (by simp [Value.oneCell']))
  have hbw3 : Below w.heap.size w (((w.alloc (.cells #[.int .i64 0, .string ⟨#[]⟩, .string ⟨#[]⟩, .string ⟨#[]⟩, .string ⟨#[]⟩, .string ⟨#[]⟩, .slice none 0 0, .string ⟨#[]⟩, .int .i64 0, .slice none 0 0, .int .i64 0, .int .i64 0, .string ⟨#[]⟩, .string ⟨#[]⟩, .string ⟨#[]⟩, .int .i64 0, .bool false] 49)).alloc (.cells #[.int .i64 0, .string ⟨#[]⟩, .string ⟨#[]⟩, .string ⟨#[]⟩, .string ⟨#[]⟩, .string ⟨#[]⟩, .slice none 0 0, .string ⟨#[]⟩, .int .i64 0, .slice none 0 0, .int .i64 0, .int .i64 0, .string ⟨#[]⟩, .string ⟨#[]⟩, .string ⟨#[]⟩, .int .i64 0, .bool false] 49)).setCells (w.heap.size + 1) 0 [.int .i64 0, .string ⟨#[]⟩, .string ⟨#[]⟩, .string ⟨#[]⟩, .string ⟨#[]⟩, .string ⟨#[]⟩, .slice none 0 0, .string ⟨#[]⟩, .int .i64 0, .slice none 0 0, .int .i64 0, .int .i64 0, .string ⟨#[]⟩, .string ⟨#[]⟩, .string ⟨#[]⟩, .int .i64 0, .bool false]) := hbw.trans (below_setCells_ hgx 0 [.int .i64 0, .string ⟨#[]⟩, .string ⟨#[]⟩, .string ⟨#[]⟩, .string ⟨#[]⟩, .string ⟨#[]⟩, .slice none 0 0, .string ⟨#[]⟩, .int .i64 0, .slice none 0 0, .int .i64 0, .int .i64 0, .string ⟨#[]⟩, .string ⟨#[]⟩, .string ⟨#[]⟩, .int .i64 0, .bool false])
  have HR := Lib.hid (h.below_ hbw3)
  have HB : Hid (Below base w (((w.alloc (.cells #[.int .i64 0, .string ⟨#[]⟩, .string ⟨#[]⟩, .string ⟨#[]⟩, .string ⟨#[]⟩, .string ⟨#[]⟩, .slice none 0 0, .string ⟨#[]⟩, .int .i64 0, .slice none 0 0, .int .i64 0, .int .i64 0, .string ⟨#[]⟩, .string ⟨#[]⟩, .string ⟨#[]⟩, .int .i64 0, .bool false] 49)).alloc (.cells #[.int .i64 0, .string ⟨#[]⟩, .string ⟨#[]⟩, .string ⟨#[]⟩, .string ⟨#[]⟩, .string ⟨#[]⟩, .slice none 0 0, .string ⟨#[]⟩, .int .i64 0, .slice none 0 0, .int .i64 0, .int .i64 0, .string ⟨#[]⟩, .string ⟨#[]⟩, .string ⟨#[]⟩, .int .i64 0, .bool false] 49)).setCells (w.heap.size + 1) 0 [.int .i64 0, .string ⟨#[]⟩, .string ⟨#[]⟩, .string ⟨#[]⟩, .string ⟨#[]⟩, .string ⟨#[]⟩, .slice none 0 0, .string ⟨#[]⟩, .int .i64 0, .slice none 0 0, .int .i64 0, .int .i64 0, .string ⟨#[]⟩, .string ⟨#[]⟩, .string ⟨#[]⟩, .int .i64 0, .bool false])) := Lib.hid (hbw3.mono hbs)
  have HK : Hid (Keeps [144, 142] w (((w.alloc (.cells #[.int .i64 0, .string ⟨#[]⟩, .string ⟨#[]⟩, .string ⟨#[]⟩, .string ⟨#[]⟩, .string ⟨#[]⟩, .slice none 0 0, .string ⟨#[]⟩, .int .i64 0, .slice none 0 0, .int .i64 0, .int .i64 0, .string ⟨#[]⟩, .string ⟨#[]⟩, .string ⟨#[]⟩, .int .i64 0, .bool false] 49)).alloc (.cells #[.int .i64 0, .string ⟨#[]⟩, .string ⟨#[]⟩, .string ⟨#[]⟩, .string ⟨#[]⟩, .string ⟨#[]⟩, .slice none 0 0, .string ⟨#[]⟩, .int .i64 0, .slice none 0 0, .int .i64 0, .int .i64 0, .string ⟨#[]⟩, .string ⟨#[]⟩, .string ⟨#[]⟩, .int .i64 0, .bool false] 49)).setCells (w.heap.size + 1) 0 [.int .i64 0, .string ⟨#[]⟩, .string ⟨#[]⟩, .string ⟨#[]⟩, .string ⟨#[]⟩, .string ⟨#[]⟩, .slice none 0 0, .string ⟨#[]⟩, .int .i64 0, .slice none 0 0, .int .i64 0, .int .i64 0, .string ⟨#[]⟩, .string ⟨#[]⟩, .string ⟨#[]⟩, .int .i64 0, .bool false])) := Lib.hid (Keeps.of_below hbw3 (Nat.le_refl _))
  replace HX : Hid (Blk (((w.alloc (.cells #[.int .i64 0, .string ⟨#[]⟩, .string ⟨#[]⟩, .string ⟨#[]⟩, .string ⟨#[]⟩, .string ⟨#[]⟩, .slice none 0 0, .string ⟨#[]⟩, .int .i64 0, .slice none 0 0, .int .i64 0, .int .i64 0, .string ⟨#[]⟩, .string ⟨#[]⟩, .string ⟨#[]⟩, .int .i64 0, .bool false] 49)).alloc (.cells #[.int .i64 0, .string ⟨#[]⟩, .string ⟨#[]⟩, .string ⟨#[]⟩, .string ⟨#[]⟩, .string ⟨#[]⟩, .slice none 0 0, .string ⟨#[]⟩, .int .i64 0, .slice none 0 0, .int .i64 0, .int .i64 0, .string ⟨#[]⟩, .string ⟨#[]⟩, .string ⟨#[]⟩, .int .i64 0, .bool false] 49)).setCells (w.heap.size + 1) 0 [.int .i64 0, .string ⟨#[]⟩, .string ⟨#[]⟩, .string ⟨#[]⟩, .string ⟨#[]⟩, .string ⟨#[]⟩, .slice none 0 0, .string ⟨#[]⟩, .int .i64 0, .slice none 0 0, .int .i64 0, .int .i64 0, .string ⟨#[]⟩, .string ⟨#[]⟩, .string ⟨#[]⟩, .int .i64 0, .bool false]) (w.heap.size + 1) 49 [.int .i64 0, .string ⟨#[]⟩, .string ⟨#[]⟩, .string ⟨#[]⟩, .string ⟨#[]⟩, .string ⟨#[]⟩, .slice none 0 0, .string ⟨#[]⟩, .int .i64 0, .slice none 0 0, .int .i64 0, .int .i64 0, .string ⟨#[]⟩, .string ⟨#[]⟩, .string ⟨#[]⟩, .int .i64 0, .bool false]) := Lib.hid (HX.out.setCells0 [.int .i64 0, .string ⟨#[]⟩, .string ⟨#[]⟩, .string ⟨#[]⟩, .string ⟨#[]⟩, .string ⟨#[]⟩, .slice none 0 0, .string ⟨#[]⟩, .int .i64 0, .slice none 0 0, .int .i64 0, .int .i64 0, .string ⟨#[]⟩, .string ⟨#[]⟩, .string ⟨#[]⟩, .int .i64 0, .bool false] rfl)
  replace HRes : Hid (Blk (((w.alloc (.cells #[.int .i64 0, .string ⟨#[]⟩, .string ⟨#[]⟩, .string ⟨#[]⟩, .string ⟨#[]⟩, .string ⟨#[]⟩, .slice none 0 0, .string ⟨#[]⟩, .int .i64 0, .slice none 0 0, .int .i64 0, .int .i64 0, .string ⟨#[]⟩, .string ⟨#[]⟩, .string ⟨#[]⟩, .int .i64 0, .bool false] 49)).alloc (.cells #[.int .i64 0, .string ⟨#[]⟩, .string ⟨#[]⟩, .string ⟨#[]⟩, .string ⟨#[]⟩, .string ⟨#[]⟩, .slice none 0 0, .string ⟨#[]⟩, .int .i64 0, .slice none 0 0, .int .i64 0, .int .i64 0, .string ⟨#[]⟩, .string ⟨#[]⟩, .string ⟨#[]⟩, .int .i64 0, .bool false] 49)).setCells (w.heap.size + 1) 0 [.int .i64 0, .string ⟨#[]⟩, .string ⟨#[]⟩, .string ⟨#[]⟩, .string ⟨#[]⟩, .string ⟨#[]⟩, .slice none 0 0, .string ⟨#[]⟩, .int .i64 0, .slice none 0 0, .int .i64 0, .int .i64 0, .string ⟨#[]⟩, .string ⟨#[]⟩, .string ⟨#[]⟩, .int .i64 0, .bool false]) w.heap.size 49 [.int .i64 0, .string ⟨#[]⟩, .string ⟨#[]⟩, .string ⟨#[]⟩, .string ⟨#[]⟩, .string ⟨#[]⟩, .slice none 0 0, .string ⟨#[]⟩, .int .i64 0, .slice none 0 0, .int .i64 0, .int .i64 0, .string ⟨#[]⟩, .string ⟨#[]⟩, .string ⟨#[]⟩, .int .i64 0, .bool false]) := Lib.hid (Blk.far_setCells (by omega) 0 [.int .i64 0, .string ⟨#[]⟩, .string ⟨#[]⟩, .string ⟨#[]⟩, .string ⟨#[]⟩, .string ⟨#[]⟩, .slice none 0 0, .string ⟨#[]⟩, .int .i64 0, .slice none 0 0, .int .i64 0, .int .i64 0, .string ⟨#[]⟩, .string ⟨#[]⟩, .string ⟨#[]⟩, .int .i64 0, .bool false] HRes.out)
  clear h hbw hbw3
  go_enter Try.func53, Try.ntmps53
  go_wp2_with (with_reducible refine wpList_store_mid rfl 49 _ _ rfl (w.heap.size + 1) 0 (List.toArray ([.int .i64 0, .string ⟨#[]⟩, .string ⟨#[]⟩, .string ⟨#[]⟩, .string ⟨#[]⟩, .string ⟨#[]⟩, .slice none 0 0, .string ⟨#[]⟩, .int .i64 0, .slice none 0 0, .int .i64 0, .int .i64 0, .string ⟨#[]⟩, .string ⟨#[]⟩, .string ⟨#[]⟩, .int .i64 0, .bool false] : List Value)) rfl rfl HTZ.out hsZ.out h1Z.out ?_)
  refine (C_num base g (o) _ HR.out).mono ?_
  rintro e w0 ⟨⟨v, rfl, _⟩, hA, hK⟩
  obtain ⟨nw0, rfl⟩ : ∃ x, x = v := ⟨v, rfl⟩
  replace HR := Lib.hid hA
  replace HB := Lib.hid (HB.out.trans hK.below)
  replace HK := Lib.hid (HK.out.trans hK.keeps)
  replace HX := Lib.hid (HX.out.keeps hK.keeps (by decide))
  replace HRes := Lib.hid (HRes.out.keeps hK.keeps (by decide))
  have hszw0 := HK.out.size
  clear hA hK
  have hcxw0_0 : w0.cell? ⟨w.heap.size + 1, 0, none⟩ = some (.int .i64 0) := HX.out.cell 0
  have hfzw0_0 : w0.frozen? ⟨w.heap.size + 1, 0, none⟩ = false := HX.out.frozen 0
  have HY : Hid (Blk (w0.setCell ⟨w.heap.size + 1, 0, none⟩ (.int .i64 nw0)) (w.heap.size + 1) 49 [.int .i64 nw0, .string ⟨#[]⟩, .string ⟨#[]⟩, .string ⟨#[]⟩, .string ⟨#[]⟩, .string ⟨#[]⟩, .slice none 0 0, .string ⟨#[]⟩, .int .i64 0, .slice none 0 0, .int .i64 0, .int .i64 0, .string ⟨#[]⟩, .string ⟨#[]⟩, .string ⟨#[]⟩, .int .i64 0, .bool false]) := Lib.hid (HX.out.set_ 0 (.int .i64 nw0))
  have HKA : Hid (Keeps [49] w0 (w0.setCell ⟨w.heap.size + 1, 0, none⟩ (.int .i64 nw0))) := Lib.hid ((Keeps.refl _ _).trans (Keeps.set_ HX.out.typ (by simp) (.int .i64 nw0)))
  have HBA : Hid (Below w.heap.size w0 (w0.setCell ⟨w.heap.size + 1, 0, none⟩ (.int .i64 nw0))) := Lib.hid ((Below.refl w.heap.size w0).setCell hgx _)
  replace HRes := Lib.hid (HRes.out.far (p := ⟨w.heap.size + 1, 0, none⟩) (by dsimp only; omega) (.int .i64 nw0))
  replace HX := HY
  replace HR := Lib.hid (HR.out.keeps HKA.out (HBA.out.mono hbs) (by decide) (by decide))
  replace HB := Lib.hid (HB.out.trans (HBA.out.mono hbs))
  replace HK := Lib.hid (HK.out.below_new HBA.out)
  clear HY HKA HBA
  go_wp2_with fail
  refine (C_text base g (stepO .num (o)) _ HR.out).mono ?_
  rintro e w1 ⟨⟨v, rfl, _⟩, hA, hK⟩
  obtain ⟨bw1, rfl⟩ : ∃ x, x = v := ⟨v, rfl⟩
  replace HR := Lib.hid hA
  replace HB := Lib.hid (HB.out.trans hK.below)
  replace HK := Lib.hid (HK.out.trans hK.keeps)
  replace HX := Lib.hid (HX.out.keeps hK.keeps (by decide))
  replace HRes := Lib.hid (HRes.out.keeps hK.keeps (by decide))
  have hszw1 := HK.out.size
  clear hA hK
  have hcxw1_0 : w1.cell? ⟨w.heap.size + 1, 1, none⟩ = some (.string ⟨#[]⟩) := HX.out.cell 1
  have hfzw1_0 : w1.frozen? ⟨w.heap.size + 1, 1, none⟩ = false := HX.out.frozen 1
  have HY : Hid (Blk (w1.setCell ⟨w.heap.size + 1, 1, none⟩ (.string bw1)) (w.heap.size + 1) 49 [.int .i64 nw0, .string bw1, .string ⟨#[]⟩, .string ⟨#[]⟩, .string ⟨#[]⟩, .string ⟨#[]⟩, .slice none 0 0, .string ⟨#[]⟩, .int .i64 0, .slice none 0 0, .int .i64 0, .int .i64 0, .string ⟨#[]⟩, .string ⟨#[]⟩, .string ⟨#[]⟩, .int .i64 0, .bool false]) := Lib.hid (HX.out.set_ 1 (.string bw1))
  have HKA : Hid (Keeps [49] w1 (w1.setCell ⟨w.heap.size + 1, 1, none⟩ (.string bw1))) := Lib.hid ((Keeps.refl _ _).trans (Keeps.set_ HX.out.typ (by simp) (.string bw1)))
  have HBA : Hid (Below w.heap.size w1 (w1.setCell ⟨w.heap.size + 1, 1, none⟩ (.string bw1))) := Lib.hid ((Below.refl w.heap.size w1).setCell hgx _)
  replace HRes := Lib.hid (HRes.out.far (p := ⟨w.heap.size + 1, 1, none⟩) (by dsimp only; omega) (.string bw1))
  replace HX := HY
  replace HR := Lib.hid (HR.out.keeps HKA.out (HBA.out.mono hbs) (by decide) (by decide))
  replace HB := Lib.hid (HB.out.trans (HBA.out.mono hbs))
  replace HK := Lib.hid (HK.out.below_new HBA.out)
  clear HY HKA HBA
  go_wp2_with fail
  refine (C_text base g (stepO .text (stepO .num (o))) _ HR.out).mono ?_
  rintro e w2 ⟨⟨v, rfl, _⟩, hA, hK⟩
  obtain ⟨bw2, rfl⟩ : ∃ x, x = v := ⟨v, rfl⟩
  replace HR := Lib.hid hA
  replace HB := Lib.hid (HB.out.trans hK.below)
  replace HK := Lib.hid (HK.out.trans hK.keeps)
  replace HX := Lib.hid (HX.out.keeps hK.keeps (by decide))
  replace HRes := Lib.hid (HRes.out.keeps hK.keeps (by decide))
  have hszw2 := HK.out.size
  clear hA hK
  have hcxw2_0 : w2.cell? ⟨w.heap.size + 1, 2, none⟩ = some (.string ⟨#[]⟩) := HX.out.cell 2
  have hfzw2_0 : w2.frozen? ⟨w.heap.size + 1, 2, none⟩ = false := HX.out.frozen 2
  have HY : Hid (Blk (w2.setCell ⟨w.heap.size + 1, 2, none⟩ (.string bw2)) (w.heap.size + 1) 49 [.int .i64 nw0, .string bw1, .string bw2, .string ⟨#[]⟩, .string ⟨#[]⟩, .string ⟨#[]⟩, .slice none 0 0, .string ⟨#[]⟩, .int .i64 0, .slice none 0 0, .int .i64 0, .int .i64 0, .string ⟨#[]⟩, .string ⟨#[]⟩, .string ⟨#[]⟩, .int .i64 0, .bool false]) := Lib.hid (HX.out.set_ 2 (.string bw2))
  have HKA : Hid (Keeps [49] w2 (w2.setCell ⟨w.heap.size + 1, 2, none⟩ (.string bw2))) := Lib.hid ((Keeps.refl _ _).trans (Keeps.set_ HX.out.typ (by simp) (.string bw2)))
  have HBA : Hid (Below w.heap.size w2 (w2.setCell ⟨w.heap.size + 1, 2, none⟩ (.string bw2))) := Lib.hid ((Below.refl w.heap.size w2).setCell hgx _)
  replace HRes := Lib.hid (HRes.out.far (p := ⟨w.heap.size + 1, 2, none⟩) (by dsimp only; omega) (.string bw2))
  replace HX := HY
  replace HR := Lib.hid (HR.out.keeps HKA.out (HBA.out.mono hbs) (by decide) (by decide))
  replace HB := Lib.hid (HB.out.trans (HBA.out.mono hbs))
  replace HK := Lib.hid (HK.out.below_new HBA.out)
  clear HY HKA HBA
  go_wp2_with fail
  refine (C_text base g (stepO .text (stepO .text (stepO .num (o)))) _ HR.out).mono ?_
  rintro e w3 ⟨⟨v, rfl, _⟩, hA, hK⟩
  obtain ⟨bw3, rfl⟩ : ∃ x, x = v := ⟨v, rfl⟩
  replace HR := Lib.hid hA
  replace HB := Lib.hid (HB.out.trans hK.below)
  replace HK := Lib.hid (HK.out.trans hK.keeps)
  replace HX := Lib.hid (HX.out.keeps hK.keeps (by decide))
  replace HRes := Lib.hid (HRes.out.keeps hK.keeps (by decide))
  have hszw3 := HK.out.size
  clear hA hK
  have hcxw3_0 : w3.cell? ⟨w.heap.size + 1, 3, none⟩ = some (.string ⟨#[]⟩) := HX.out.cell 3
  have hfzw3_0 : w3.frozen? ⟨w.heap.size + 1, 3, none⟩ = false := HX.out.frozen 3
  have HY : Hid (Blk (w3.setCell ⟨w.heap.size + 1, 3, none⟩ (.string bw3)) (w.heap.size + 1) 49 [.int .i64 nw0, .string bw1, .string bw2, .string bw3, .string ⟨#[]⟩, .string ⟨#[]⟩, .slice none 0 0, .string ⟨#[]⟩, .int .i64 0, .slice none 0 0, .int .i64 0, .int .i64 0, .string ⟨#[]⟩, .string ⟨#[]⟩, .string ⟨#[]⟩, .int .i64 0, .bool false]) := Lib.hid (HX.out.set_ 3 (.string bw3))
  have HKA : Hid (Keeps [49] w3 (w3.setCell ⟨w.heap.size + 1, 3, none⟩ (.string bw3))) := Lib.hid ((Keeps.refl _ _).trans (Keeps.set_ HX.out.typ (by simp) (.string bw3)))
  have HBA : Hid (Below w.heap.size w3 (w3.setCell ⟨w.heap.size + 1, 3, none⟩ (.string bw3))) := Lib.hid ((Below.refl w.heap.size w3).setCell hgx _)
  replace HRes := Lib.hid (HRes.out.far (p := ⟨w.heap.size + 1, 3, none⟩) (by dsimp only; omega) (.string bw3))
  replace HX := HY
  replace HR := Lib.hid (HR.out.keeps HKA.out (HBA.out.mono hbs) (by decide) (by decide))
  replace HB := Lib.hid (HB.out.trans (HBA.out.mono hbs))
  replace HK := Lib.hid (HK.out.below_new HBA.out)
  clear HY HKA HBA
  go_wp2_with fail
  refine (C_text base g (stepO .text (stepO .text (stepO .text (stepO .num (o))))) _ HR.out).mono ?_
  rintro e w4 ⟨⟨v, rfl, _⟩, hA, hK⟩
  obtain ⟨bw4, rfl⟩ : ∃ x, x = v := ⟨v, rfl⟩
  replace HR := Lib.hid hA
  replace HB := Lib.hid (HB.out.trans hK.below)
  replace HK := Lib.hid (HK.out.trans hK.keeps)
  replace HX := Lib.hid (HX.out.keeps hK.keeps (by decide))
  replace HRes := Lib.hid (HRes.out.keeps hK.keeps (by decide))
  have hszw4 := HK.out.size
  clear hA hK
  have hcxw4_0 : w4.cell? ⟨w.heap.size + 1, 4, none⟩ = some (.string ⟨#[]⟩) := HX.out.cell 4
  have hfzw4_0 : w4.frozen? ⟨w.heap.size + 1, 4, none⟩ = false := HX.out.frozen 4
  have HY : Hid (Blk (w4.setCell ⟨w.heap.size + 1, 4, none⟩ (.string bw4)) (w.heap.size + 1) 49 [.int .i64 nw0, .string bw1, .string bw2, .string bw3, .string bw4, .string ⟨#[]⟩, .slice none 0 0, .string ⟨#[]⟩, .int .i64 0, .slice none 0 0, .int .i64 0, .int .i64 0, .string ⟨#[]⟩, .string ⟨#[]⟩, .string ⟨#[]⟩, .int .i64 0, .bool false]) := Lib.hid (HX.out.set_ 4 (.string bw4))
  have HKA : Hid (Keeps [49] w4 (w4.setCell ⟨w.heap.size + 1, 4, none⟩ (.string bw4))) := Lib.hid ((Keeps.refl _ _).trans (Keeps.set_ HX.out.typ (by simp) (.string bw4)))
  have HBA : Hid (Below w.heap.size w4 (w4.setCell ⟨w.heap.size + 1, 4, none⟩ (.string bw4))) := Lib.hid ((Below.refl w.heap.size w4).setCell hgx _)
  replace HRes := Lib.hid (HRes.out.far (p := ⟨w.heap.size + 1, 4, none⟩) (by dsimp only; omega) (.string bw4))
  replace HX := HY
  replace HR := Lib.hid (HR.out.keeps HKA.out (HBA.out.mono hbs) (by decide) (by decide))
  replace HB := Lib.hid (HB.out.trans (HBA.out.mono hbs))
  replace HK := Lib.hid (HK.out.below_new HBA.out)
  clear HY HKA HBA
  go_wp2_with fail
  refine (C_text base g (stepO .text (stepO .text (stepO .text (stepO .text (stepO .num (o)))))) _ HR.out).mono ?_
  rintro e w5 ⟨⟨v, rfl, _⟩, hA, hK⟩
  obtain ⟨bw5, rfl⟩ : ∃ x, x = v := ⟨v, rfl⟩
  replace HR := Lib.hid hA
  replace HB := Lib.hid (HB.out.trans hK.below)
  replace HK := Lib.hid (HK.out.trans hK.keeps)
  replace HX := Lib.hid (HX.out.keeps hK.keeps (by decide))
  replace HRes := Lib.hid (HRes.out.keeps hK.keeps (by decide))
  have hszw5 := HK.out.size
  clear hA hK
  have hcxw5_0 : w5.cell? ⟨w.heap.size + 1, 5, none⟩ = some (.string ⟨#[]⟩) := HX.out.cell 5
  have hfzw5_0 : w5.frozen? ⟨w.heap.size + 1, 5, none⟩ = false := HX.out.frozen 5
  have HY : Hid (Blk (w5.setCell ⟨w.heap.size + 1, 5, none⟩ (.string bw5)) (w.heap.size + 1) 49 [.int .i64 nw0, .string bw1, .string bw2, .string bw3, .string bw4, .string bw5, .slice none 0 0, .string ⟨#[]⟩, .int .i64 0, .slice none 0 0, .int .i64 0, .int .i64 0, .string ⟨#[]⟩, .string ⟨#[]⟩, .string ⟨#[]⟩, .int .i64 0, .bool false]) := Lib.hid (HX.out.set_ 5 (.string bw5))
  have HKA : Hid (Keeps [49] w5 (w5.setCell ⟨w.heap.size + 1, 5, none⟩ (.string bw5))) := Lib.hid ((Keeps.refl _ _).trans (Keeps.set_ HX.out.typ (by simp) (.string bw5)))
  have HBA : Hid (Below w.heap.size w5 (w5.setCell ⟨w.heap.size + 1, 5, none⟩ (.string bw5))) := Lib.hid ((Below.refl w.heap.size w5).setCell hgx _)
  replace HRes := Lib.hid (HRes.out.far (p := ⟨w.heap.size + 1, 5, none⟩) (by dsimp only; omega) (.string bw5))
  replace HX := HY
  replace HR := Lib.hid (HR.out.keeps HKA.out (HBA.out.mono hbs) (by decide) (by decide))
  replace HB := Lib.hid (HB.out.trans (HBA.out.mono hbs))
  replace HK := Lib.hid (HK.out.below_new HBA.out)
  clear HY HKA HBA
  go_wp2_with fail
  refine (C_columns base g (stepO .text (stepO .text (stepO .text (stepO .text (stepO .text (stepO .num (o))))))) _ HR.out).mono ?_
  rintro e w6 ⟨⟨Aw6, mw6, kw6, rfl⟩, hA, hK⟩
  replace HR := Lib.hid hA
  replace HB := Lib.hid (HB.out.trans hK.below)
  replace HK := Lib.hid (HK.out.trans hK.keeps)
  replace HX := Lib.hid (HX.out.keeps hK.keeps (by decide))
  replace HRes := Lib.hid (HRes.out.keeps hK.keeps (by decide))
  have hszw6 := HK.out.size
  clear hA hK
  have hcxw6_0 : w6.cell? ⟨w.heap.size + 1, 6, none⟩ = some (.slice none 0 0) := HX.out.cell 6
  have hfzw6_0 : w6.frozen? ⟨w.heap.size + 1, 6, none⟩ = false := HX.out.frozen 6
  have HY : Hid (Blk (w6.setCell ⟨w.heap.size + 1, 6, none⟩ (.slice Aw6 mw6 kw6)) (w.heap.size + 1) 49 [.int .i64 nw0, .string bw1, .string bw2, .string bw3, .string bw4, .string bw5, .slice Aw6 mw6 kw6, .string ⟨#[]⟩, .int .i64 0, .slice none 0 0, .int .i64 0, .int .i64 0, .string ⟨#[]⟩, .string ⟨#[]⟩, .string ⟨#[]⟩, .int .i64 0, .bool false]) := Lib.hid (HX.out.set_ 6 (.slice Aw6 mw6 kw6))
  have HKA : Hid (Keeps [49] w6 (w6.setCell ⟨w.heap.size + 1, 6, none⟩ (.slice Aw6 mw6 kw6))) := Lib.hid ((Keeps.refl _ _).trans (Keeps.set_ HX.out.typ (by simp) (.slice Aw6 mw6 kw6)))
  have HBA : Hid (Below w.heap.size w6 (w6.setCell ⟨w.heap.size + 1, 6, none⟩ (.slice Aw6 mw6 kw6))) := Lib.hid ((Below.refl w.heap.size w6).setCell hgx _)
  replace HRes := Lib.hid (HRes.out.far (p := ⟨w.heap.size + 1, 6, none⟩) (by dsimp only; omega) (.slice Aw6 mw6 kw6))
  replace HX := HY
  replace HR := Lib.hid (HR.out.keeps HKA.out (HBA.out.mono hbs) (by decide) (by decide))
  replace HB := Lib.hid (HB.out.trans (HBA.out.mono hbs))
  replace HK := Lib.hid (HK.out.below_new HBA.out)
  clear HY HKA HBA
  go_wp2_with fail
  refine (C_rule base g (stepO (.rows shColumn) (stepO .text (stepO .text (stepO .text (stepO .text (stepO .text (stepO .num (o)))))))) _ HR.out).mono ?_
  rintro e w7 ⟨⟨vs, rfl, hv⟩, hA, hK⟩
  replace hv : Kinds [.text, .num, .rows [.text], .whole, .whole, .text, .text, .text] vs := hv
  obtain ⟨_, vs, rfl, c7, hv⟩ := hv
  obtain ⟨_, vs, rfl, c8, hv⟩ := hv
  obtain ⟨_, vs, rfl, c9, hv⟩ := hv
  obtain ⟨_, vs, rfl, c10, hv⟩ := hv
  obtain ⟨_, vs, rfl, c11, hv⟩ := hv
  obtain ⟨_, vs, rfl, c12, hv⟩ := hv
  obtain ⟨_, vs, rfl, c13, hv⟩ := hv
  obtain ⟨_, vs, rfl, c14, hv⟩ := hv
  obtain rfl : vs = [] := hv
  obtain ⟨bw7, rfl⟩ := c7
  obtain ⟨nw8, rfl⟩ := c8
  obtain ⟨Aw9, mw9, kw9, rfl⟩ := c9
  obtain ⟨nw10, rfl⟩ := c10
  obtain ⟨nw11, rfl⟩ := c11
  obtain ⟨bw12, rfl⟩ := c12
  obtain ⟨bw13, rfl⟩ := c13
  obtain ⟨bw14, rfl⟩ := c14
  simp only [shRule, stepS_cons, stepS_nil] at hA
  replace HR := Lib.hid hA
  replace HB := Lib.hid (HB.out.trans hK.below)
  replace HK := Lib.hid (HK.out.trans hK.keeps)
  replace HX := Lib.hid (HX.out.keeps hK.keeps (by decide))
  replace HRes := Lib.hid (HRes.out.keeps hK.keeps (by decide))
  have hszw7 := HK.out.size
  clear hA hK
  have hcxw7_0 : w7.cell? ⟨w.heap.size + 1, 7, none⟩ = some (.string ⟨#[]⟩) := HX.out.cell 7
  have hfzw7_0 : w7.frozen? ⟨w.heap.size + 1, 7, none⟩ = false := HX.out.frozen 7
  have hcxw7_1 : w7.cell? ⟨w.heap.size + 1, 8, none⟩ = some (.int .i64 0) := HX.out.cell 8
  have hfzw7_1 : w7.frozen? ⟨w.heap.size + 1, 8, none⟩ = false := HX.out.frozen 8
  have hcxw7_2 : w7.cell? ⟨w.heap.size + 1, 9, none⟩ = some (.slice none 0 0) := HX.out.cell 9
  have hfzw7_2 : w7.frozen? ⟨w.heap.size + 1, 9, none⟩ = false := HX.out.frozen 9
  have hcxw7_3 : w7.cell? ⟨w.heap.size + 1, 10, none⟩ = some (.int .i64 0) := HX.out.cell 10
  have hfzw7_3 : w7.frozen? ⟨w.heap.size + 1, 10, none⟩ = false := HX.out.frozen 10
  have hcxw7_4 : w7.cell? ⟨w.heap.size + 1, 11, none⟩ = some (.int .i64 0) := HX.out.cell 11
  have hfzw7_4 : w7.frozen? ⟨w.heap.size + 1, 11, none⟩ = false := HX.out.frozen 11
  have hcxw7_5 : w7.cell? ⟨w.heap.size + 1, 12, none⟩ = some (.string ⟨#[]⟩) := HX.out.cell 12
  have hfzw7_5 : w7.frozen? ⟨w.heap.size + 1, 12, none⟩ = false := HX.out.frozen 12
  have hcxw7_6 : w7.cell? ⟨w.heap.size + 1, 13, none⟩ = some (.string ⟨#[]⟩) := HX.out.cell 13
  have hfzw7_6 : w7.frozen? ⟨w.heap.size + 1, 13, none⟩ = false := HX.out.frozen 13
  have hcxw7_7 : w7.cell? ⟨w.heap.size + 1, 14, none⟩ = some (.string ⟨#[]⟩) := HX.out.cell 14
  have hfzw7_7 : w7.frozen? ⟨w.heap.size + 1, 14, none⟩ = false := HX.out.frozen 14
  have HY : Hid (Blk ((((((((w7.setCell ⟨w.heap.size + 1, 7, none⟩ (.string bw7)).setCell ⟨w.heap.size + 1, 8, none⟩ (.int .i64 nw8)).setCell ⟨w.heap.size + 1, 9, none⟩ (.slice Aw9 mw9 kw9)).setCell ⟨w.heap.size + 1, 10, none⟩ (.int .i64 nw10)).setCell ⟨w.heap.size + 1, 11, none⟩ (.int .i64 nw11)).setCell ⟨w.heap.size + 1, 12, none⟩ (.string bw12)).setCell ⟨w.heap.size + 1, 13, none⟩ (.string bw13)).setCell ⟨w.heap.size + 1, 14, none⟩ (.string bw14)) (w.heap.size + 1) 49 [.int .i64 nw0, .string bw1, .string bw2, .string bw3, .string bw4, .string bw5, .slice Aw6 mw6 kw6, .string bw7, .int .i64 nw8, .slice Aw9 mw9 kw9, .int .i64 nw10, .int .i64 nw11, .string bw12, .string bw13, .string bw14, .int .i64 0, .bool false]) := Lib.hid ((((((((HX.out.set_ 7 (.string bw7)).set_ 8 (.int .i64 nw8)).set_ 9 (.slice Aw9 mw9 kw9)).set_ 10 (.int .i64 nw10)).set_ 11 (.int .i64 nw11)).set_ 12 (.string bw12)).set_ 13 (.string bw13)).set_ 14 (.string bw14))
  have HKA : Hid (Keeps [49] w7 ((((((((w7.setCell ⟨w.heap.size + 1, 7, none⟩ (.string bw7)).setCell ⟨w.heap.size + 1, 8, none⟩ (.int .i64 nw8)).setCell ⟨w.heap.size + 1, 9, none⟩ (.slice Aw9 mw9 kw9)).setCell ⟨w.heap.size + 1, 10, none⟩ (.int .i64 nw10)).setCell ⟨w.heap.size + 1, 11, none⟩ (.int .i64 nw11)).setCell ⟨w.heap.size + 1, 12, none⟩ (.string bw12)).setCell ⟨w.heap.size + 1, 13, none⟩ (.string bw13)).setCell ⟨w.heap.size + 1, 14, none⟩ (.string bw14))) := Lib.hid (((((((((Keeps.refl _ _).trans (Keeps.set_ HX.out.typ (by simp) (.string bw7))).trans (Keeps.set_ (HX.out.set_ 7 (.string bw7)).typ (by simp) (.int .i64 nw8))).trans (Keeps.set_ ((HX.out.set_ 7 (.string bw7)).set_ 8 (.int .i64 nw8)).typ (by simp) (.slice Aw9 mw9 kw9))).trans (Keeps.set_ (((HX.out.set_ 7 (.string bw7)).set_ 8 (.int .i64 nw8)).set_ 9 (.slice Aw9 mw9 kw9)).typ (by simp) (.int .i64 nw10))).trans (Keeps.set_ ((((HX.out.set_ 7 (.string bw7)).set_ 8 (.int .i64 nw8)).set_ 9 (.slice Aw9 mw9 kw9)).set_ 10 (.int .i64 nw10)).typ (by simp) (.int .i64 nw11))).trans (Keeps.set_ (((((HX.out.set_ 7 (.string bw7)).set_ 8 (.int .i64 nw8)).set_ 9 (.slice Aw9 mw9 kw9)).set_ 10 (.int .i64 nw10)).set_ 11 (.int .i64 nw11)).typ (by simp) (.string bw12))).trans (Keeps.set_ ((((((HX.out.set_ 7 (.string bw7)).set_ 8 (.int .i64 nw8)).set_ 9 (.slice Aw9 mw9 kw9)).set_ 10 (.int .i64 nw10)).set_ 11 (.int .i64 nw11)).set_ 12 (.string bw12)).typ (by simp) (.string bw13))).trans (Keeps.set_ (((((((HX.out.set_ 7 (.string bw7)).set_ 8 (.int .i64 nw8)).set_ 9 (.slice Aw9 mw9 kw9)).set_ 10 (.int .i64 nw10)).set_ 11 (.int .i64 nw11)).set_ 12 (.string bw12)).set_ 13 (.string bw13)).typ (by simp) (.string bw14)))
  have HBA : Hid (Below w.heap.size w7 ((((((((w7.setCell ⟨w.heap.size + 1, 7, none⟩ (.string bw7)).setCell ⟨w.heap.size + 1, 8, none⟩ (.int .i64 nw8)).setCell ⟨w.heap.size + 1, 9, none⟩ (.slice Aw9 mw9 kw9)).setCell ⟨w.heap.size + 1, 10, none⟩ (.int .i64 nw10)).setCell ⟨w.heap.size + 1, 11, none⟩ (.int .i64 nw11)).setCell ⟨w.heap.size + 1, 12, none⟩ (.string bw12)).setCell ⟨w.heap.size + 1, 13, none⟩ (.string bw13)).setCell ⟨w.heap.size + 1, 14, none⟩ (.string bw14))) := Lib.hid (((((((((Below.refl w.heap.size w7).setCell hgx _).setCell hgx _).setCell hgx _).setCell hgx _).setCell hgx _).setCell hgx _).setCell hgx _).setCell hgx _)
  replace HRes := Lib.hid ((((((((HRes.out.far (p := ⟨w.heap.size + 1, 7, none⟩) (by dsimp only; omega) (.string bw7)).far (p := ⟨w.heap.size + 1, 8, none⟩) (by dsimp only; omega) (.int .i64 nw8)).far (p := ⟨w.heap.size + 1, 9, none⟩) (by dsimp only; omega) (.slice Aw9 mw9 kw9)).far (p := ⟨w.heap.size + 1, 10, none⟩) (by dsimp only; omega) (.int .i64 nw10)).far (p := ⟨w.heap.size + 1, 11, none⟩) (by dsimp only; omega) (.int .i64 nw11)).far (p := ⟨w.heap.size + 1, 12, none⟩) (by dsimp only; omega) (.string bw12)).far (p := ⟨w.heap.size + 1, 13, none⟩) (by dsimp only; omega) (.string bw13)).far (p := ⟨w.heap.size + 1, 14, none⟩) (by dsimp only; omega) (.string bw14))
  replace HX := HY
  replace HR := Lib.hid (HR.out.keeps HKA.out (HBA.out.mono hbs) (by decide) (by decide))
  replace HB := Lib.hid (HB.out.trans (HBA.out.mono hbs))
  replace HK := Lib.hid (HK.out.below_new HBA.out)
  clear HY HKA HBA
  go_wp2_with fail
  refine (C_num base g (stepO (.text) (stepO (.text) (stepO (.text) (stepO (.whole) (stepO (.whole) (stepO (.rows [.text]) (stepO (.num) (stepO (.text) (stepO (.rows shColumn) (stepO .text (stepO .text (stepO .text (stepO .text (stepO .text (stepO .num (o)))))))))))))))) _ HR.out).mono ?_
  rintro e w8 ⟨⟨v, rfl, _⟩, hA, hK⟩
  obtain ⟨nw15, rfl⟩ : ∃ x, x = v := ⟨v, rfl⟩
  replace HR := Lib.hid hA
  replace HB := Lib.hid (HB.out.trans hK.below)
  replace HK := Lib.hid (HK.out.trans hK.keeps)
  replace HX := Lib.hid (HX.out.keeps hK.keeps (by decide))
  replace HRes := Lib.hid (HRes.out.keeps hK.keeps (by decide))
  have hszw8 := HK.out.size
  clear hA hK
  have hcxw8_0 : w8.cell? ⟨w.heap.size + 1, 15, none⟩ = some (.int .i64 0) := HX.out.cell 15
  have hfzw8_0 : w8.frozen? ⟨w.heap.size + 1, 15, none⟩ = false := HX.out.frozen 15
  have HY : Hid (Blk (w8.setCell ⟨w.heap.size + 1, 15, none⟩ (.int .i64 nw15)) (w.heap.size + 1) 49 [.int .i64 nw0, .string bw1, .string bw2, .string bw3, .string bw4, .string bw5, .slice Aw6 mw6 kw6, .string bw7, .int .i64 nw8, .slice Aw9 mw9 kw9, .int .i64 nw10, .int .i64 nw11, .string bw12, .string bw13, .string bw14, .int .i64 nw15, .bool false]) := Lib.hid (HX.out.set_ 15 (.int .i64 nw15))
  have HKA : Hid (Keeps [49] w8 (w8.setCell ⟨w.heap.size + 1, 15, none⟩ (.int .i64 nw15))) := Lib.hid ((Keeps.refl _ _).trans (Keeps.set_ HX.out.typ (by simp) (.int .i64 nw15)))
  have HBA : Hid (Below w.heap.size w8 (w8.setCell ⟨w.heap.size + 1, 15, none⟩ (.int .i64 nw15))) := Lib.hid ((Below.refl w.heap.size w8).setCell hgx _)
  replace HRes := Lib.hid (HRes.out.far (p := ⟨w.heap.size + 1, 15, none⟩) (by dsimp only; omega) (.int .i64 nw15))
  replace HX := HY
  replace HR := Lib.hid (HR.out.keeps HKA.out (HBA.out.mono hbs) (by decide) (by decide))
  replace HB := Lib.hid (HB.out.trans (HBA.out.mono hbs))
  replace HK := Lib.hid (HK.out.below_new HBA.out)
  clear HY HKA HBA
  go_wp2_with fail
  refine (C_flag base g (stepO .num (stepO (.text) (stepO (.text) (stepO (.text) (stepO (.whole) (stepO (.whole) (stepO (.rows [.text]) (stepO (.num) (stepO (.text) (stepO (.rows shColumn) (stepO .text (stepO .text (stepO .text (stepO .text (stepO .text (stepO .num (o))))))))))))))))) _ HR.out).mono ?_
  rintro e w9 ⟨⟨v, rfl⟩, hA, hK⟩
  obtain ⟨fw16, rfl⟩ : ∃ x, x = v := ⟨v, rfl⟩
  replace HR := Lib.hid hA
  replace HB := Lib.hid (HB.out.trans hK.below)
  replace HK := Lib.hid (HK.out.trans hK.keeps)
  replace HX := Lib.hid (HX.out.keeps hK.keeps (by decide))
  replace HRes := Lib.hid (HRes.out.keeps hK.keeps (by decide))
  have hszw9 := HK.out.size
  clear hA hK
  have hcxw9_0 : w9.cell? ⟨w.heap.size + 1, 16, none⟩ = some (.bool false) := HX.out.cell 16
  have hfzw9_0 : w9.frozen? ⟨w.heap.size + 1, 16, none⟩ = false := HX.out.frozen 16
  have HY : Hid (Blk (w9.setCell ⟨w.heap.size + 1, 16, none⟩ (.bool fw16)) (w.heap.size + 1) 49 [.int .i64 nw0, .string bw1, .string bw2, .string bw3, .string bw4, .string bw5, .slice Aw6 mw6 kw6, .string bw7, .int .i64 nw8, .slice Aw9 mw9 kw9, .int .i64 nw10, .int .i64 nw11, .string bw12, .string bw13, .string bw14, .int .i64 nw15, .bool fw16]) := Lib.hid (HX.out.set_ 16 (.bool fw16))
  have HKA : Hid (Keeps [49] w9 (w9.setCell ⟨w.heap.size + 1, 16, none⟩ (.bool fw16))) := Lib.hid ((Keeps.refl _ _).trans (Keeps.set_ HX.out.typ (by simp) (.bool fw16)))
  have HBA : Hid (Below w.heap.size w9 (w9.setCell ⟨w.heap.size + 1, 16, none⟩ (.bool fw16))) := Lib.hid ((Below.refl w.heap.size w9).setCell hgx _)
  replace HRes := Lib.hid (HRes.out.far (p := ⟨w.heap.size + 1, 16, none⟩) (by dsimp only; omega) (.bool fw16))
  replace HX := HY
  replace HR := Lib.hid (HR.out.keeps HKA.out (HBA.out.mono hbs) (by decide) (by decide))
  replace HB := Lib.hid (HB.out.trans (HBA.out.mono hbs))
  replace HK := Lib.hid (HK.out.below_new HBA.out)
  clear HY HKA HBA
  have HRG := Lib.hid HX.out.range0
  have HTE : Hid (World.there _ w.heap.size 0 (List.toArray ([.int .i64 nw0, .string bw1, .string bw2, .string bw3, .string bw4, .string bw5, .slice Aw6 mw6 kw6, .string bw7, .int .i64 nw8, .slice Aw9 mw9 kw9, .int .i64 nw10, .int .i64 nw11, .string bw12, .string bw13, .string bw14, .int .i64 nw15, .bool fw16] : List Value)).size) := Lib.hid (HRes.out.there 0 17 (by simp))
  have hiV : Hid ((Try.prog.info? 49).map (·.size) = some (List.length ([.int .i64 nw0, .string bw1, .string bw2, .string bw3, .string bw4, .string bw5, .slice Aw6 mw6 kw6, .string bw7, .int .i64 nw8, .slice Aw9 mw9 kw9, .int .i64 nw10, .int .i64 nw11, .string bw12, .string bw13, .string bw14, .int .i64 nw15, .bool fw16] : List Value))) := Lib.hid hi.out
  have hsV : Hid ((Try.prog.info? 49).map (·.size) = some (List.toArray ([.int .i64 nw0, .string bw1, .string bw2, .string bw3, .string bw4, .string bw5, .slice Aw6 mw6 kw6, .string bw7, .int .i64 nw8, .slice Aw9 mw9 kw9, .int .i64 nw10, .int .i64 nw11, .string bw12, .string bw13, .string bw14, .int .i64 nw15, .bool fw16] : List Value)).size) := Lib.hid hi.out
  have h1V : Hid ((List.toArray ([.int .i64 nw0, .string bw1, .string bw2, .string bw3, .string bw4, .string bw5, .slice Aw6 mw6 kw6, .string bw7, .int .i64 nw8, .slice Aw9 mw9 kw9, .int .i64 nw10, .int .i64 nw11, .string bw12, .string bw13, .string bw14, .int .i64 nw15, .bool fw16] : List Value)).all (·.oneCell') = true) := Lib.hid (all_oneCell_toArray (by simp [Value.oneCell']))
  go_wp2_with (first | (with_reducible refine wpList_load_mid rfl 49 _ rfl (w.heap.size + 1) 0 rfl [.int .i64 nw0, .string bw1, .string bw2, .string bw3, .string bw4, .string bw5, .slice Aw6 mw6 kw6, .string bw7, .int .i64 nw8, .slice Aw9 mw9 kw9, .int .i64 nw10, .int .i64 nw11, .string bw12, .string bw13, .string bw14, .int .i64 nw15, .bool fw16] _ HRG.out Try.underlying49 rfl hiV.out ?_) | (with_reducible refine wpList_store_mid rfl 49 _ _ rfl w.heap.size 0 (List.toArray ([.int .i64 nw0, .string bw1, .string bw2, .string bw3, .string bw4, .string bw5, .slice Aw6 mw6 kw6, .string bw7, .int .i64 nw8, .slice Aw9 mw9 kw9, .int .i64 nw10, .int .i64 nw11, .string bw12, .string bw13, .string bw14, .int .i64 nw15, .bool fw16] : List Value)) rfl rfl HTE.out hsV.out h1V.out ?_))
  have HXE := Lib.hid (HRes.out.setCells0 [.int .i64 nw0, .string bw1, .string bw2, .string bw3, .string bw4, .string bw5, .slice Aw6 mw6 kw6, .string bw7, .int .i64 nw8, .slice Aw9 mw9 kw9, .int .i64 nw10, .int .i64 nw11, .string bw12, .string bw13, .string bw14, .int .i64 nw15, .bool fw16] rfl)
  have HKE := Lib.hid (Keeps.setCells (ts := [49]) (t := 49) (by simp) HRes.out.typ 0 [.int .i64 nw0, .string bw1, .string bw2, .string bw3, .string bw4, .string bw5, .slice Aw6 mw6 kw6, .string bw7, .int .i64 nw8, .slice Aw9 mw9 kw9, .int .i64 nw10, .int .i64 nw11, .string bw12, .string bw13, .string bw14, .int .i64 nw15, .bool fw16])
  refine bodyPost_ret (results_cell rfl _ _ w.heap.size rfl [.int .i64 nw0, .string bw1, .string bw2, .string bw3, .string bw4, .string bw5, .slice Aw6 mw6 kw6, .string bw7, .int .i64 nw8, .slice Aw9 mw9 kw9, .int .i64 nw10, .int .i64 nw11, .string bw12, .string bw13, .string bw14, .int .i64 nw15, .bool fw16] _ HXE.out.range0 Try.underlying49 rfl hiV.out) rfl ?_
  refine ⟨⟨[.int .i64 nw0, .string bw1, .string bw2, .string bw3, .string bw4, .string bw5, .slice Aw6 mw6 kw6, .string bw7, .int .i64 nw8, .slice Aw9 mw9 kw9, .int .i64 nw10, .int .i64 nw11, .string bw12, .string bw13, .string bw14, .int .i64 nw15, .bool fw16], rfl, (Kinds.mk (Kind1.num nw0) (Kinds.mk (Kind1.text bw1) (Kinds.mk (Kind1.text bw2) (Kinds.mk (Kind1.text bw3) (Kinds.mk (Kind1.text bw4) (Kinds.mk (Kind1.text bw5) (Kinds.mk (Kind1.rows _ Aw6 mw6 kw6) (Kinds.mk (Kind1.text bw7) (Kinds.mk (Kind1.num nw8) (Kinds.mk (Kind1.rows _ Aw9 mw9 kw9) (Kinds.mk (Kind1.whole nw10) (Kinds.mk (Kind1.whole nw11) (Kinds.mk (Kind1.text bw12) (Kinds.mk (Kind1.text bw13) (Kinds.mk (Kind1.text bw14) (Kinds.mk (Kind1.num nw15) (Kinds.mk (Kind1.flag fw16) Kinds.mk0)))))))))))))))))⟩, ?_, HB.out.trans (below_setCells_ hbs _ _), HK.out.below_new (below_setCells_ (Nat.le_refl _) _ _)⟩
  have hfin := HR.out.keeps HKE.out (below_setCells_ hbs _ _) (by decide) (by decide)
  simpa only [shCommand, stepS_cons, stepS_nil] using hfin

end Go.Proofs.Yteohhgkehkmgcaa
