/- The walks of the reference that reads: lists and structs. Printed by mkcu.py. -/
import Derived.Test.YteohhgkehkmgcaaCu6
namespace Go.Proofs.Yteohhgkehkmgcaa
open Go.RowKit Le
set_option maxRecDepth 100000
set_option linter.unusedVariables false
set_option linter.unusedSimpArgs false

set_option maxHeartbeats 1600000 in
theorem C_Op (base g : Nat) (o : Option (List UInt8)) (w : World) (h : CutAt w base g o) :
    Calls Try.prog 46 #[.pointer (some ⟨g, 0, none⟩)] w fun e w' => (∃ vs, e = .returned (.agg vs.toArray) ∧ Kinds shOp vs) ∧ CutAt w' base g (stepS shOp o) ∧ Cuts base w w' := by
  have hi : (Try.prog.info? 51).map (·.size) = some 23 := by kernel_rfl
  replace hi := Lib.hid hi
  have hbs := h.lt
  have hgx : w.heap.size ≤ w.heap.size + 1 := Nat.le_succ _
  have HX : Hid (Blk ((w.alloc (.cells #[.int .i64 0, .int .i64 0, .int .i64 0, .int .i64 0, .string ⟨#[]⟩, .string ⟨#[]⟩, .string ⟨#[]⟩, .string ⟨#[]⟩, .string ⟨#[]⟩, .slice none 0 0, .string ⟨#[]⟩, .int .i64 0, .slice none 0 0, .int .i64 0, .int .i64 0, .string ⟨#[]⟩, .string ⟨#[]⟩, .string ⟨#[]⟩, .int .i64 0, .bool false, .int .i64 0, .int .i64 0, .int .i64 0] 51)).alloc (.cells #[.int .i64 0, .int .i64 0, .int .i64 0, .int .i64 0, .string ⟨#[]⟩, .string ⟨#[]⟩, .string ⟨#[]⟩, .string ⟨#[]⟩, .string ⟨#[]⟩, .slice none 0 0, .string ⟨#[]⟩, .int .i64 0, .slice none 0 0, .int .i64 0, .int .i64 0, .string ⟨#[]⟩, .string ⟨#[]⟩, .string ⟨#[]⟩, .int .i64 0, .bool false, .int .i64 0, .int .i64 0, .int .i64 0] 51)) (w.heap.size + 1) 51 [.int .i64 0, .int .i64 0, .int .i64 0, .int .i64 0, .string ⟨#[]⟩, .string ⟨#[]⟩, .string ⟨#[]⟩, .string ⟨#[]⟩, .string ⟨#[]⟩, .slice none 0 0, .string ⟨#[]⟩, .int .i64 0, .slice none 0 0, .int .i64 0, .int .i64 0, .string ⟨#[]⟩, .string ⟨#[]⟩, .string ⟨#[]⟩, .int .i64 0, .bool false, .int .i64 0, .int .i64 0, .int .i64 0]) := Lib.hid (by have := Blk.new (w.alloc (.cells #[.int .i64 0, .int .i64 0, .int .i64 0, .int .i64 0, .string ⟨#[]⟩, .string ⟨#[]⟩, .string ⟨#[]⟩, .string ⟨#[]⟩, .string ⟨#[]⟩, .slice none 0 0, .string ⟨#[]⟩, .int .i64 0, .slice none 0 0, .int .i64 0, .int .i64 0, .string ⟨#[]⟩, .string ⟨#[]⟩, .string ⟨#[]⟩, .int .i64 0, .bool false, .int .i64 0, .int .i64 0, .int .i64 0] 51)) 51 [.int .i64 0, .int .i64 0, .int .i64 0, .int .i64 0, .string ⟨#[]⟩, .string ⟨#[]⟩, .string ⟨#[]⟩, .string ⟨#[]⟩, .string ⟨#[]⟩, .slice none 0 0, .string ⟨#[]⟩, .int .i64 0, .slice none 0 0, .int .i64 0, .int .i64 0, .string ⟨#[]⟩, .string ⟨#[]⟩, .string ⟨#[]⟩, .int .i64 0, .bool false, .int .i64 0, .int .i64 0, .int .i64 0]; simpa using this)
  have HRes : Hid (Blk ((w.alloc (.cells #[.int .i64 0, .int .i64 0, .int .i64 0, .int .i64 0, .string ⟨#[]⟩, .string ⟨#[]⟩, .string ⟨#[]⟩, .string ⟨#[]⟩, .string ⟨#[]⟩, .slice none 0 0, .string ⟨#[]⟩, .int .i64 0, .slice none 0 0, .int .i64 0, .int .i64 0, .string ⟨#[]⟩, .string ⟨#[]⟩, .string ⟨#[]⟩, .int .i64 0, .bool false, .int .i64 0, .int .i64 0, .int .i64 0] 51)).alloc (.cells #[.int .i64 0, .int .i64 0, .int .i64 0, .int .i64 0, .string ⟨#[]⟩, .string ⟨#[]⟩, .string ⟨#[]⟩, .string ⟨#[]⟩, .string ⟨#[]⟩, .slice none 0 0, .string ⟨#[]⟩, .int .i64 0, .slice none 0 0, .int .i64 0, .int .i64 0, .string ⟨#[]⟩, .string ⟨#[]⟩, .string ⟨#[]⟩, .int .i64 0, .bool false, .int .i64 0, .int .i64 0, .int .i64 0] 51)) w.heap.size 51 [.int .i64 0, .int .i64 0, .int .i64 0, .int .i64 0, .string ⟨#[]⟩, .string ⟨#[]⟩, .string ⟨#[]⟩, .string ⟨#[]⟩, .string ⟨#[]⟩, .slice none 0 0, .string ⟨#[]⟩, .int .i64 0, .slice none 0 0, .int .i64 0, .int .i64 0, .string ⟨#[]⟩, .string ⟨#[]⟩, .string ⟨#[]⟩, .int .i64 0, .bool false, .int .i64 0, .int .i64 0, .int .i64 0]) := Lib.hid ((Blk.new w 51 [.int .i64 0, .int .i64 0, .int .i64 0, .int .i64 0, .string ⟨#[]⟩, .string ⟨#[]⟩, .string ⟨#[]⟩, .string ⟨#[]⟩, .string ⟨#[]⟩, .slice none 0 0, .string ⟨#[]⟩, .int .i64 0, .slice none 0 0, .int .i64 0, .int .i64 0, .string ⟨#[]⟩, .string ⟨#[]⟩, .string ⟨#[]⟩, .int .i64 0, .bool false, .int .i64 0, .int .i64 0, .int .i64 0]).alloc _)
  have hbw : Below w.heap.size w ((w.alloc (.cells #[.int .i64 0, .int .i64 0, .int .i64 0, .int .i64 0, .string ⟨#[]⟩, .string ⟨#[]⟩, .string ⟨#[]⟩, .string ⟨#[]⟩, .string ⟨#[]⟩, .slice none 0 0, .string ⟨#[]⟩, .int .i64 0, .slice none 0 0, .int .i64 0, .int .i64 0, .string ⟨#[]⟩, .string ⟨#[]⟩, .string ⟨#[]⟩, .int .i64 0, .bool false, .int .i64 0, .int .i64 0, .int .i64 0] 51)).alloc (.cells #[.int .i64 0, .int .i64 0, .int .i64 0, .int .i64 0, .string ⟨#[]⟩, .string ⟨#[]⟩, .string ⟨#[]⟩, .string ⟨#[]⟩, .string ⟨#[]⟩, .slice none 0 0, .string ⟨#[]⟩, .int .i64 0, .slice none 0 0, .int .i64 0, .int .i64 0, .string ⟨#[]⟩, .string ⟨#[]⟩, .string ⟨#[]⟩, .int .i64 0, .bool false, .int .i64 0, .int .i64 0, .int .i64 0] 51)) := ((Below.refl _ _).alloc (Nat.le_refl _) _).alloc (by simp) _
  have HTZ : Hid (World.there ((w.alloc (.cells #[.int .i64 0, .int .i64 0, .int .i64 0, .int .i64 0, .string ⟨#[]⟩, .string ⟨#[]⟩, .string ⟨#[]⟩, .string ⟨#[]⟩, .string ⟨#[]⟩, .slice none 0 0, .string ⟨#[]⟩, .int .i64 0, .slice none 0 0, .int .i64 0, .int .i64 0, .string ⟨#[]⟩, .string ⟨#[]⟩, .string ⟨#[]⟩, .int .i64 0, .bool false, .int .i64 0, .int .i64 0, .int .i64 0] 51)).alloc (.cells #[.int .i64 0, .int .i64 0, .int .i64 0, .int .i64 0, .string ⟨#[]⟩, .string ⟨#[]⟩, .string ⟨#[]⟩, .string ⟨#[]⟩, .string ⟨#[]⟩, .slice none 0 0, .string ⟨#[]⟩, .int .i64 0, .slice none 0 0, .int .i64 0, .int .i64 0, .string ⟨#[]⟩, .string ⟨#[]⟩, .string ⟨#[]⟩, .int .i64 0, .bool false, .int .i64 0, .int .i64 0, .int .i64 0] 51)) (w.heap.size + 1) 0 (List.toArray ([.int .i64 0, .int .i64 0, .int .i64 0, .int .i64 0, .string ⟨#[]⟩, .string ⟨#[]⟩, .string ⟨#[]⟩, .string ⟨#[]⟩, .string ⟨#[]⟩, .slice none 0 0, .string ⟨#[]⟩, .int .i64 0, .slice none 0 0, .int .i64 0, .int .i64 0, .string ⟨#[]⟩, .string ⟨#[]⟩, .string ⟨#[]⟩, .int .i64 0, .bool false, .int .i64 0, .int .i64 0, .int .i64 0] : List Value)).size) := Lib.hid (HX.out.there 0 23 (by simp))
  have hsZ : Hid ((Try.prog.info? 51).map (·.size) = some (List.toArray ([.int .i64 0, .int .i64 0, .int .i64 0, .int .i64 0, .string ⟨#[]⟩, .string ⟨#[]⟩, .string ⟨#[]⟩, .string ⟨#[]⟩, .string ⟨#[]⟩, .slice none 0 0, .string ⟨#[]⟩, .int .i64 0, .slice none 0 0, .int .i64 0, .int .i64 0, .string ⟨#[]⟩, .string ⟨#[]⟩, .string ⟨#[]⟩, .int .i64 0, .bool false, .int .i64 0, .int .i64 0, .int .i64 0] : List Value)).size) := Lib.hid (by kernel_rfl)
  have h1Z : Hid ((List.toArray ([.int .i64 0, .int .i64 0, .int .i64 0, .int .i64 0, .string ⟨#[]⟩, .string ⟨#[]⟩, .string ⟨#[]⟩, .string ⟨#[]⟩, .string ⟨#[]⟩, .slice none 0 0, .string ⟨#[]⟩, .int .i64 0, .slice none 0 0, .int .i64 0, .int .i64 0, .string ⟨#[]⟩, .string ⟨#[]⟩, .string ⟨#[]⟩, .int .i64 0, .bool false, .int .i64 0, .int .i64 0, .int .i64 0] : List Value)).all (·.oneCell') = true) := Lib.hid (all_oneCell_toArray (by simp [Value.oneCell']))
  have hbw3 : Below w.heap.size w (((w.alloc (.cells #[.int .i64 0, .int .i64 0, .int .i64 0, .int .i64 0, .string ⟨#[]⟩, .string ⟨#[]⟩, .string ⟨#[]⟩, .string ⟨#[]⟩, .string ⟨#[]⟩, .slice none 0 0, .string ⟨#[]⟩, .int .i64 0, .slice none 0 0, .int .i64 0, .int .i64 0, .string ⟨#[]⟩, .string ⟨#[]⟩, .string ⟨#[]⟩, .int .i64 0, .bool false, .int .i64 0, .int .i64 0, .int .i64 0] 51)).alloc (.cells #[.int .i64 0, .int .i64 0, .int .i64 0, .int .i64 0, .string ⟨#[]⟩, .string ⟨#[]⟩, .string ⟨#[]⟩, .string ⟨#[]⟩, .string ⟨#[]⟩, .slice none 0 0, .string ⟨#[]⟩, .int .i64 0, .slice none 0 0, .int .i64 0, .int .i64 0, .string ⟨#[]⟩, .string ⟨#[]⟩, .string ⟨#[]⟩, .int .i64 0, .bool false, .int .i64 0, .int .i64 0, .int .i64 0] 51)).setCells (w.heap.size + 1) 0 [.int .i64 0, .int .i64 0, .int .i64 0, .int .i64 0, .string ⟨#[]⟩, .string ⟨#[]⟩, .string ⟨#[]⟩, .string ⟨#[]⟩, .string ⟨#[]⟩, .slice none 0 0, .string ⟨#[]⟩, .int .i64 0, .slice none 0 0, .int .i64 0, .int .i64 0, .string ⟨#[]⟩, .string ⟨#[]⟩, .string ⟨#[]⟩, .int .i64 0, .bool false, .int .i64 0, .int .i64 0, .int .i64 0]) := hbw.trans (below_setCells_ hgx 0 [.int .i64 0, .int .i64 0, .int .i64 0, .int .i64 0, .string ⟨#[]⟩, .string ⟨#[]⟩, .string ⟨#[]⟩, .string ⟨#[]⟩, .string ⟨#[]⟩, .slice none 0 0, .string ⟨#[]⟩, .int .i64 0, .slice none 0 0, .int .i64 0, .int .i64 0, .string ⟨#[]⟩, .string ⟨#[]⟩, .string ⟨#[]⟩, .int .i64 0, .bool false, .int .i64 0, .int .i64 0, .int .i64 0])
  have HR := Lib.hid (h.below_ hbw3)
  have HB : Hid (Below base w (((w.alloc (.cells #[.int .i64 0, .int .i64 0, .int .i64 0, .int .i64 0, .string ⟨#[]⟩, .string ⟨#[]⟩, .string ⟨#[]⟩, .string ⟨#[]⟩, .string ⟨#[]⟩, .slice none 0 0, .string ⟨#[]⟩, .int .i64 0, .slice none 0 0, .int .i64 0, .int .i64 0, .string ⟨#[]⟩, .string ⟨#[]⟩, .string ⟨#[]⟩, .int .i64 0, .bool false, .int .i64 0, .int .i64 0, .int .i64 0] 51)).alloc (.cells #[.int .i64 0, .int .i64 0, .int .i64 0, .int .i64 0, .string ⟨#[]⟩, .string ⟨#[]⟩, .string ⟨#[]⟩, .string ⟨#[]⟩, .string ⟨#[]⟩, .slice none 0 0, .string ⟨#[]⟩, .int .i64 0, .slice none 0 0, .int .i64 0, .int .i64 0, .string ⟨#[]⟩, .string ⟨#[]⟩, .string ⟨#[]⟩, .int .i64 0, .bool false, .int .i64 0, .int .i64 0, .int .i64 0] 51)).setCells (w.heap.size + 1) 0 [.int .i64 0, .int .i64 0, .int .i64 0, .int .i64 0, .string ⟨#[]⟩, .string ⟨#[]⟩, .string ⟨#[]⟩, .string ⟨#[]⟩, .string ⟨#[]⟩, .slice none 0 0, .string ⟨#[]⟩, .int .i64 0, .slice none 0 0, .int .i64 0, .int .i64 0, .string ⟨#[]⟩, .string ⟨#[]⟩, .string ⟨#[]⟩, .int .i64 0, .bool false, .int .i64 0, .int .i64 0, .int .i64 0])) := Lib.hid (hbw3.mono hbs)
  have HK : Hid (Keeps [144, 142] w (((w.alloc (.cells #[.int .i64 0, .int .i64 0, .int .i64 0, .int .i64 0, .string ⟨#[]⟩, .string ⟨#[]⟩, .string ⟨#[]⟩, .string ⟨#[]⟩, .string ⟨#[]⟩, .slice none 0 0, .string ⟨#[]⟩, .int .i64 0, .slice none 0 0, .int .i64 0, .int .i64 0, .string ⟨#[]⟩, .string ⟨#[]⟩, .string ⟨#[]⟩, .int .i64 0, .bool false, .int .i64 0, .int .i64 0, .int .i64 0] 51)).alloc (.cells #[.int .i64 0, .int .i64 0, .int .i64 0, .int .i64 0, .string ⟨#[]⟩, .string ⟨#[]⟩, .string ⟨#[]⟩, .string ⟨#[]⟩, .string ⟨#[]⟩, .slice none 0 0, .string ⟨#[]⟩, .int .i64 0, .slice none 0 0, .int .i64 0, .int .i64 0, .string ⟨#[]⟩, .string ⟨#[]⟩, .string ⟨#[]⟩, .int .i64 0, .bool false, .int .i64 0, .int .i64 0, .int .i64 0] 51)).setCells (w.heap.size + 1) 0 [.int .i64 0, .int .i64 0, .int .i64 0, .int .i64 0, .string ⟨#[]⟩, .string ⟨#[]⟩, .string ⟨#[]⟩, .string ⟨#[]⟩, .string ⟨#[]⟩, .slice none 0 0, .string ⟨#[]⟩, .int .i64 0, .slice none 0 0, .int .i64 0, .int .i64 0, .string ⟨#[]⟩, .string ⟨#[]⟩, .string ⟨#[]⟩, .int .i64 0, .bool false, .int .i64 0, .int .i64 0, .int .i64 0])) := Lib.hid (Keeps.of_below hbw3 (Nat.le_refl _))
  replace HX : Hid (Blk (((w.alloc (.cells #[.int .i64 0, .int .i64 0, .int .i64 0, .int .i64 0, .string ⟨#[]⟩, .string ⟨#[]⟩, .string ⟨#[]⟩, .string ⟨#[]⟩, .string ⟨#[]⟩, .slice none 0 0, .string ⟨#[]⟩, .int .i64 0, .slice none 0 0, .int .i64 0, .int .i64 0, .string ⟨#[]⟩, .string ⟨#[]⟩, .string ⟨#[]⟩, .int .i64 0, .bool false, .int .i64 0, .int .i64 0, .int .i64 0] 51)).alloc (.cells #[.int .i64 0, .int .i64 0, .int .i64 0, .int .i64 0, .string ⟨#[]⟩, .string ⟨#[]⟩, .string ⟨#[]⟩, .string ⟨#[]⟩, .string ⟨#[]⟩, .slice none 0 0, .string ⟨#[]⟩, .int .i64 0, .slice none 0 0, .int .i64 0, .int .i64 0, .string ⟨#[]⟩, .string ⟨#[]⟩, .string ⟨#[]⟩, .int .i64 0, .bool false, .int .i64 0, .int .i64 0, .int .i64 0] 51)).setCells (w.heap.size + 1) 0 [.int .i64 0, .int .i64 0, .int .i64 0, .int .i64 0, .string ⟨#[]⟩, .string ⟨#[]⟩, .string ⟨#[]⟩, .string ⟨#[]⟩, .string ⟨#[]⟩, .slice none 0 0, .string ⟨#[]⟩, .int .i64 0, .slice none 0 0, .int .i64 0, .int .i64 0, .string ⟨#[]⟩, .string ⟨#[]⟩, .string ⟨#[]⟩, .int .i64 0, .bool false, .int .i64 0, .int .i64 0, .int .i64 0]) (w.heap.size + 1) 51 [.int .i64 0, .int .i64 0, .int .i64 0, .int .i64 0, .string ⟨#[]⟩, .string ⟨#[]⟩, .string ⟨#[]⟩, .string ⟨#[]⟩, .string ⟨#[]⟩, .slice none 0 0, .string ⟨#[]⟩, .int .i64 0, .slice none 0 0, .int .i64 0, .int .i64 0, .string ⟨#[]⟩, .string ⟨#[]⟩, .string ⟨#[]⟩, .int .i64 0, .bool false, .int .i64 0, .int .i64 0, .int .i64 0]) := Lib.hid (HX.out.setCells0 [.int .i64 0, .int .i64 0, .int .i64 0, .int .i64 0, .string ⟨#[]⟩, .string ⟨#[]⟩, .string ⟨#[]⟩, .string ⟨#[]⟩, .string ⟨#[]⟩, .slice none 0 0, .string ⟨#[]⟩, .int .i64 0, .slice none 0 0, .int .i64 0, .int .i64 0, .string ⟨#[]⟩, .string ⟨#[]⟩, .string ⟨#[]⟩, .int .i64 0, .bool false, .int .i64 0, .int .i64 0, .int .i64 0] rfl)
  replace HRes : Hid (Blk (((w.alloc (.cells #[.int .i64 0, .int .i64 0, .int .i64 0, .int .i64 0, .string ⟨#[]⟩, .string ⟨#[]⟩, .string ⟨#[]⟩, .string ⟨#[]⟩, .string ⟨#[]⟩, .slice none 0 0, .string ⟨#[]⟩, .int .i64 0, .slice none 0 0, .int .i64 0, .int .i64 0, .string ⟨#[]⟩, .string ⟨#[]⟩, .string ⟨#[]⟩, .int .i64 0, .bool false, .int .i64 0, .int .i64 0, .int .i64 0] 51)).alloc (.cells #[.int .i64 0, .int .i64 0, .int .i64 0, .int .i64 0, .string ⟨#[]⟩, .string ⟨#[]⟩, .string ⟨#[]⟩, .string ⟨#[]⟩, .string ⟨#[]⟩, .slice none 0 0, .string ⟨#[]⟩, .int .i64 0, .slice none 0 0, .int .i64 0, .int .i64 0, .string ⟨#[]⟩, .string ⟨#[]⟩, .string ⟨#[]⟩, .int .i64 0, .bool false, .int .i64 0, .int .i64 0, .int .i64 0] 51)).setCells (w.heap.size + 1) 0 [.int .i64 0, .int .i64 0, .int .i64 0, .int .i64 0, .string ⟨#[]⟩, .string ⟨#[]⟩, .string ⟨#[]⟩, .string ⟨#[]⟩, .string ⟨#[]⟩, .slice none 0 0, .string ⟨#[]⟩, .int .i64 0, .slice none 0 0, .int .i64 0, .int .i64 0, .string ⟨#[]⟩, .string ⟨#[]⟩, .string ⟨#[]⟩, .int .i64 0, .bool false, .int .i64 0, .int .i64 0, .int .i64 0]) w.heap.size 51 [.int .i64 0, .int .i64 0, .int .i64 0, .int .i64 0, .string ⟨#[]⟩, .string ⟨#[]⟩, .string ⟨#[]⟩, .string ⟨#[]⟩, .string ⟨#[]⟩, .slice none 0 0, .string ⟨#[]⟩, .int .i64 0, .slice none 0 0, .int .i64 0, .int .i64 0, .string ⟨#[]⟩, .string ⟨#[]⟩, .string ⟨#[]⟩, .int .i64 0, .bool false, .int .i64 0, .int .i64 0, .int .i64 0]) := Lib.hid (Blk.far_setCells (by omega) 0 [.int .i64 0, .int .i64 0, .int .i64 0, .int .i64 0, .string ⟨#[]⟩, .string ⟨#[]⟩, .string ⟨#[]⟩, .string ⟨#[]⟩, .string ⟨#[]⟩, .slice none 0 0, .string ⟨#[]⟩, .int .i64 0, .slice none 0 0, .int .i64 0, .int .i64 0, .string ⟨#[]⟩, .string ⟨#[]⟩, .string ⟨#[]⟩, .int .i64 0, .bool false, .int .i64 0, .int .i64 0, .int .i64 0] HRes.out)
  clear h hbw hbw3
  go_enter Try.func46, Try.ntmps46
  go_wp2_with (with_reducible refine wpList_store_mid rfl 51 _ _ rfl (w.heap.size + 1) 0 (List.toArray ([.int .i64 0, .int .i64 0, .int .i64 0, .int .i64 0, .string ⟨#[]⟩, .string ⟨#[]⟩, .string ⟨#[]⟩, .string ⟨#[]⟩, .string ⟨#[]⟩, .slice none 0 0, .string ⟨#[]⟩, .int .i64 0, .slice none 0 0, .int .i64 0, .int .i64 0, .string ⟨#[]⟩, .string ⟨#[]⟩, .string ⟨#[]⟩, .int .i64 0, .bool false, .int .i64 0, .int .i64 0, .int .i64 0] : List Value)) rfl rfl HTZ.out hsZ.out h1Z.out ?_)
  refine (C_num base g (o) _ HR.out).mono ?_
  rintro e w0 ⟨⟨v, rfl, _⟩, hA, hK⟩
  obtain ⟨nw0, rfl⟩ : ∃ x, x = v := ⟨v, rfl⟩
  replace HR := Lib.hid hA
  replace HB := Lib.hid (HB.out.trans hK.below)
  replace HK := Lib.hid (HK.out.trans hK.keeps)
  replace HX := Lib.hid (HX.out.keeps hK.keeps (by decide))
  replace HRes := Lib.hid (HRes.out.keeps hK.keeps (by decide))
  have hszw0 := HK.out.size
  clear hA hK
  have hcxw0_0 : w0.cell? ⟨w.heap.size + 1, 0, none⟩ = some (.int .i64 0) := HX.out.cell 0
  have hfzw0_0 : w0.frozen? ⟨w.heap.size + 1, 0, none⟩ = false := HX.out.frozen 0
  have HY : Hid (Blk (w0.setCell ⟨w.heap.size + 1, 0, none⟩ (.int .i64 nw0)) (w.heap.size + 1) 51 [.int .i64 nw0, .int .i64 0, .int .i64 0, .int .i64 0, .string ⟨#[]⟩, .string ⟨#[]⟩, .string ⟨#[]⟩, .string ⟨#[]⟩, .string ⟨#[]⟩, .slice none 0 0, .string ⟨#[]⟩, .int .i64 0, .slice none 0 0, .int .i64 0, .int .i64 0, .string ⟨#[]⟩, .string ⟨#[]⟩, .string ⟨#[]⟩, .int .i64 0, .bool false, .int .i64 0, .int .i64 0, .int .i64 0]) := Lib.hid (HX.out.set_ 0 (.int .i64 nw0))
  have HKA : Hid (Keeps [51] w0 (w0.setCell ⟨w.heap.size + 1, 0, none⟩ (.int .i64 nw0))) := Lib.hid ((Keeps.refl _ _).trans (Keeps.set_ HX.out.typ (by simp) (.int .i64 nw0)))
  have HBA : Hid (Below w.heap.size w0 (w0.setCell ⟨w.heap.size + 1, 0, none⟩ (.int .i64 nw0))) := Lib.hid ((Below.refl w.heap.size w0).setCell hgx _)
  replace HRes := Lib.hid (HRes.out.far (p := ⟨w.heap.size + 1, 0, none⟩) (by dsimp only; omega) (.int .i64 nw0))
  replace HX := HY
  replace HR := Lib.hid (HR.out.keeps HKA.out (HBA.out.mono hbs) (by decide) (by decide))
  replace HB := Lib.hid (HB.out.trans (HBA.out.mono hbs))
  replace HK := Lib.hid (HK.out.below_new HBA.out)
  clear HY HKA HBA
  go_wp2_with fail
  refine (C_num base g (stepO .num (o)) _ HR.out).mono ?_
  rintro e w1 ⟨⟨v, rfl, _⟩, hA, hK⟩
  obtain ⟨nw1, rfl⟩ : ∃ x, x = v := ⟨v, rfl⟩
  replace HR := Lib.hid hA
  replace HB := Lib.hid (HB.out.trans hK.below)
  replace HK := Lib.hid (HK.out.trans hK.keeps)
  replace HX := Lib.hid (HX.out.keeps hK.keeps (by decide))
  replace HRes := Lib.hid (HRes.out.keeps hK.keeps (by decide))
  have hszw1 := HK.out.size
  clear hA hK
  have hcxw1_0 : w1.cell? ⟨w.heap.size + 1, 1, none⟩ = some (.int .i64 0) := HX.out.cell 1
  have hfzw1_0 : w1.frozen? ⟨w.heap.size + 1, 1, none⟩ = false := HX.out.frozen 1
  have HY : Hid (Blk (w1.setCell ⟨w.heap.size + 1, 1, none⟩ (.int .i64 nw1)) (w.heap.size + 1) 51 [.int .i64 nw0, .int .i64 nw1, .int .i64 0, .int .i64 0, .string ⟨#[]⟩, .string ⟨#[]⟩, .string ⟨#[]⟩, .string ⟨#[]⟩, .string ⟨#[]⟩, .slice none 0 0, .string ⟨#[]⟩, .int .i64 0, .slice none 0 0, .int .i64 0, .int .i64 0, .string ⟨#[]⟩, .string ⟨#[]⟩, .string ⟨#[]⟩, .int .i64 0, .bool false, .int .i64 0, .int .i64 0, .int .i64 0]) := Lib.hid (HX.out.set_ 1 (.int .i64 nw1))
  have HKA : Hid (Keeps [51] w1 (w1.setCell ⟨w.heap.size + 1, 1, none⟩ (.int .i64 nw1))) := Lib.hid ((Keeps.refl _ _).trans (Keeps.set_ HX.out.typ (by simp) (.int .i64 nw1)))
  have HBA : Hid (Below w.heap.size w1 (w1.setCell ⟨w.heap.size + 1, 1, none⟩ (.int .i64 nw1))) := Lib.hid ((Below.refl w.heap.size w1).setCell hgx _)
  replace HRes := Lib.hid (HRes.out.far (p := ⟨w.heap.size + 1, 1, none⟩) (by dsimp only; omega) (.int .i64 nw1))
  replace HX := HY
  replace HR := Lib.hid (HR.out.keeps HKA.out (HBA.out.mono hbs) (by decide) (by decide))
  replace HB := Lib.hid (HB.out.trans (HBA.out.mono hbs))
  replace HK := Lib.hid (HK.out.below_new HBA.out)
  clear HY HKA HBA
  go_wp2_with fail
  refine (C_num base g (stepO .num (stepO .num (o))) _ HR.out).mono ?_
  rintro e w2 ⟨⟨v, rfl, _⟩, hA, hK⟩
  obtain ⟨nw2, rfl⟩ : ∃ x, x = v := ⟨v, rfl⟩
  replace HR := Lib.hid hA
  replace HB := Lib.hid (HB.out.trans hK.below)
  replace HK := Lib.hid (HK.out.trans hK.keeps)
  replace HX := Lib.hid (HX.out.keeps hK.keeps (by decide))
  replace HRes := Lib.hid (HRes.out.keeps hK.keeps (by decide))
  have hszw2 := HK.out.size
  clear hA hK
  have hcxw2_0 : w2.cell? ⟨w.heap.size + 1, 2, none⟩ = some (.int .i64 0) := HX.out.cell 2
  have hfzw2_0 : w2.frozen? ⟨w.heap.size + 1, 2, none⟩ = false := HX.out.frozen 2
  have HY : Hid (Blk (w2.setCell ⟨w.heap.size + 1, 2, none⟩ (.int .i64 nw2)) (w.heap.size + 1) 51 [.int .i64 nw0, .int .i64 nw1, .int .i64 nw2, .int .i64 0, .string ⟨#[]⟩, .string ⟨#[]⟩, .string ⟨#[]⟩, .string ⟨#[]⟩, .string ⟨#[]⟩, .slice none 0 0, .string ⟨#[]⟩, .int .i64 0, .slice none 0 0, .int .i64 0, .int .i64 0, .string ⟨#[]⟩, .string ⟨#[]⟩, .string ⟨#[]⟩, .int .i64 0, .bool false, .int .i64 0, .int .i64 0, .int .i64 0]) := Lib.hid (HX.out.set_ 2 (.int .i64 nw2))
  have HKA : Hid (Keeps [51] w2 (w2.setCell ⟨w.heap.size + 1, 2, none⟩ (.int .i64 nw2))) := Lib.hid ((Keeps.refl _ _).trans (Keeps.set_ HX.out.typ (by simp) (.int .i64 nw2)))
  have HBA : Hid (Below w.heap.size w2 (w2.setCell ⟨w.heap.size + 1, 2, none⟩ (.int .i64 nw2))) := Lib.hid ((Below.refl w.heap.size w2).setCell hgx _)
  replace HRes := Lib.hid (HRes.out.far (p := ⟨w.heap.size + 1, 2, none⟩) (by dsimp only; omega) (.int .i64 nw2))
  replace HX := HY
  replace HR := Lib.hid (HR.out.keeps HKA.out (HBA.out.mono hbs) (by decide) (by decide))
  replace HB := Lib.hid (HB.out.trans (HBA.out.mono hbs))
  replace HK := Lib.hid (HK.out.below_new HBA.out)
  clear HY HKA HBA
  go_wp2_with fail
  refine (C_Command base g (stepO .num (stepO .num (stepO .num (o)))) _ HR.out).mono ?_
  rintro e w3 ⟨⟨vs, rfl, hv⟩, hA, hK⟩
  replace hv : Kinds [.num, .text, .text, .text, .text, .text, .rows shColumn, .text, .num, .rows [.text], .whole, .whole, .text, .text, .text, .num, .flag] vs := hv
  obtain ⟨_, vs, rfl, c3, hv⟩ := hv
  obtain ⟨_, vs, rfl, c4, hv⟩ := hv
  obtain ⟨_, vs, rfl, c5, hv⟩ := hv
  obtain ⟨_, vs, rfl, c6, hv⟩ := hv
  obtain ⟨_, vs, rfl, c7, hv⟩ := hv
  obtain ⟨_, vs, rfl, c8, hv⟩ := hv
  obtain ⟨_, vs, rfl, c9, hv⟩ := hv
  obtain ⟨_, vs, rfl, c10, hv⟩ := hv
  obtain ⟨_, vs, rfl, c11, hv⟩ := hv
  obtain ⟨_, vs, rfl, c12, hv⟩ := hv
  obtain ⟨_, vs, rfl, c13, hv⟩ := hv
  obtain ⟨_, vs, rfl, c14, hv⟩ := hv
  obtain ⟨_, vs, rfl, c15, hv⟩ := hv
  obtain ⟨_, vs, rfl, c16, hv⟩ := hv
  obtain ⟨_, vs, rfl, c17, hv⟩ := hv
  obtain ⟨_, vs, rfl, c18, hv⟩ := hv
  obtain ⟨_, vs, rfl, c19, hv⟩ := hv
  obtain rfl : vs = [] := hv
  obtain ⟨nw3, rfl⟩ := c3
  obtain ⟨bw4, rfl⟩ := c4
  obtain ⟨bw5, rfl⟩ := c5
  obtain ⟨bw6, rfl⟩ := c6
  obtain ⟨bw7, rfl⟩ := c7
  obtain ⟨bw8, rfl⟩ := c8
  obtain ⟨Aw9, mw9, kw9, rfl⟩ := c9
  obtain ⟨bw10, rfl⟩ := c10
  obtain ⟨nw11, rfl⟩ := c11
  obtain ⟨Aw12, mw12, kw12, rfl⟩ := c12
  obtain ⟨nw13, rfl⟩ := c13
  obtain ⟨nw14, rfl⟩ := c14
  obtain ⟨bw15, rfl⟩ := c15
  obtain ⟨bw16, rfl⟩ := c16
  obtain ⟨bw17, rfl⟩ := c17
  obtain ⟨nw18, rfl⟩ := c18
  obtain ⟨fw19, rfl⟩ := c19
  simp only [shCommand, stepS_cons, stepS_nil] at hA
  replace HR := Lib.hid hA
  replace HB := Lib.hid (HB.out.trans hK.below)
  replace HK := Lib.hid (HK.out.trans hK.keeps)
  replace HX := Lib.hid (HX.out.keeps hK.keeps (by decide))
  replace HRes := Lib.hid (HRes.out.keeps hK.keeps (by decide))
  have hszw3 := HK.out.size
  clear hA hK
  have HTH : Hid (World.there w3 (w.heap.size + 1) 3 (List.toArray ([.int .i64 nw3, .string bw4, .string bw5, .string bw6, .string bw7, .string bw8, .slice Aw9 mw9 kw9, .string bw10, .int .i64 nw11, .slice Aw12 mw12 kw12, .int .i64 nw13, .int .i64 nw14, .string bw15, .string bw16, .string bw17, .int .i64 nw18, .bool fw19] : List Value)).size) := Lib.hid (HX.out.there 3 17 (by simp))
  have hsS : Hid ((Try.prog.info? 49).map (·.size) = some (List.toArray ([.int .i64 nw3, .string bw4, .string bw5, .string bw6, .string bw7, .string bw8, .slice Aw9 mw9 kw9, .string bw10, .int .i64 nw11, .slice Aw12 mw12 kw12, .int .i64 nw13, .int .i64 nw14, .string bw15, .string bw16, .string bw17, .int .i64 nw18, .bool fw19] : List Value)).size) := Lib.hid (by kernel_rfl)
  have h1S : Hid ((List.toArray ([.int .i64 nw3, .string bw4, .string bw5, .string bw6, .string bw7, .string bw8, .slice Aw9 mw9 kw9, .string bw10, .int .i64 nw11, .slice Aw12 mw12 kw12, .int .i64 nw13, .int .i64 nw14, .string bw15, .string bw16, .string bw17, .int .i64 nw18, .bool fw19] : List Value)).all (·.oneCell') = true) := Lib.hid (all_oneCell_toArray (by simp [Value.oneCell']))
  have HY : Hid (Blk (w3.setCells (w.heap.size + 1) 3 [.int .i64 nw3, .string bw4, .string bw5, .string bw6, .string bw7, .string bw8, .slice Aw9 mw9 kw9, .string bw10, .int .i64 nw11, .slice Aw12 mw12 kw12, .int .i64 nw13, .int .i64 nw14, .string bw15, .string bw16, .string bw17, .int .i64 nw18, .bool fw19]) (w.heap.size + 1) 51 [.int .i64 nw0, .int .i64 nw1, .int .i64 nw2, .int .i64 nw3, .string bw4, .string bw5, .string bw6, .string bw7, .string bw8, .slice Aw9 mw9 kw9, .string bw10, .int .i64 nw11, .slice Aw12 mw12 kw12, .int .i64 nw13, .int .i64 nw14, .string bw15, .string bw16, .string bw17, .int .i64 nw18, .bool fw19, .int .i64 0, .int .i64 0, .int .i64 0]) := Lib.hid (HX.out.setCells 3 [.int .i64 nw3, .string bw4, .string bw5, .string bw6, .string bw7, .string bw8, .slice Aw9 mw9 kw9, .string bw10, .int .i64 nw11, .slice Aw12 mw12 kw12, .int .i64 nw13, .int .i64 nw14, .string bw15, .string bw16, .string bw17, .int .i64 nw18, .bool fw19] [.int .i64 nw0, .int .i64 nw1, .int .i64 nw2] [.int .i64 0, .string ⟨#[]⟩, .string ⟨#[]⟩, .string ⟨#[]⟩, .string ⟨#[]⟩, .string ⟨#[]⟩, .slice none 0 0, .string ⟨#[]⟩, .int .i64 0, .slice none 0 0, .int .i64 0, .int .i64 0, .string ⟨#[]⟩, .string ⟨#[]⟩, .string ⟨#[]⟩, .int .i64 0, .bool false] [.int .i64 0, .int .i64 0, .int .i64 0] rfl rfl rfl rfl)
  have HKA : Hid (Keeps [51] w3 (w3.setCells (w.heap.size + 1) 3 [.int .i64 nw3, .string bw4, .string bw5, .string bw6, .string bw7, .string bw8, .slice Aw9 mw9 kw9, .string bw10, .int .i64 nw11, .slice Aw12 mw12 kw12, .int .i64 nw13, .int .i64 nw14, .string bw15, .string bw16, .string bw17, .int .i64 nw18, .bool fw19])) := Lib.hid (Keeps.setCells (t := 51) (by simp) HX.out.typ 3 [.int .i64 nw3, .string bw4, .string bw5, .string bw6, .string bw7, .string bw8, .slice Aw9 mw9 kw9, .string bw10, .int .i64 nw11, .slice Aw12 mw12 kw12, .int .i64 nw13, .int .i64 nw14, .string bw15, .string bw16, .string bw17, .int .i64 nw18, .bool fw19])
  have HBA : Hid (Below w.heap.size w3 (w3.setCells (w.heap.size + 1) 3 [.int .i64 nw3, .string bw4, .string bw5, .string bw6, .string bw7, .string bw8, .slice Aw9 mw9 kw9, .string bw10, .int .i64 nw11, .slice Aw12 mw12 kw12, .int .i64 nw13, .int .i64 nw14, .string bw15, .string bw16, .string bw17, .int .i64 nw18, .bool fw19])) := Lib.hid (below_setCells_ hgx 3 [.int .i64 nw3, .string bw4, .string bw5, .string bw6, .string bw7, .string bw8, .slice Aw9 mw9 kw9, .string bw10, .int .i64 nw11, .slice Aw12 mw12 kw12, .int .i64 nw13, .int .i64 nw14, .string bw15, .string bw16, .string bw17, .int .i64 nw18, .bool fw19])
  replace HRes := Lib.hid (Blk.far_setCells (g := w.heap.size) (b := w.heap.size + 1) (by omega) 3 [.int .i64 nw3, .string bw4, .string bw5, .string bw6, .string bw7, .string bw8, .slice Aw9 mw9 kw9, .string bw10, .int .i64 nw11, .slice Aw12 mw12 kw12, .int .i64 nw13, .int .i64 nw14, .string bw15, .string bw16, .string bw17, .int .i64 nw18, .bool fw19] HRes.out)
  replace HX := HY
  replace HR := Lib.hid (HR.out.keeps HKA.out (HBA.out.mono hbs) (by decide) (by decide))
  replace HB := Lib.hid (HB.out.trans (HBA.out.mono hbs))
  replace HK := Lib.hid (HK.out.below_new HBA.out)
  clear HY HKA HBA
  go_wp2_with (with_reducible refine wpList_store_mid rfl 49 _ _ rfl (w.heap.size + 1) 3 (List.toArray ([.int .i64 nw3, .string bw4, .string bw5, .string bw6, .string bw7, .string bw8, .slice Aw9 mw9 kw9, .string bw10, .int .i64 nw11, .slice Aw12 mw12 kw12, .int .i64 nw13, .int .i64 nw14, .string bw15, .string bw16, .string bw17, .int .i64 nw18, .bool fw19] : List Value)) rfl rfl HTH.out hsS.out h1S.out ?_)
  refine (C_num base g (stepO (.flag) (stepO (.num) (stepO (.text) (stepO (.text) (stepO (.text) (stepO (.whole) (stepO (.whole) (stepO (.rows [.text]) (stepO (.num) (stepO (.text) (stepO (.rows shColumn) (stepO (.text) (stepO (.text) (stepO (.text) (stepO (.text) (stepO (.text) (stepO (.num) (stepO .num (stepO .num (stepO .num (o))))))))))))))))))))) _ HR.out).mono ?_
  rintro e w4 ⟨⟨v, rfl, _⟩, hA, hK⟩
  obtain ⟨nw20, rfl⟩ : ∃ x, x = v := ⟨v, rfl⟩
  replace HR := Lib.hid hA
  replace HB := Lib.hid (HB.out.trans hK.below)
  replace HK := Lib.hid (HK.out.trans hK.keeps)
  replace HX := Lib.hid (HX.out.keeps hK.keeps (by decide))
  replace HRes := Lib.hid (HRes.out.keeps hK.keeps (by decide))
  have hszw4 := HK.out.size
  clear hA hK
  have hcxw4_0 : w4.cell? ⟨w.heap.size + 1, 20, none⟩ = some (.int .i64 0) := HX.out.cell 20
  have hfzw4_0 : w4.frozen? ⟨w.heap.size + 1, 20, none⟩ = false := HX.out.frozen 20
  have HY : Hid (Blk (w4.setCell ⟨w.heap.size + 1, 20, none⟩ (.int .i64 nw20)) (w.heap.size + 1) 51 [.int .i64 nw0, .int .i64 nw1, .int .i64 nw2, .int .i64 nw3, .string bw4, .string bw5, .string bw6, .string bw7, .string bw8, .slice Aw9 mw9 kw9, .string bw10, .int .i64 nw11, .slice Aw12 mw12 kw12, .int .i64 nw13, .int .i64 nw14, .string bw15, .string bw16, .string bw17, .int .i64 nw18, .bool fw19, .int .i64 nw20, .int .i64 0, .int .i64 0]) := Lib.hid (HX.out.set_ 20 (.int .i64 nw20))
  have HKA : Hid (Keeps [51] w4 (w4.setCell ⟨w.heap.size + 1, 20, none⟩ (.int .i64 nw20))) := Lib.hid ((Keeps.refl _ _).trans (Keeps.set_ HX.out.typ (by simp) (.int .i64 nw20)))
  have HBA : Hid (Below w.heap.size w4 (w4.setCell ⟨w.heap.size + 1, 20, none⟩ (.int .i64 nw20))) := Lib.hid ((Below.refl w.heap.size w4).setCell hgx _)
  replace HRes := Lib.hid (HRes.out.far (p := ⟨w.heap.size + 1, 20, none⟩) (by dsimp only; omega) (.int .i64 nw20))
  replace HX := HY
  replace HR := Lib.hid (HR.out.keeps HKA.out (HBA.out.mono hbs) (by decide) (by decide))
  replace HB := Lib.hid (HB.out.trans (HBA.out.mono hbs))
  replace HK := Lib.hid (HK.out.below_new HBA.out)
  clear HY HKA HBA
  go_wp2_with fail
  refine (C_num base g (stepO .num (stepO (.flag) (stepO (.num) (stepO (.text) (stepO (.text) (stepO (.text) (stepO (.whole) (stepO (.whole) (stepO (.rows [.text]) (stepO (.num) (stepO (.text) (stepO (.rows shColumn) (stepO (.text) (stepO (.text) (stepO (.text) (stepO (.text) (stepO (.text) (stepO (.num) (stepO .num (stepO .num (stepO .num (o)))))))))))))))))))))) _ HR.out).mono ?_
  rintro e w5 ⟨⟨v, rfl, _⟩, hA, hK⟩
  obtain ⟨nw21, rfl⟩ : ∃ x, x = v := ⟨v, rfl⟩
  replace HR := Lib.hid hA
  replace HB := Lib.hid (HB.out.trans hK.below)
  replace HK := Lib.hid (HK.out.trans hK.keeps)
  replace HX := Lib.hid (HX.out.keeps hK.keeps (by decide))
  replace HRes := Lib.hid (HRes.out.keeps hK.keeps (by decide))
  have hszw5 := HK.out.size
  clear hA hK
  have hcxw5_0 : w5.cell? ⟨w.heap.size + 1, 21, none⟩ = some (.int .i64 0) := HX.out.cell 21
  have hfzw5_0 : w5.frozen? ⟨w.heap.size + 1, 21, none⟩ = false := HX.out.frozen 21
  have HY : Hid (Blk (w5.setCell ⟨w.heap.size + 1, 21, none⟩ (.int .i64 nw21)) (w.heap.size + 1) 51 [.int .i64 nw0, .int .i64 nw1, .int .i64 nw2, .int .i64 nw3, .string bw4, .string bw5, .string bw6, .string bw7, .string bw8, .slice Aw9 mw9 kw9, .string bw10, .int .i64 nw11, .slice Aw12 mw12 kw12, .int .i64 nw13, .int .i64 nw14, .string bw15, .string bw16, .string bw17, .int .i64 nw18, .bool fw19, .int .i64 nw20, .int .i64 nw21, .int .i64 0]) := Lib.hid (HX.out.set_ 21 (.int .i64 nw21))
  have HKA : Hid (Keeps [51] w5 (w5.setCell ⟨w.heap.size + 1, 21, none⟩ (.int .i64 nw21))) := Lib.hid ((Keeps.refl _ _).trans (Keeps.set_ HX.out.typ (by simp) (.int .i64 nw21)))
  have HBA : Hid (Below w.heap.size w5 (w5.setCell ⟨w.heap.size + 1, 21, none⟩ (.int .i64 nw21))) := Lib.hid ((Below.refl w.heap.size w5).setCell hgx _)
  replace HRes := Lib.hid (HRes.out.far (p := ⟨w.heap.size + 1, 21, none⟩) (by dsimp only; omega) (.int .i64 nw21))
  replace HX := HY
  replace HR := Lib.hid (HR.out.keeps HKA.out (HBA.out.mono hbs) (by decide) (by decide))
  replace HB := Lib.hid (HB.out.trans (HBA.out.mono hbs))
  replace HK := Lib.hid (HK.out.below_new HBA.out)
  clear HY HKA HBA
  go_wp2_with fail
  refine (C_num base g (stepO .num (stepO .num (stepO (.flag) (stepO (.num) (stepO (.text) (stepO (.text) (stepO (.text) (stepO (.whole) (stepO (.whole) (stepO (.rows [.text]) (stepO (.num) (stepO (.text) (stepO (.rows shColumn) (stepO (.text) (stepO (.text) (stepO (.text) (stepO (.text) (stepO (.text) (stepO (.num) (stepO .num (stepO .num (stepO .num (o))))))))))))))))))))))) _ HR.out).mono ?_
  rintro e w6 ⟨⟨v, rfl, _⟩, hA, hK⟩
  obtain ⟨nw22, rfl⟩ : ∃ x, x = v := ⟨v, rfl⟩
  replace HR := Lib.hid hA
  replace HB := Lib.hid (HB.out.trans hK.below)
  replace HK := Lib.hid (HK.out.trans hK.keeps)
  replace HX := Lib.hid (HX.out.keeps hK.keeps (by decide))
  replace HRes := Lib.hid (HRes.out.keeps hK.keeps (by decide))
  have hszw6 := HK.out.size
  clear hA hK
  have hcxw6_0 : w6.cell? ⟨w.heap.size + 1, 22, none⟩ = some (.int .i64 0) := HX.out.cell 22
  have hfzw6_0 : w6.frozen? ⟨w.heap.size + 1, 22, none⟩ = false := HX.out.frozen 22
  have HY : Hid (Blk (w6.setCell ⟨w.heap.size + 1, 22, none⟩ (.int .i64 nw22)) (w.heap.size + 1) 51 [.int .i64 nw0, .int .i64 nw1, .int .i64 nw2, .int .i64 nw3, .string bw4, .string bw5, .string bw6, .string bw7, .string bw8, .slice Aw9 mw9 kw9, .string bw10, .int .i64 nw11, .slice Aw12 mw12 kw12, .int .i64 nw13, .int .i64 nw14, .string bw15, .string bw16, .string bw17, .int .i64 nw18, .bool fw19, .int .i64 nw20, .int .i64 nw21, .int .i64 nw22]) := Lib.hid (HX.out.set_ 22 (.int .i64 nw22))
  have HKA : Hid (Keeps [51] w6 (w6.setCell ⟨w.heap.size + 1, 22, none⟩ (.int .i64 nw22))) := Lib.hid ((Keeps.refl _ _).trans (Keeps.set_ HX.out.typ (by simp) (.int .i64 nw22)))
  have HBA : Hid (Below w.heap.size w6 (w6.setCell ⟨w.heap.size + 1, 22, none⟩ (.int .i64 nw22))) := Lib.hid ((Below.refl w.heap.size w6).setCell hgx _)
  replace HRes := Lib.hid (HRes.out.far (p := ⟨w.heap.size + 1, 22, none⟩) (by dsimp only; omega) (.int .i64 nw22))
  replace HX := HY
  replace HR := Lib.hid (HR.out.keeps HKA.out (HBA.out.mono hbs) (by decide) (by decide))
  replace HB := Lib.hid (HB.out.trans (HBA.out.mono hbs))
  replace HK := Lib.hid (HK.out.below_new HBA.out)
  clear HY HKA HBA
  have HRG := Lib.hid HX.out.range0
  have HTE : Hid (World.there _ w.heap.size 0 (List.toArray ([.int .i64 nw0, .int .i64 nw1, .int .i64 nw2, .int .i64 nw3, .string bw4, .string bw5, .string bw6, .string bw7, .string bw8, .slice Aw9 mw9 kw9, .string bw10, .int .i64 nw11, .slice Aw12 mw12 kw12, .int .i64 nw13, .int .i64 nw14, .string bw15, .string bw16, .string bw17, .int .i64 nw18, .bool fw19, .int .i64 nw20, .int .i64 nw21, .int .i64 nw22] : List Value)).size) := Lib.hid (HRes.out.there 0 23 (by simp))
  have hiV : Hid ((Try.prog.info? 51).map (·.size) = some (List.length ([.int .i64 nw0, .int .i64 nw1, .int .i64 nw2, .int .i64 nw3, .string bw4, .string bw5, .string bw6, .string bw7, .string bw8, .slice Aw9 mw9 kw9, .string bw10, .int .i64 nw11, .slice Aw12 mw12 kw12, .int .i64 nw13, .int .i64 nw14, .string bw15, .string bw16, .string bw17, .int .i64 nw18, .bool fw19, .int .i64 nw20, .int .i64 nw21, .int .i64 nw22] : List Value))) := Lib.hid hi.out
  have hsV : Hid ((Try.prog.info? 51).map (·.size) = some (List.toArray ([.int .i64 nw0, .int .i64 nw1, .int .i64 nw2, .int .i64 nw3, .string bw4, .string bw5, .string bw6, .string bw7, .string bw8, .slice Aw9 mw9 kw9, .string bw10, .int .i64 nw11, .slice Aw12 mw12 kw12, .int .i64 nw13, .int .i64 nw14, .string bw15, .string bw16, .string bw17, .int .i64 nw18, .bool fw19, .int .i64 nw20, .int .i64 nw21, .int .i64 nw22] : List Value)).size) := Lib.hid hi.out
  have h1V : Hid ((List.toArray ([.int .i64 nw0, .int .i64 nw1, .int .i64 nw2, .int .i64 nw3, .string bw4, .string bw5, .string bw6, .string bw7, .string bw8, .slice Aw9 mw9 kw9, .string bw10, .int .i64 nw11, .slice Aw12 mw12 kw12, .int .i64 nw13, .int .i64 nw14, .string bw15, .string bw16, .string bw17, .int .i64 nw18, .bool fw19, .int .i64 nw20, .int .i64 nw21, .int .i64 nw22] : List Value)).all (·.oneCell') = true) := Lib.hid (all_oneCell_toArray (by simp [Value.oneCell']))
  go_wp2_with (first | (with_reducible refine wpList_load_mid rfl 51 _ rfl (w.heap.size + 1) 0 rfl [.int .i64 nw0, .int .i64 nw1, .int .i64 nw2, .int .i64 nw3, .string bw4, .string bw5, .string bw6, .string bw7, .string bw8, .slice Aw9 mw9 kw9, .string bw10, .int .i64 nw11, .slice Aw12 mw12 kw12, .int .i64 nw13, .int .i64 nw14, .string bw15, .string bw16, .string bw17, .int .i64 nw18, .bool fw19, .int .i64 nw20, .int .i64 nw21, .int .i64 nw22] _ HRG.out Try.underlying51 rfl hiV.out ?_) | (with_reducible refine wpList_store_mid rfl 51 _ _ rfl w.heap.size 0 (List.toArray ([.int .i64 nw0, .int .i64 nw1, .int .i64 nw2, .int .i64 nw3, .string bw4, .string bw5, .string bw6, .string bw7, .string bw8, .slice Aw9 mw9 kw9, .string bw10, .int .i64 nw11, .slice Aw12 mw12 kw12, .int .i64 nw13, .int .i64 nw14, .string bw15, .string bw16, .string bw17, .int .i64 nw18, .bool fw19, .int .i64 nw20, .int .i64 nw21, .int .i64 nw22] : List Value)) rfl rfl HTE.out hsV.out h1V.out ?_))
  have HXE := Lib.hid (HRes.out.setCells0 [.int .i64 nw0, .int .i64 nw1, .int .i64 nw2, .int .i64 nw3, .string bw4, .string bw5, .string bw6, .string bw7, .string bw8, .slice Aw9 mw9 kw9, .string bw10, .int .i64 nw11, .slice Aw12 mw12 kw12, .int .i64 nw13, .int .i64 nw14, .string bw15, .string bw16, .string bw17, .int .i64 nw18, .bool fw19, .int .i64 nw20, .int .i64 nw21, .int .i64 nw22] rfl)
  have HKE := Lib.hid (Keeps.setCells (ts := [51]) (t := 51) (by simp) HRes.out.typ 0 [.int .i64 nw0, .int .i64 nw1, .int .i64 nw2, .int .i64 nw3, .string bw4, .string bw5, .string bw6, .string bw7, .string bw8, .slice Aw9 mw9 kw9, .string bw10, .int .i64 nw11, .slice Aw12 mw12 kw12, .int .i64 nw13, .int .i64 nw14, .string bw15, .string bw16, .string bw17, .int .i64 nw18, .bool fw19, .int .i64 nw20, .int .i64 nw21, .int .i64 nw22])
  refine bodyPost_ret (results_cell rfl _ _ w.heap.size rfl [.int .i64 nw0, .int .i64 nw1, .int .i64 nw2, .int .i64 nw3, .string bw4, .string bw5, .string bw6, .string bw7, .string bw8, .slice Aw9 mw9 kw9, .string bw10, .int .i64 nw11, .slice Aw12 mw12 kw12, .int .i64 nw13, .int .i64 nw14, .string bw15, .string bw16, .string bw17, .int .i64 nw18, .bool fw19, .int .i64 nw20, .int .i64 nw21, .int .i64 nw22] _ HXE.out.range0 Try.underlying51 rfl hiV.out) rfl ?_
  refine ⟨⟨[.int .i64 nw0, .int .i64 nw1, .int .i64 nw2, .int .i64 nw3, .string bw4, .string bw5, .string bw6, .string bw7, .string bw8, .slice Aw9 mw9 kw9, .string bw10, .int .i64 nw11, .slice Aw12 mw12 kw12, .int .i64 nw13, .int .i64 nw14, .string bw15, .string bw16, .string bw17, .int .i64 nw18, .bool fw19, .int .i64 nw20, .int .i64 nw21, .int .i64 nw22], rfl, (Kinds.mk (Kind1.num nw0) (Kinds.mk (Kind1.num nw1) (Kinds.mk (Kind1.num nw2) (Kinds.mk (Kind1.num nw3) (Kinds.mk (Kind1.text bw4) (Kinds.mk (Kind1.text bw5) (Kinds.mk (Kind1.text bw6) (Kinds.mk (Kind1.text bw7) (Kinds.mk (Kind1.text bw8) (Kinds.mk (Kind1.rows _ Aw9 mw9 kw9) (Kinds.mk (Kind1.text bw10) (Kinds.mk (Kind1.num nw11) (Kinds.mk (Kind1.rows _ Aw12 mw12 kw12) (Kinds.mk (Kind1.whole nw13) (Kinds.mk (Kind1.whole nw14) (Kinds.mk (Kind1.text bw15) (Kinds.mk (Kind1.text bw16) (Kinds.mk (Kind1.text bw17) (Kinds.mk (Kind1.num nw18) (Kinds.mk (Kind1.flag fw19) (Kinds.mk (Kind1.num nw20) (Kinds.mk (Kind1.num nw21) (Kinds.mk (Kind1.num nw22) Kinds.mk0)))))))))))))))))))))))⟩, ?_, HB.out.trans (below_setCells_ hbs _ _), HK.out.below_new (below_setCells_ (Nat.le_refl _) _ _)⟩
  have hfin := HR.out.keeps HKE.out (below_setCells_ hbs _ _) (by decide) (by decide)
  simpa only [shOp, stepS_cons, stepS_nil] using hfin

end Go.Proofs.Yteohhgkehkmgcaa
