/- Joined by mkmerge.py from the proof's texts Fold6, Fold23, Fold11, Fold13, Fold15, Fold24, Fold26. Conditions: each theorem's own hypotheses. -/
import Derived.Test.YtkdmfjpfanmgmaaGreatDoorM19
import Derived.Test.YtkdmfjpfanmgmaaGreatDoorM26
import Derived.Deep.RegionLaw
import Derived.Test.YtkdmfjpfanmgmaaGreatDoorM23
import Derived.IntWalk
import Derived.BigQuiet
import Derived.Deep.QuietTactic
namespace Go.Proofs.YtkdmfjpfanmgmaaGreatDoor
open Go.RowKit Le
set_option maxRecDepth 100000
set_option linter.unusedSimpArgs false
set_option linter.unusedVariables false
end Go.Proofs.YtkdmfjpfanmgmaaGreatDoor
namespace Go.Proofs.YtkdmfjpfanmgmaaGreatDoor
open Go.RowKit Le
set_option maxRecDepth 100000
set_option linter.unusedSimpArgs false
set_option linter.unusedVariables false
end Go.Proofs.YtkdmfjpfanmgmaaGreatDoor
namespace Go.Proofs.YtkdmfjpfanmgmaaGreatDoor
open Go.RowKit Le
set_option maxRecDepth 100000
set_option linter.unusedSimpArgs false
set_option linter.unusedVariables false
end Go.Proofs.YtkdmfjpfanmgmaaGreatDoor
namespace Go.Proofs.YtkdmfjpfanmgmaaGreatDoor
open Go.RowKit Le
set_option maxRecDepth 100000
set_option linter.unusedSimpArgs false
set_option linter.unusedVariables false
end Go.Proofs.YtkdmfjpfanmgmaaGreatDoor
namespace Go.Proofs.YtkdmfjpfanmgmaaGreatDoor
open Go.RowKit Le
set_option maxRecDepth 100000
set_option linter.unusedSimpArgs false
set_option linter.unusedVariables false
end Go.Proofs.YtkdmfjpfanmgmaaGreatDoor
namespace Go.Proofs.YtkdmfjpfanmgmaaGreatDoor
open Go.RowKit Le
set_option maxRecDepth 100000
set_option linter.unusedSimpArgs false
set_option linter.unusedVariables false
end Go.Proofs.YtkdmfjpfanmgmaaGreatDoor
namespace Go.Proofs.YtkdmfjpfanmgmaaGreatDoor
open Go.RowKit Le
set_option maxRecDepth 100000
set_option linter.unusedSimpArgs false
set_option linter.unusedVariables false
set_option maxHeartbeats 1600000 in
theorem lvote_any (w : World) :
    Calls Tryz.prog 22 #[] w fun e w' => e = .returned (.agg #[.int .i64 1, .int .i64 2, .int .i64 1, .int .i64 0, .int .i64 0, .int .i64 0, .slice none 0 0, .slice none 0 0, .string ⟨#[]⟩, .int .i64 0, .int .i64 0, .int .i64 0, .slice none 0 0, .slice none 0 0, .string ⟨#[]⟩]) ∧ Below w.heap.size w w' := by
  have HI2 : Hid ((Tryz.prog.info? 33).map (·.size) = some 15) := Lib.hid (by kernel_rfl)
  have R2 := Lib.hid (Blk.new w 33 [.int .i64 0, .int .i64 0, .int .i64 0, .int .i64 0, .int .i64 0, .int .i64 0, .slice none 0 0, .slice none 0 0, .string ⟨#[]⟩, .int .i64 0, .int .i64 0, .int .i64 0, .slice none 0 0, .slice none 0 0, .string ⟨#[]⟩])
  go_enter Tryz.func22, Tryz.ntmps22
  go_wp2_with (first
      | ((with_reducible refine wpList_store_blk rfl 33 _ _ rfl w.heap.size [.int .i64 1, .int .i64 2, .int .i64 1, .int .i64 0, .int .i64 0, .int .i64 0, .slice none 0 0, .slice none 0 0, .string ⟨#[]⟩, .int .i64 0, .int .i64 0, .int .i64 0, .slice none 0 0, .slice none 0 0, .string ⟨#[]⟩] rfl rfl R2 (by simp) (by simp) HI2 (by simp [Value.oneCell']) ?_)
         intro w9 U))
  refine bodyPost_ret (results_blk rfl _ _ w.heap.size rfl (Lib.hid U.out.blk) (by simp) Tryz.underlying33 rfl HI2) rfl ?_
  exact ⟨rfl, U.out.below (by repeat (first | with_reducible exact (Below.refl w.heap.size w) | (with_reducible refine Below.setCell ?_ (by dsimp only; (first | omega | (simp; done) | (simp; omega))) _) | (with_reducible refine Below.alloc ?_ (by (first | omega | (simp; done) | (simp; omega))) _) | with_reducible refine Below.drew ?_)) (Nat.le_refl _)⟩
set_option maxHeartbeats 1600000 in
theorem lentry_any (n : Int) (w : World) :
    Calls Tryz.prog 23 #[.int .i64 n] w fun e w' => e = .returned (.agg #[.int .i64 2, .int .i64 0, .int .i64 0, .int .i64 n, .int .i64 2, .int .i64 1, .slice none 0 0, .slice none 0 0, .string ⟨#[]⟩, .int .i64 0, .int .i64 0, .int .i64 0, .slice none 0 0, .slice none 0 0, .string ⟨#[]⟩]) ∧ Below w.heap.size w w' := by
  have HI2 : Hid ((Tryz.prog.info? 33).map (·.size) = some 15) := Lib.hid (by kernel_rfl)
  have R2 := Lib.hid (Blk.new w 33 [.int .i64 0, .int .i64 0, .int .i64 0, .int .i64 0, .int .i64 0, .int .i64 0, .slice none 0 0, .slice none 0 0, .string ⟨#[]⟩, .int .i64 0, .int .i64 0, .int .i64 0, .slice none 0 0, .slice none 0 0, .string ⟨#[]⟩])
  go_enter Tryz.func23, Tryz.ntmps23
  go_wp2_with (first
      | ((with_reducible refine wpList_store_blk rfl 33 _ _ rfl w.heap.size [.int .i64 2, .int .i64 0, .int .i64 0, .int .i64 n, .int .i64 2, .int .i64 1, .slice none 0 0, .slice none 0 0, .string ⟨#[]⟩, .int .i64 0, .int .i64 0, .int .i64 0, .slice none 0 0, .slice none 0 0, .string ⟨#[]⟩] rfl rfl R2 (by simp) (by simp) HI2 (by simp [Value.oneCell']) ?_)
         intro w9 U))
  refine bodyPost_ret (results_blk rfl _ _ w.heap.size rfl (Lib.hid U.out.blk) (by simp) Tryz.underlying33 rfl HI2) rfl ?_
  exact ⟨rfl, U.out.below (by repeat (first | with_reducible exact (Below.refl w.heap.size w) | (with_reducible refine Below.setCell ?_ (by dsimp only; (first | omega | (simp; done) | (simp; omega))) _) | (with_reducible refine Below.alloc ?_ (by (first | omega | (simp; done) | (simp; omega))) _) | with_reducible refine Below.drew ?_)) (Nat.le_refl _)⟩
def kp1 : Kep := ⟨2, 1, .zero, []⟩
def en (n : Int) : Ent := ⟨n, 2, 1, [], [], []⟩
def kp2 : Kep := ⟨2, 1, .zero, [en 1]⟩
def kp3 : Kep := ⟨2, 1, .zero, [en 1, en 2]⟩
theorem f1 : foldP .zero (.ofVote 2 1) = (kp1, 0) := by decide +kernel
theorem f2 : foldP kp1 (.ofEnt (en 1)) = (kp2, 0) := by decide +kernel
theorem f3 : foldP kp2 (.ofEnt (en 2)) = (kp3, 0) := by decide +kernel
theorem f4 : foldP kp3 (.ofCut 2) = (kp2, 0) := by decide +kernel
theorem f5 : foldP kp2 (.ofEnt (en 3)) = (.zero, 140) := by decide +kernel
theorem KepAt.nw_lt {w : World} {b : Nat} {ts : List TypeId} {k : Kep} {A B E : Option Addr} (h : KepAt w (Nw w b ts) k A B E) : KepAt w (· < w.heap.size) k A B E := ⟨h.v.nw_lt, h.l.nw_lt, h.e.nw_lt⟩
end Go.Proofs.YtkdmfjpfanmgmaaGreatDoor
