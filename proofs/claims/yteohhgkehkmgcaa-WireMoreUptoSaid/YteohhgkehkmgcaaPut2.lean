/- put and the Puts of the catalog and the machine. Printed by mkput.py. -/
import Derived.Test.YteohhgkehkmgcaaPut1
import Derived.Test.YteohhgkehkmgcaaLays4
namespace Go.Proofs.Yteohhgkehkmgcaa
open Go.RowKit Le
set_option maxRecDepth 100000
set_option linter.unusedSimpArgs false
set_option linter.unusedVariables false
theorem putEnd_of {s s' : St} {w : World} {e : Ending} (h1 : s'.2 = s.2) (h2 : s'.2 = 0 → s' = s) (h : PutEnd s' w e) : PutEnd s w e := by
  by_cases h0 : s'.2 = 0
  · rw [← h2 h0]
    exact h
  · have ho : out s = out s' := by
      unfold out
      rw [if_neg h0, if_neg (by rw [← h1]; exact h0)]
    unfold PutEnd at h ⊢
    rw [ho, ← h1]
    exact h
set_option maxHeartbeats 1600000 in
theorem rput_Catalog (ds : List Da) (vs : List Value) (w : World) (hC : Cels w (· < w.heap.size) shCatalog ds vs) (hs : (lays shCatalog ds ([], 0)).1.length ≤ 1099511627776) :
    Calls Try.prog 29 #[.agg vs.toArray] w fun e w' => PutEnd (lays shCatalog ds ([], 0)) w' e ∧ Below w.heap.size w w' := by
  have hi : (Try.prog.info? 74).map (·.size) = some vs.length := by rw [hC.len.2]; kernel_rfl
  replace hi := Lib.hid hi
  have HC := Lib.hid hC
  clear hC
  go_enter Try.func29, Try.ntmps29
  go_wp2_with (with_reducible refine wpList_load_mid rfl 74 _ rfl w.heap.size 0 rfl vs _ (by exact ((Blk.new w _ vs).alloc _).range0) Try.underlying74 rfl hi.out ?_)
  refine at_below w _ (by repeat (first | exact Below.refl _ _ | refine Below.setCell ?_ (Nat.le_refl _) _ | refine Below.alloc ?_ (by simp) _)) fun HBx => ?_
  refine (L_Catalog (w.heap.size + 1) (w.heap.size + 1) ds vs ([], 0) _ ?_ ?_ hs).mono ?_
  · exact ⟨none, 0, 0, by have := Blk.new (w.alloc (Obj.cells vs.toArray 74)) 91 [.slice none 0 0, .int .i64 0]; simpa using this, by simpa [u8s] using World.ownsRow_nil _ (w.heap.size + 1) 5 1, Nat.le_refl _⟩
  · exact (HC.out.below HBx).more (by omega)
  rintro e w1 ⟨rfl, hL, hK⟩
  have HL := Lib.hid hL
  have HB := Lib.hid (HBx.trans (hK.below.mono (by omega)))
  clear hL hK HBx
  go_wp2_with fail
  refine (L_out (w.heap.size + 1) (w.heap.size + 1) _ _ HL.out).mono ?_
  rintro e w2 ⟨⟨A, n, c, rfl, hn, hcap, hR⟩, hK⟩
  have HN := Lib.hid hn
  have hz := HB.out.size
  have HB2 := Lib.hid (HB.out.trans (hK.mono (by omega)))
  clear hn hK HB HL
  go_wp2
  go_ret2
  exact ⟨⟨A, n, c, rfl, HN.out, hcap, hR⟩, HB2.out⟩
set_option maxHeartbeats 1600000 in
theorem rput_Machine (ds : List Da) (vs : List Value) (w : World) (hC : Cels w (· < w.heap.size) shMachine ds vs) (hs : (lays shMachine ds ([], 0)).1.length ≤ 1099511627776) :
    Calls Try.prog 33 #[.agg vs.toArray] w fun e w' => PutEnd (lays shMachine ds ([], 0)) w' e ∧ Below w.heap.size w w' := by
  have hi : (Try.prog.info? 82).map (·.size) = some vs.length := by rw [hC.len.2]; kernel_rfl
  replace hi := Lib.hid hi
  have HC := Lib.hid hC
  clear hC
  go_enter Try.func33, Try.ntmps33
  go_wp2_with (with_reducible refine wpList_load_mid rfl 82 _ rfl w.heap.size 0 rfl vs _ (by exact ((Blk.new w _ vs).alloc _).range0) Try.underlying82 rfl hi.out ?_)
  refine at_below w _ (by repeat (first | exact Below.refl _ _ | refine Below.setCell ?_ (Nat.le_refl _) _ | refine Below.alloc ?_ (by simp) _)) fun HBx => ?_
  refine (L_Machine (w.heap.size + 1) (w.heap.size + 1) ds vs ([], 0) _ ?_ ?_ hs).mono ?_
  · exact ⟨none, 0, 0, by have := Blk.new (w.alloc (Obj.cells vs.toArray 82)) 91 [.slice none 0 0, .int .i64 0]; simpa using this, by simpa [u8s] using World.ownsRow_nil _ (w.heap.size + 1) 5 1, Nat.le_refl _⟩
  · exact (HC.out.below HBx).more (by omega)
  rintro e w1 ⟨rfl, ⟨s', hL, hs1, hs2⟩, hK⟩
  have HS1 := Lib.hid hs1
  have HS2 := Lib.hid hs2
  clear hs1 hs2
  have HL := Lib.hid hL
  have HB := Lib.hid (HBx.trans (hK.below.mono (by omega)))
  clear hL hK HBx
  go_wp2_with fail
  refine (L_out (w.heap.size + 1) (w.heap.size + 1) _ _ HL.out).mono ?_
  rintro e w2 ⟨⟨A, n, c, rfl, hn, hcap, hR⟩, hK⟩
  have HN := Lib.hid hn
  have hz := HB.out.size
  have HB2 := Lib.hid (HB.out.trans (hK.mono (by omega)))
  clear hn hK HB HL
  go_wp2
  go_ret2
  exact ⟨putEnd_of HS1.out HS2.out ⟨A, n, c, rfl, HN.out, hcap, hR⟩, HB2.out⟩
end Go.Proofs.Yteohhgkehkmgcaa
