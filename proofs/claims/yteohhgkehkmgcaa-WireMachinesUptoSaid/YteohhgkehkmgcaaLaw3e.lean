/- The statements of layer 3: a thing has just its bytes, or is refused. Printed by mklaw3.py. -/
import Derived.Test.YteohhgkehkmgcaaLaw3
import Derived.Test.YteohhgkehkmgcaaPut3
import Derived.Test.YteohhgkehkmgcaaOpen2
namespace Go.Proofs.Yteohhgkehkmgcaa
open Go.RowKit Le
set_option maxRecDepth 100000
set_option linter.unusedVariables false

set_option maxHeartbeats 1600000 in
theorem wireCatalogs_any (ds : List Da) (vs : List Value) (w : World) (hC : Cels w (· < w.heap.size) shCatalog ds vs) (hs : (lays shCatalog ds ([], 0)).1.length ≤ 1099511627776) :
    Calls Try.prog 9 #[.agg vs.toArray] w fun e w' => e = .returned (.bool true) ∧ Below w.heap.size w w' := by
  have hi : (Try.prog.info? 74).map (·.size) = some vs.length := by rw [hC.len.2]; kernel_rfl
  replace hi := Lib.hid hi
  have HC := Lib.hid hC
  have HX := Lib.hid (Blk.new w 74 vs)
  have HB : Hid (Below w.heap.size w (w.alloc (.cells vs.toArray 74))) := Lib.hid ((Below.refl _ _).alloc (Nat.le_refl _) _)
  have PR := fun w' hc => rput_Catalog ds vs w' hc hs
  have PW := fun w' hc => wput_Catalog ds vs w' hc hs
  obtain ⟨S, hS⟩ : ∃ S, lays shCatalog ds ([], 0) = S := ⟨_, rfl⟩
  rw [hS] at PR PW
  replace PR := Lib.hid PR
  replace PW := Lib.hid PW
  clear hC hs hS
  go_enter Try.func9, Try.ntmps9
  go_wp2_with (with_reducible refine wpList_load_mid rfl 74 _ rfl w.heap.size 0 rfl vs _ HX.out.range0 Try.underlying74 rfl hi.out ?_)
  refine (unhide PR _ ((HC.out.below HB.out).more (by simp))).mono ?_
  rintro e w1 ⟨⟨A1, n1, c1, rfl, hn1, _, hR1⟩, hK1⟩
  have hsz : w.heap.size + 1 ≤ w1.heap.size := by have := hK1.size; simpa using this
  replace HX := Lib.hid (HX.out.below hK1 HX.out.lt)
  replace HB := Lib.hid (HB.out.trans (hK1.mono (by simp)))
  have HN1 := Lib.hid hn1
  have HR1 := Lib.hid hR1
  clear hn1 hR1 hK1
  by_cases hbig : 262144 < n1
  · go_wp2
    go_ret
    exact ⟨rfl, HB.out⟩
  go_wp2_with (with_reducible refine wpList_load_mid rfl 74 _ rfl w.heap.size 0 rfl vs _ HX.out.range0 Try.underlying74 rfl hi.out ?_)
  refine (unhide PW _ ((HC.out.below HB.out).more (by omega))).mono ?_
  rintro e w2 ⟨⟨A2, n2, c2, rfl, hn2, _, hR2⟩, hK2⟩
  have hsz2 := hK2.size
  replace HX := Lib.hid (HX.out.below hK2 HX.out.lt)
  replace HB := Lib.hid (HB.out.trans (hK2.mono (by omega)))
  replace HR1 := Lib.hid (HR1.out.below hK2)
  have HR2 := Lib.hid hR2
  clear hn2 hR2 hK2
  go_wp2_with (with_reducible refine wpList_load_mid rfl 74 _ rfl w.heap.size 0 rfl vs _ HX.out.range0 Try.underlying74 rfl hi.out ?_)
  refine (unhide PR _ ((HC.out.below HB.out).more (by omega))).mono ?_
  rintro e w3 ⟨⟨A3, n3, c3, rfl, hn3, _, hR3⟩, hK3⟩
  have hsz3 := hK3.size
  replace HB := Lib.hid (HB.out.trans (hK3.mono (by omega)))
  replace HR1 := Lib.hid (HR1.out.below (hK3.mono hsz2))
  replace HR2 := Lib.hid (HR2.out.below hK3)
  have HR3 := Lib.hid hR3
  clear hn3 hR3 hK3 PR PW HX HC
  go_wp2_with fail
  refine (awake_any w3).mono ?_
  rintro e w4 ⟨rfl, hK4⟩
  replace HB := Lib.hid (HB.out.trans (hK4.mono (by omega)))
  have k1 := conv_bytes A1 n1 c1 _ w4 (HR1.out.below (hK4.mono (by omega)))
  have k2 := conv_bytes A2 n2 c2 _ w4 (HR2.out.below (hK4.mono (by omega)))
  have k3 := conv_bytes A3 n3 c3 _ w4 (HR3.out.below hK4)
  clear HR1 HR2 HR3 HN1 hK4
  go_wp2
  go_ret
  exact ⟨by simp, HB.out⟩

set_option maxHeartbeats 1600000 in
theorem wireMachines_any (ds : List Da) (vs : List Value) (w : World) (hC : Cels w (· < w.heap.size) shMachine ds vs) (hs : (lays shMachine ds ([], 0)).1.length ≤ 1099511627776) :
    Calls Try.prog 11 #[.agg vs.toArray] w fun e w' => e = .returned (.bool true) ∧ Below w.heap.size w w' := by
  have hi : (Try.prog.info? 82).map (·.size) = some vs.length := by rw [hC.len.2]; kernel_rfl
  replace hi := Lib.hid hi
  have HC := Lib.hid hC
  have HX := Lib.hid (Blk.new w 82 vs)
  have HB : Hid (Below w.heap.size w (w.alloc (.cells vs.toArray 82))) := Lib.hid ((Below.refl _ _).alloc (Nat.le_refl _) _)
  have PR := fun w' hc => rput_Machine ds vs w' hc hs
  have PW := fun w' hc => wput_Machine ds vs w' hc hs
  obtain ⟨S, hS⟩ : ∃ S, lays shMachine ds ([], 0) = S := ⟨_, rfl⟩
  rw [hS] at PR PW
  replace PR := Lib.hid PR
  replace PW := Lib.hid PW
  clear hC hs hS
  go_enter Try.func11, Try.ntmps11
  go_wp2_with (with_reducible refine wpList_load_mid rfl 82 _ rfl w.heap.size 0 rfl vs _ HX.out.range0 Try.underlying82 rfl hi.out ?_)
  refine (unhide PR _ ((HC.out.below HB.out).more (by simp))).mono ?_
  rintro e w1 ⟨⟨A1, n1, c1, rfl, hn1, _, hR1⟩, hK1⟩
  have hsz : w.heap.size + 1 ≤ w1.heap.size := by have := hK1.size; simpa using this
  replace HX := Lib.hid (HX.out.below hK1 HX.out.lt)
  replace HB := Lib.hid (HB.out.trans (hK1.mono (by simp)))
  have HN1 := Lib.hid hn1
  have HR1 := Lib.hid hR1
  clear hn1 hR1 hK1
  by_cases hbig : 262144 < n1
  · go_wp2
    go_ret
    exact ⟨rfl, HB.out⟩
  go_wp2_with (with_reducible refine wpList_load_mid rfl 82 _ rfl w.heap.size 0 rfl vs _ HX.out.range0 Try.underlying82 rfl hi.out ?_)
  refine (unhide PW _ ((HC.out.below HB.out).more (by omega))).mono ?_
  rintro e w2 ⟨⟨A2, n2, c2, rfl, hn2, _, hR2⟩, hK2⟩
  have hsz2 := hK2.size
  replace HX := Lib.hid (HX.out.below hK2 HX.out.lt)
  replace HB := Lib.hid (HB.out.trans (hK2.mono (by omega)))
  replace HR1 := Lib.hid (HR1.out.below hK2)
  have HR2 := Lib.hid hR2
  clear hn2 hR2 hK2
  go_wp2_with (with_reducible refine wpList_load_mid rfl 82 _ rfl w.heap.size 0 rfl vs _ HX.out.range0 Try.underlying82 rfl hi.out ?_)
  refine (unhide PR _ ((HC.out.below HB.out).more (by omega))).mono ?_
  rintro e w3 ⟨⟨A3, n3, c3, rfl, hn3, _, hR3⟩, hK3⟩
  have hsz3 := hK3.size
  replace HB := Lib.hid (HB.out.trans (hK3.mono (by omega)))
  replace HR1 := Lib.hid (HR1.out.below (hK3.mono hsz2))
  replace HR2 := Lib.hid (HR2.out.below hK3)
  have HR3 := Lib.hid hR3
  clear hn3 hR3 hK3 PR PW HX HC
  go_wp2_with fail
  refine (awake_any w3).mono ?_
  rintro e w4 ⟨rfl, hK4⟩
  replace HB := Lib.hid (HB.out.trans (hK4.mono (by omega)))
  have k1 := conv_bytes A1 n1 c1 _ w4 (HR1.out.below (hK4.mono (by omega)))
  have k2 := conv_bytes A2 n2 c2 _ w4 (HR2.out.below (hK4.mono (by omega)))
  have k3 := conv_bytes A3 n3 c3 _ w4 (HR3.out.below hK4)
  clear HR1 HR2 HR3 HN1 hK4
  go_wp2
  go_ret
  exact ⟨by simp, HB.out⟩
end Go.Proofs.Yteohhgkehkmgcaa
