/- The walks of the reference's gets. Printed by mkrget.py. -/
import Derived.Test.YteohhgkehkmgcaaGreatCu11
import Derived.Test.YteohhgkehkmgcaaGreatRGet1
namespace Go.Proofs.YteohhgkehkmgcaaGreat
open Go.RowKit Le
set_option maxRecDepth 100000
set_option linter.unusedVariables false
set_option linter.unusedSimpArgs false

set_option maxHeartbeats 1600000 in
theorem rget_Machine (A : Option Addr) (n c : Nat) (l : List UInt8) (w : World) (hb : Reads w w.heap.size A n (u8s l)) (hn : n ≤ c ∧ n ≤ 1099511627776 ∧ c ≤ 9223372036854775807) :
    Calls Tryz.prog 7 #[.slice A n c] w fun e w' => RGEnd shMachine l e ∧ Below w.heap.size w w' := by
  have HX0 := Lib.hid (Blk.new w 38 [.int .i64 0, .int .i64 0, .slice none 0 0, .slice none 0 0, .slice none 0 0, .slice none 0 0, .slice none 0 0, .slice none 0 0, .slice none 0 0, .int .i64 0])
  have HB0 : Hid (Below w.heap.size w (w.alloc (.cells #[.int .i64 0, .int .i64 0, .slice none 0 0, .slice none 0 0, .slice none 0 0, .slice none 0 0, .slice none 0 0, .slice none 0 0, .slice none 0 0, .int .i64 0] 38))) := Lib.hid ((Below.refl _ _).alloc (Nat.le_refl _) _)
  have C := Lib.hid (rnew_any A n c l (w.alloc (.cells #[.int .i64 0, .int .i64 0, .slice none 0 0, .slice none 0 0, .slice none 0 0, .slice none 0 0, .slice none 0 0, .slice none 0 0, .slice none 0 0, .int .i64 0] 38)) ((hb.below HB0.out).more (by simp)) hn)
  clear hb
  have hs0 : (w.alloc (.cells #[.int .i64 0, .int .i64 0, .slice none 0 0, .slice none 0 0, .slice none 0 0, .slice none 0 0, .slice none 0 0, .slice none 0 0, .slice none 0 0, .int .i64 0] 38)).heap.size = w.heap.size + 1 := by simp
  rw [hs0] at C
  clear hs0
  go_enter Tryz.func7, Tryz.ntmps7
  go_wp2_with fail
  refine (unhide C).mono ?_
  rintro e w1 ⟨rfl, hA, hK1⟩
  have HX1 := Lib.hid (HX0.out.below hK1 (by omega))
  have HB1 := Lib.hid (HB0.out.trans (hK1.mono (by omega)))
  have hbs := hA.lt
  have HA1 := Lib.hid hA
  clear hA hK1 C HX0 HB0
  go_wp2_with fail
  refine (C_Machine _ _ _ _ HA1.out).mono ?_
  rintro e w2 ⟨⟨vs, rfl, hv⟩, hA, hK⟩
  have HX2 := Lib.hid (HX1.out.below hK.below (by omega))
  have HB2 := Lib.hid (HB1.out.trans (hK.below.mono (by omega)))
  have hlen : vs.length = 10 := hv.len
  have h1v : Hid (∀ u ∈ vs, u.oneCell' = true) := Lib.hid hv.oneCell
  have hsz2 : w.heap.size + 1 ≤ w2.heap.size := by have := hK.below.size; omega
  have HX := Lib.hid (Blk.new w2 38 [.int .i64 0, .int .i64 0, .slice none 0 0, .slice none 0 0, .slice none 0 0, .slice none 0 0, .slice none 0 0, .slice none 0 0, .slice none 0 0, .int .i64 0])
  have HTE : Hid (World.there (w2.alloc (.cells #[.int .i64 0, .int .i64 0, .slice none 0 0, .slice none 0 0, .slice none 0 0, .slice none 0 0, .slice none 0 0, .slice none 0 0, .slice none 0 0, .int .i64 0] 38)) w2.heap.size 0 vs.toArray.size) := Lib.hid (HX.out.there 0 _ (by simp [hlen]))
  have hsV : Hid ((Tryz.prog.info? 38).map (·.size) = some vs.toArray.size) := Lib.hid (by rw [List.size_toArray, hlen]; kernel_rfl)
  have hiV : Hid ((Tryz.prog.info? 38).map (·.size) = some vs.length) := Lib.hid (by rw [hlen]; kernel_rfl)
  have h1V : Hid (vs.toArray.all (·.oneCell') = true) := Lib.hid (all_oneCell_toArray hv.oneCell)
  have HLEN := Lib.hid hlen
  obtain ⟨w3, hw3⟩ : ∃ w3, ((w2.alloc (.cells #[.int .i64 0, .int .i64 0, .slice none 0 0, .slice none 0 0, .slice none 0 0, .slice none 0 0, .slice none 0 0, .slice none 0 0, .slice none 0 0, .int .i64 0] 38)).setCells w2.heap.size 0 vs) = w3 := ⟨_, rfl⟩
  have hb3 : Below w2.heap.size w2 ((w2.alloc (.cells #[.int .i64 0, .int .i64 0, .slice none 0 0, .slice none 0 0, .slice none 0 0, .slice none 0 0, .slice none 0 0, .slice none 0 0, .slice none 0 0, .int .i64 0] 38)).setCells w2.heap.size 0 vs) := ((Below.refl _ _).alloc (Nat.le_refl _) _).trans (below_setCells_ (Nat.le_refl _) 0 vs)
  have HX3 := Lib.hid (HX.out.setCells0 vs hlen.symm)
  have HA3 := Lib.hid (hA.below_ hb3)
  have HR3 := Lib.hid (HX2.out.below hb3 HX2.out.lt)
  have HB3 := Lib.hid (HB2.out.trans (hb3.mono (by omega)))
  rw [hw3] at HX3 HA3 HR3 HB3 hb3
  have hsz3 := hb3.size
  have HW3 := Lib.hid hw3
  clear hA hK hv hlen hb3 hw3 HX1 HB1 HX2 HB2 HA1
  go_wp2_with (with_reducible refine wpList_store_mid rfl 38 _ _ rfl w2.heap.size 0 vs.toArray rfl rfl HTE.out hsV.out h1V.out ?_)
  rw [HW3.out]
  refine (whole_any _ _ _ _ HA3.out).mono ?_
  rintro e w4 ⟨⟨b, rfl, hbo⟩, hK4⟩
  have HX4 := Lib.hid (HX3.out.below hK4 HX3.out.lt)
  have HR4 := Lib.hid (HR3.out.below hK4 HR3.out.lt)
  have HB4 := Lib.hid (HB3.out.trans (hK4.mono (by omega)))
  have HBO := Lib.hid hbo
  clear hK4 hbo HX3 HR3 HB3 HA3 HX HTE HW3
  cases b with
  | true =>
    have HRG := Lib.hid HX4.out.range0
    have HTE4 : Hid (World.there w4 w.heap.size 0 vs.toArray.size) := Lib.hid (HR4.out.there 0 _ (by simp [HLEN.out]))
    go_wp2_with (first | (with_reducible refine wpList_load_mid rfl 38 _ rfl w2.heap.size 0 rfl vs _ HRG.out Tryz.underlying38 rfl hiV.out ?_) | (with_reducible refine wpList_store_mid rfl 38 _ _ rfl w.heap.size 0 vs.toArray rfl rfl HTE4.out hsV.out h1V.out ?_))
    refine bodyPost_ret (results_cell_tmp rfl _ _ w.heap.size rfl vs _ (HR4.out.setCells0 vs HLEN.out.symm).range0 Tryz.underlying38 rfl hiV.out) rfl ?_
    refine ⟨⟨vs, 0, rfl, HLEN.out, h1v.out, .inl ⟨rfl, ?_⟩⟩, HB4.out.trans (below_setCells_ (Nat.le_refl _) 0 vs)⟩
    have h := HBO.out.1 (by simp)
    simp only [stepS, Option.bind_some, Option.map_eq_some_iff] at h
    obtain ⟨⟨ds, l2⟩, h1, h2⟩ := h
    dsimp only at h2
    subst h2
    exact ⟨ds, h1⟩
  | false =>
    have HTE4 : Hid (World.there w4 w.heap.size 0 (List.toArray ([.int .i64 0, .int .i64 0, .slice none 0 0, .slice none 0 0, .slice none 0 0, .slice none 0 0, .slice none 0 0, .slice none 0 0, .slice none 0 0, .int .i64 0] : List Value)).size) := Lib.hid (HR4.out.there 0 _ (by simp))
    have hsZ : Hid ((Tryz.prog.info? 38).map (·.size) = some (List.toArray ([.int .i64 0, .int .i64 0, .slice none 0 0, .slice none 0 0, .slice none 0 0, .slice none 0 0, .slice none 0 0, .slice none 0 0, .slice none 0 0, .int .i64 0] : List Value)).size) := Lib.hid (by kernel_rfl)
    have hiZ : Hid ((Tryz.prog.info? 38).map (·.size) = some (List.length ([.int .i64 0, .int .i64 0, .slice none 0 0, .slice none 0 0, .slice none 0 0, .slice none 0 0, .slice none 0 0, .slice none 0 0, .slice none 0 0, .int .i64 0] : List Value))) := Lib.hid (by kernel_rfl)
    have h1Z : Hid ((List.toArray ([.int .i64 0, .int .i64 0, .slice none 0 0, .slice none 0 0, .slice none 0 0, .slice none 0 0, .slice none 0 0, .slice none 0 0, .slice none 0 0, .int .i64 0] : List Value)).all (·.oneCell') = true) := Lib.hid (all_oneCell_toArray (by simp [Value.oneCell']))
    go_wp2_with (with_reducible refine wpList_store_mid rfl 38 _ _ rfl w.heap.size 0 (List.toArray ([.int .i64 0, .int .i64 0, .slice none 0 0, .slice none 0 0, .slice none 0 0, .slice none 0 0, .slice none 0 0, .slice none 0 0, .slice none 0 0, .int .i64 0] : List Value)) rfl rfl HTE4.out hsZ.out h1Z.out ?_)
    refine bodyPost_ret (results_cell_tmp rfl _ _ w.heap.size rfl [.int .i64 0, .int .i64 0, .slice none 0 0, .slice none 0 0, .slice none 0 0, .slice none 0 0, .slice none 0 0, .slice none 0 0, .slice none 0 0, .int .i64 0] _ (HR4.out.setCells0 [.int .i64 0, .int .i64 0, .slice none 0 0, .slice none 0 0, .slice none 0 0, .slice none 0 0, .slice none 0 0, .slice none 0 0, .slice none 0 0, .int .i64 0] rfl).range0 Tryz.underlying38 rfl hiZ.out) rfl ?_
    refine ⟨⟨[.int .i64 0, .int .i64 0, .slice none 0 0, .slice none 0 0, .slice none 0 0, .slice none 0 0, .slice none 0 0, .slice none 0 0, .slice none 0 0, .int .i64 0], 11, rfl, rfl, by simp [Value.oneCell'], .inr ⟨rfl, fun ds h => ?_⟩⟩, HB4.out.trans (below_setCells_ (Nat.le_refl _) 0 [.int .i64 0, .int .i64 0, .slice none 0 0, .slice none 0 0, .slice none 0 0, .slice none 0 0, .slice none 0 0, .slice none 0 0, .slice none 0 0, .int .i64 0])⟩
    have h2 := HBO.out.2 (by simp only [stepS, Option.bind_some, h, Option.map_some])
    cases h2
end Go.Proofs.YteohhgkehkmgcaaGreat
