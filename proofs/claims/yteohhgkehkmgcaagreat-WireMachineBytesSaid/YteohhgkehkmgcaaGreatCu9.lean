/- The walks of the reference that reads: lists and structs. Printed by mkcu.py. -/
import Derived.Test.YteohhgkehkmgcaaGreatCu8
namespace Go.Proofs.YteohhgkehkmgcaaGreat
open Go.RowKit Le
set_option maxRecDepth 100000
set_option linter.unusedVariables false
set_option linter.unusedSimpArgs false

set_option maxHeartbeats 1600000 in
theorem C_objects (base g : Nat) (o : Option (List UInt8)) (w : World) (h : CutAt w base g o) :
    Calls Tryz.prog 55 #[.pointer (some ⟨g, 0, none⟩)] w fun e w' => (∃ vs, e = .returned (.agg vs.toArray) ∧ Kinds shObjects vs) ∧ CutAt w' base g (stepS shObjects o) ∧ Cuts base w w' := by
  have hi : (Tryz.prog.info? 27).map (·.size) = some 2 := by kernel_rfl
  replace hi := Lib.hid hi
  have hbs := h.lt
  have hgx : w.heap.size ≤ w.heap.size + 1 := Nat.le_succ _
  have HX : Hid (Blk ((w.alloc (.cells #[.slice none 0 0, .slice none 0 0] 27)).alloc (.cells #[.slice none 0 0, .slice none 0 0] 27)) (w.heap.size + 1) 27 [.slice none 0 0, .slice none 0 0]) := Lib.hid (by have := Blk.new (w.alloc (.cells #[.slice none 0 0, .slice none 0 0] 27)) 27 [.slice none 0 0, .slice none 0 0]; simpa using this)
  have HRes : Hid (Blk ((w.alloc (.cells #[.slice none 0 0, .slice none 0 0] 27)).alloc (.cells #[.slice none 0 0, .slice none 0 0] 27)) w.heap.size 27 [.slice none 0 0, .slice none 0 0]) := Lib.hid ((Blk.new w 27 [.slice none 0 0, .slice none 0 0]).alloc _)
  have hbw : Below w.heap.size w ((w.alloc (.cells #[.slice none 0 0, .slice none 0 0] 27)).alloc (.cells #[.slice none 0 0, .slice none 0 0] 27)) := ((Below.refl _ _).alloc (Nat.le_refl _) _).alloc (by simp) _
  have HTZ : Hid (World.there ((w.alloc (.cells #[.slice none 0 0, .slice none 0 0] 27)).alloc (.cells #[.slice none 0 0, .slice none 0 0] 27)) (w.heap.size + 1) 0 (List.toArray ([.slice none 0 0, .slice none 0 0] : List Value)).size) := Lib.hid (HX.out.there 0 2 (by simp))
  have hsZ : Hid ((Tryz.prog.info? 27).map (·.size) = some (List.toArray ([.slice none 0 0, .slice none 0 0] : List Value)).size) := Lib.hid (by kernel_rfl)
  have h1Z : Hid ((List.toArray ([.slice none 0 0, .slice none 0 0] : List Value)).all (·.oneCell') = true) := Lib.hid (all_oneCell_toArray (by simp [Value.oneCell']))
  have hbw3 : Below w.heap.size w (((w.alloc (.cells #[.slice none 0 0, .slice none 0 0] 27)).alloc (.cells #[.slice none 0 0, .slice none 0 0] 27)).setCells (w.heap.size + 1) 0 [.slice none 0 0, .slice none 0 0]) := hbw.trans (below_setCells_ hgx 0 [.slice none 0 0, .slice none 0 0])
  have HR := Lib.hid (h.below_ hbw3)
  have HB : Hid (Below base w (((w.alloc (.cells #[.slice none 0 0, .slice none 0 0] 27)).alloc (.cells #[.slice none 0 0, .slice none 0 0] 27)).setCells (w.heap.size + 1) 0 [.slice none 0 0, .slice none 0 0])) := Lib.hid (hbw3.mono hbs)
  have HK : Hid (Keeps [108, 106] w (((w.alloc (.cells #[.slice none 0 0, .slice none 0 0] 27)).alloc (.cells #[.slice none 0 0, .slice none 0 0] 27)).setCells (w.heap.size + 1) 0 [.slice none 0 0, .slice none 0 0])) := Lib.hid (Keeps.of_below hbw3 (Nat.le_refl _))
  replace HX : Hid (Blk (((w.alloc (.cells #[.slice none 0 0, .slice none 0 0] 27)).alloc (.cells #[.slice none 0 0, .slice none 0 0] 27)).setCells (w.heap.size + 1) 0 [.slice none 0 0, .slice none 0 0]) (w.heap.size + 1) 27 [.slice none 0 0, .slice none 0 0]) := Lib.hid (HX.out.setCells0 [.slice none 0 0, .slice none 0 0] rfl)
  replace HRes : Hid (Blk (((w.alloc (.cells #[.slice none 0 0, .slice none 0 0] 27)).alloc (.cells #[.slice none 0 0, .slice none 0 0] 27)).setCells (w.heap.size + 1) 0 [.slice none 0 0, .slice none 0 0]) w.heap.size 27 [.slice none 0 0, .slice none 0 0]) := Lib.hid (Blk.far_setCells (by omega) 0 [.slice none 0 0, .slice none 0 0] HRes.out)
  clear h hbw hbw3
  go_enter Tryz.func55, Tryz.ntmps55
  go_wp2_with (with_reducible refine wpList_store_mid rfl 27 _ _ rfl (w.heap.size + 1) 0 (List.toArray ([.slice none 0 0, .slice none 0 0] : List Value)) rfl rfl HTZ.out hsZ.out h1Z.out ?_)
  refine (C_many base g (o) _ HR.out).mono ?_
  rintro e wmw0 ⟨⟨Nw0, rfl, hN4, hN⟩, hA, hK⟩
  have HRSw0 := Lib.hid (rows_step (sh := shSchema) hN)
  obtain ⟨ow0, ho1⟩ : ∃ o1, stepM (o) = o1 := ⟨_, rfl⟩
  rw [ho1] at hA HRSw0
  replace HR := Lib.hid hA
  replace HB := Lib.hid (HB.out.trans hK.below)
  replace HK := Lib.hid (HK.out.trans hK.keeps)
  replace HX := Lib.hid (HX.out.keeps hK.keeps (by decide))
  replace HRes := Lib.hid (HRes.out.keeps hK.keeps (by decide))
  clear hN hA hK ho1
  go_wp2
  go_loopw [5] (fun i wr => ∃ (j : Nat) (A : Option Addr) (c : Nat) (xs : List Value), j ≤ Nw0 ∧ i = .int .i64 j ∧ Hid (CutAt wr base g (iterO shSchema j ow0)) ∧ Hid (wr.ownsRow w.heap.size 128 2 (.slice A j c) j xs) ∧ Hid (Blk wr (w.heap.size + 1) 27 [.slice A j c, .slice none 0 0]) ∧ Hid (Blk wr w.heap.size 27 [.slice none 0 0, .slice none 0 0]) ∧ Hid (Below base w wr) ∧ Hid (Keeps [108, 106] w wr)) (fun i _ => Nw0 - (intOf i).toNat)
  case atStart => exact ⟨0, none, 0, [], Nat.zero_le _, rfl, Lib.hid (by rw [iterO_zero]; exact HR.out), Lib.hid (World.ownsRow_nil _ w.heap.size 128 2), HX, HRes, HB, HK⟩
  case round =>
    clear HR HX HRes HB HK
    obtain ⟨mw0, Aw0, kw0, xs, hj, rfl, HR, HO, HX, HRes, HB, HK⟩ := hrel
    obtain ⟨nb, hnb⟩ : ∃ nb, (iterO shSchema mw0 ow0).isNone = nb := ⟨_, rfl⟩
    have hcb : wr.cell? ⟨g, 1, none⟩ = some (.bool nb) := by
      obtain ⟨r, A', n, c', i, lb, hB, _⟩ := HR.out
      rw [← hnb]
      exact hB.cell 1
    have HNB := Lib.hid hnb
    clear hnb
    have hwr := HB.out.size
    have hwz := HK.out.size
    by_cases hlt2 : mw0 < Nw0
    rotate_left
    · have hjN : mw0 = Nw0 := by omega
      replace HR : Hid (CutAt wr base g (stepO (.rows shSchema) (o))) := Lib.hid (by rw [HRSw0.out, ← hjN]; exact HR.out)
      clear hjN
      go_wp2_with fail
      refine (C_many base g (stepO (.rows shSchema) (o)) _ HR.out).mono ?_
      rintro e wmw1 ⟨⟨Nw1, rfl, hN4, hN⟩, hA, hK⟩
      have HRSw1 := Lib.hid (rows_step (sh := shTable) hN)
      obtain ⟨ow1, ho1⟩ : ∃ o1, stepM (stepO (.rows shSchema) (o)) = o1 := ⟨_, rfl⟩
      rw [ho1] at hA HRSw1
      replace HR := Lib.hid hA
      replace HB := Lib.hid (HB.out.trans hK.below)
      replace HK := Lib.hid (HK.out.trans hK.keeps)
      replace HX := Lib.hid (HX.out.keeps hK.keeps (by decide))
      replace HRes := Lib.hid (HRes.out.keeps hK.keeps (by decide))
      clear hN hA hK ho1
      go_wp2
      go_loopw [7] (fun i wr => ∃ (j : Nat) (A : Option Addr) (c : Nat) (xs : List Value), j ≤ Nw1 ∧ i = .int .i64 j ∧ Hid (CutAt wr base g (iterO shTable j ow1)) ∧ Hid (wr.ownsRow w.heap.size 134 5 (.slice A j c) j xs) ∧ Hid (Blk wr (w.heap.size + 1) 27 [.slice Aw0 mw0 kw0, .slice A j c]) ∧ Hid (Blk wr w.heap.size 27 [.slice none 0 0, .slice none 0 0]) ∧ Hid (Below base w wr) ∧ Hid (Keeps [108, 106] w wr)) (fun i _ => Nw1 - (intOf i).toNat)
      case atStart => exact ⟨0, none, 0, [], Nat.zero_le _, rfl, Lib.hid (by rw [iterO_zero]; exact HR.out), Lib.hid (World.ownsRow_nil _ w.heap.size 134 5), HX, HRes, HB, HK⟩
      case round =>
        clear HR HX HRes HB HK
        obtain ⟨mw1, Aw1, kw1, xs, hj, rfl, HR, HO, HX, HRes, HB, HK⟩ := hrel
        obtain ⟨nb, hnb⟩ : ∃ nb, (iterO shTable mw1 ow1).isNone = nb := ⟨_, rfl⟩
        have hcb : wr.cell? ⟨g, 1, none⟩ = some (.bool nb) := by
          obtain ⟨r, A', n, c', i, lb, hB, _⟩ := HR.out
          rw [← hnb]
          exact hB.cell 1
        have HNB := Lib.hid hnb
        clear hnb
        have hwr := HB.out.size
        have hwz := HK.out.size
        by_cases hlt2 : mw1 < Nw1
        rotate_left
        · have hjN : mw1 = Nw1 := by omega
          replace HR : Hid (CutAt wr base g (stepO (.rows shTable) (stepO (.rows shSchema) (o)))) := Lib.hid (by rw [HRSw1.out, ← hjN]; exact HR.out)
          clear hjN
          have HRG := Lib.hid HX.out.range0
          have HTE : Hid (World.there _ w.heap.size 0 (List.toArray ([.slice Aw0 mw0 kw0, .slice Aw1 mw1 kw1] : List Value)).size) := Lib.hid (HRes.out.there 0 2 (by simp))
          have hiV : Hid ((Tryz.prog.info? 27).map (·.size) = some (List.length ([.slice Aw0 mw0 kw0, .slice Aw1 mw1 kw1] : List Value))) := Lib.hid hi.out
          have hsV : Hid ((Tryz.prog.info? 27).map (·.size) = some (List.toArray ([.slice Aw0 mw0 kw0, .slice Aw1 mw1 kw1] : List Value)).size) := Lib.hid hi.out
          have h1V : Hid ((List.toArray ([.slice Aw0 mw0 kw0, .slice Aw1 mw1 kw1] : List Value)).all (·.oneCell') = true) := Lib.hid (all_oneCell_toArray (by simp [Value.oneCell']))
          go_wp2_with (first | (with_reducible refine wpList_load_mid rfl 27 _ rfl (w.heap.size + 1) 0 rfl [.slice Aw0 mw0 kw0, .slice Aw1 mw1 kw1] _ HRG.out Tryz.underlying27 rfl hiV.out ?_) | (with_reducible refine wpList_store_mid rfl 27 _ _ rfl w.heap.size 0 (List.toArray ([.slice Aw0 mw0 kw0, .slice Aw1 mw1 kw1] : List Value)) rfl rfl HTE.out hsV.out h1V.out ?_))
          have HXE := Lib.hid (HRes.out.setCells0 [.slice Aw0 mw0 kw0, .slice Aw1 mw1 kw1] rfl)
          have HKE := Lib.hid (Keeps.setCells (ts := [27]) (t := 27) (by simp) HRes.out.typ 0 [.slice Aw0 mw0 kw0, .slice Aw1 mw1 kw1])
          refine bodyPost_ret (results_cell rfl _ _ w.heap.size rfl [.slice Aw0 mw0 kw0, .slice Aw1 mw1 kw1] _ HXE.out.range0 Tryz.underlying27 rfl hiV.out) rfl ?_
          refine ⟨⟨[.slice Aw0 mw0 kw0, .slice Aw1 mw1 kw1], rfl, (Kinds.mk (Kind1.rows _ Aw0 mw0 kw0) (Kinds.mk (Kind1.rows _ Aw1 mw1 kw1) Kinds.mk0))⟩, ?_, HB.out.trans (below_setCells_ hbs _ _), HK.out.below_new (below_setCells_ (Nat.le_refl _) _ _)⟩
          have hfin := HR.out.keeps HKE.out (below_setCells_ hbs _ _) (by decide) (by decide)
          simpa only [shObjects, stepS_cons, stepS_nil] using hfin

        cases nb with
        | true =>
          replace HR : Hid (CutAt wr base g (stepO (.rows shTable) (stepO (.rows shSchema) (o)))) := Lib.hid (by
            have h1 : iterO shTable mw1 ow1 = none := by have := HNB.out; simpa using this
            rw [HRSw1.out, iterO_none h1 (by omega), ← h1]
            exact HR.out)
          have HRG := Lib.hid HX.out.range0
          have HTE : Hid (World.there _ w.heap.size 0 (List.toArray ([.slice Aw0 mw0 kw0, .slice Aw1 mw1 kw1] : List Value)).size) := Lib.hid (HRes.out.there 0 2 (by simp))
          have hiV : Hid ((Tryz.prog.info? 27).map (·.size) = some (List.length ([.slice Aw0 mw0 kw0, .slice Aw1 mw1 kw1] : List Value))) := Lib.hid hi.out
          have hsV : Hid ((Tryz.prog.info? 27).map (·.size) = some (List.toArray ([.slice Aw0 mw0 kw0, .slice Aw1 mw1 kw1] : List Value)).size) := Lib.hid hi.out
          have h1V : Hid ((List.toArray ([.slice Aw0 mw0 kw0, .slice Aw1 mw1 kw1] : List Value)).all (·.oneCell') = true) := Lib.hid (all_oneCell_toArray (by simp [Value.oneCell']))
          go_wp2_with (first | (with_reducible refine wpList_load_mid rfl 27 _ rfl (w.heap.size + 1) 0 rfl [.slice Aw0 mw0 kw0, .slice Aw1 mw1 kw1] _ HRG.out Tryz.underlying27 rfl hiV.out ?_) | (with_reducible refine wpList_store_mid rfl 27 _ _ rfl w.heap.size 0 (List.toArray ([.slice Aw0 mw0 kw0, .slice Aw1 mw1 kw1] : List Value)) rfl rfl HTE.out hsV.out h1V.out ?_))
          have HXE := Lib.hid (HRes.out.setCells0 [.slice Aw0 mw0 kw0, .slice Aw1 mw1 kw1] rfl)
          have HKE := Lib.hid (Keeps.setCells (ts := [27]) (t := 27) (by simp) HRes.out.typ 0 [.slice Aw0 mw0 kw0, .slice Aw1 mw1 kw1])
          refine bodyPost_ret (results_cell rfl _ _ w.heap.size rfl [.slice Aw0 mw0 kw0, .slice Aw1 mw1 kw1] _ HXE.out.range0 Tryz.underlying27 rfl hiV.out) rfl ?_
          refine ⟨⟨[.slice Aw0 mw0 kw0, .slice Aw1 mw1 kw1], rfl, (Kinds.mk (Kind1.rows _ Aw0 mw0 kw0) (Kinds.mk (Kind1.rows _ Aw1 mw1 kw1) Kinds.mk0))⟩, ?_, HB.out.trans (below_setCells_ hbs _ _), HK.out.below_new (below_setCells_ (Nat.le_refl _) _ _)⟩
          have hfin := HR.out.keeps HKE.out (below_setCells_ hbs _ _) (by decide) (by decide)
          simpa only [shObjects, stepS_cons, stepS_nil] using hfin

        | false =>
          have hbs0 := hbs
          go_wp2_with fail
          refine (C_table base g (iterO shTable mw1 ow1) _ HR.out).mono ?_
          rintro e w2 ⟨⟨vs, rfl, hv⟩, hA, hK⟩
          have hst : stepS shTable (iterO shTable mw1 ow1) = iterO shTable (mw1 + 1) ow1 := (iterO_succ _ _ _).symm
          rw [hst] at hA
          have hlen : vs.length = 5 := hv.len
          obtain ⟨x0, vt0, rfl, hl0⟩ := len_cons (n := 4) hlen
          obtain ⟨x1, vt1, rfl, hl1⟩ := len_cons (n := 3) hl0
          obtain ⟨x2, vt2, rfl, hl2⟩ := len_cons (n := 2) hl1
          obtain ⟨x3, vt3, rfl, hl3⟩ := len_cons (n := 1) hl2
          obtain ⟨x4, vt4, rfl, hl4⟩ := len_cons (n := 0) hl3
          obtain rfl := len_nil hl4
          have hone := hv.oneCell
          have HV1 := Lib.hid hone
          have HXe := Lib.hid (Blk.new w2 134 [.string ⟨#[]⟩, .string ⟨#[]⟩, .string ⟨#[]⟩, .slice none 0 0, .slice none 0 0])
          have HTZ : Hid (World.there (w2.alloc (.cells #[.string ⟨#[]⟩, .string ⟨#[]⟩, .string ⟨#[]⟩, .slice none 0 0, .slice none 0 0] 134)) w2.heap.size 0 (List.toArray ([x0, x1, x2, x3, x4] : List Value)).size) := Lib.hid (HXe.out.there 0 _ (by simp))
          have hsZ : Hid ((Tryz.prog.info? 134).map (·.size) = some (List.toArray ([x0, x1, x2, x3, x4] : List Value)).size) := Lib.hid (by kernel_rfl)
          have hiZ : Hid ((Tryz.prog.info? 134).map (·.size) = some (List.length ([x0, x1, x2, x3, x4] : List Value))) := Lib.hid (by kernel_rfl)
          have h1Z : Hid ((List.toArray ([x0, x1, x2, x3, x4] : List Value)).all (·.oneCell') = true) := Lib.hid (all_oneCell_toArray hone)
          have hbw : Below w2.heap.size w2 ((w2.alloc (.cells #[.string ⟨#[]⟩, .string ⟨#[]⟩, .string ⟨#[]⟩, .slice none 0 0, .slice none 0 0] 134)).setCells w2.heap.size 0 [x0, x1, x2, x3, x4]) := ((Below.refl _ _).alloc (Nat.le_refl _) _).trans (below_setCells_ (Nat.le_refl _) 0 [x0, x1, x2, x3, x4])
          have hsz2 := hK.keeps.size
          have hwr2 : w.heap.size ≤ w2.heap.size := by omega
          replace HXe : Hid (Blk ((w2.alloc (.cells #[.string ⟨#[]⟩, .string ⟨#[]⟩, .string ⟨#[]⟩, .slice none 0 0, .slice none 0 0] 134)).setCells w2.heap.size 0 [x0, x1, x2, x3, x4]) w2.heap.size 134 [x0, x1, x2, x3, x4]) := Lib.hid (HXe.out.setCells0 [x0, x1, x2, x3, x4] rfl)
          have HA2 := Lib.hid (hA.below_ hbw)
          have HB2 := Lib.hid ((HB.out.trans hK.below).trans (hbw.mono (by omega)))
          have HK2 := Lib.hid ((HK.out.trans hK.keeps).then_below hbw)
          have HX2 := Lib.hid ((HX.out.keeps hK.keeps (by decide)).below hbw (by have := (HX.out.keeps hK.keeps (by decide)).lt; omega))
          have HRes2 := Lib.hid ((HRes.out.keeps hK.keeps (by decide)).below hbw (by have := (HRes.out.keeps hK.keeps (by decide)).lt; omega))
          have HO2 := Lib.hid ((HO.out.keeps hK.keeps (by decide)).below_ hbw)
          have hsz3 := hbw.size
          clear hA hK hv hone hbw HR HB HK HX HRes HO hst hcb
          obtain ⟨i0, hi0⟩ : ∃ i, Tryz.prog.info? 134 = some i := by
            cases hq : Tryz.prog.info? 134 with
            | none => have h0 : (Tryz.prog.info? 134).isSome = true := by kernel_rfl
                      rw [hq] at h0; cases h0
            | some i => exact ⟨i, rfl⟩
          have hinf : (Tryz.prog.info? 134).map (fun i => (i.zero, i.size, decide (i.bytes ≤ 1000))) = some (some (.agg #[.string ⟨#[]⟩, .string ⟨#[]⟩, .string ⟨#[]⟩, .slice none 0 0, .slice none 0 0]), 5, true) := by kernel_rfl
          rw [hi0] at hinf
          simp only [Option.map_some, Option.some.injEq, Prod.mk.injEq, decide_eq_true_eq] at hinf
          obtain ⟨hz0, hz1, hz2⟩ := hinf
          have hby := Nat.mul_le_mul_left 4097 hz2
          have HI := Lib.hid (And.intro hi0 (And.intro hz0 hz1))
          clear hi0 hz0 hz1
          have hszn : ((w2.alloc (.cells #[.string ⟨#[]⟩, .string ⟨#[]⟩, .string ⟨#[]⟩, .slice none 0 0, .slice none 0 0] 134)).setCells w2.heap.size 0 [x0, x1, x2, x3, x4]).heap.size = w2.heap.size + 1 := by rw [setCells_size]; simp
          have HNB2 : Hid (Blk (((w2.alloc (.cells #[.string ⟨#[]⟩, .string ⟨#[]⟩, .string ⟨#[]⟩, .slice none 0 0, .slice none 0 0] 134)).setCells w2.heap.size 0 [x0, x1, x2, x3, x4]).alloc (.cells (List.toArray ([x0, x1, x2, x3, x4] : List Value)) 134)) (w2.heap.size + 1) 134 [x0, x1, x2, x3, x4]) := Lib.hid (by have := Blk.new ((w2.alloc (.cells #[.string ⟨#[]⟩, .string ⟨#[]⟩, .string ⟨#[]⟩, .slice none 0 0, .slice none 0 0] 134)).setCells w2.heap.size 0 [x0, x1, x2, x3, x4]) 134 [x0, x1, x2, x3, x4]; rwa [hszn] at this)
          have HRG := Lib.hid HXe.out.range0
          have hcxf : ((w2.alloc (.cells #[.string ⟨#[]⟩, .string ⟨#[]⟩, .string ⟨#[]⟩, .slice none 0 0, .slice none 0 0] 134)).setCells w2.heap.size 0 [x0, x1, x2, x3, x4]).cell? ⟨w.heap.size + 1, 1, none⟩ = some (.slice Aw1 mw1 kw1) := HX2.out.cell 1
          have hbase2 := HK2.out.size
          go_wp2_with (first | (with_reducible refine wpList_store_mid rfl 134 _ _ rfl w2.heap.size 0 (List.toArray ([x0, x1, x2, x3, x4] : List Value)) rfl rfl HTZ.out hsZ.out h1Z.out ?_) | (with_reducible refine wpList_load_mid rfl 134 _ rfl (w2.heap.size) 0 rfl [x0, x1, x2, x3, x4] _ HRG.out Tryz.underlying134 rfl hiZ.out ?_) | (at_builtin; refine wpList_appN rfl _ _ 25 rfl w.heap.size 134 i0 _ 5 i0.bytes Tryz.underlying25 HI.out.1 HI.out.2.1 HI.out.2.2 rfl rfl (by decide) (.slice Aw1 mw1 kw1) mw1 xs rfl (HO2.out.alloc _) ⟨w2.heap.size + 1, 0, none⟩ 1 [x0, x1, x2, x3, x4] rfl rfl HNB2.out.news HV1.out (by unfold maxLen; omega) (Nat.le_trans (Nat.mul_le_mul_right _ (by omega)) (Nat.le_trans hby (by decide))) (by simp at hbase2 ⊢; omega) ?_; intro A3 c3 w3 HO3 HG3; have HXA := Lib.hid ((HX2.out.alloc _).keeps (Keeps.grown (ts := [134]) (HO2.out.alloc _) HG3.out (by simp) HG3.out.size) (by decide)); have hcxa : w3.cell? ⟨w.heap.size + 1, 1, none⟩ = some (.slice Aw1 mw1 kw1) := HXA.out.cell 1; have hfxa : w3.frozen? ⟨w.heap.size + 1, 1, none⟩ = false := HXA.out.frozen 1))
          have HKA : Hid (Keeps [134] ((w2.alloc (.cells #[.string ⟨#[]⟩, .string ⟨#[]⟩, .string ⟨#[]⟩, .slice none 0 0, .slice none 0 0] 134)).setCells w2.heap.size 0 [x0, x1, x2, x3, x4]) w3) := Lib.hid ((Keeps.alloc ((w2.alloc (.cells #[.string ⟨#[]⟩, .string ⟨#[]⟩, .string ⟨#[]⟩, .slice none 0 0, .slice none 0 0] 134)).setCells w2.heap.size 0 [x0, x1, x2, x3, x4]) _).trans (Keeps.grown (HO2.out.alloc _) HG3.out (by simp) HG3.out.size))
          have HBA : Hid (Below base ((w2.alloc (.cells #[.string ⟨#[]⟩, .string ⟨#[]⟩, .string ⟨#[]⟩, .slice none 0 0, .slice none 0 0] 134)).setCells w2.heap.size 0 [x0, x1, x2, x3, x4]) w3) := Lib.hid (((Below.refl _ _).alloc (by omega) _).grown HG3.out (by simp; omega) (by intro k hk; have := own_block_ge HO2.out k hk; omega))
          have HKF : Hid (Keeps [27] w3 (w3.setCell ⟨w.heap.size + 1, 1, none⟩ (.slice A3 (mw1 + 1) c3))) := Lib.hid (Keeps.set_ HXA.out.typ (by simp) _)
          have HBF : Hid (Below w.heap.size w3 (w3.setCell ⟨w.heap.size + 1, 1, none⟩ (.slice A3 (mw1 + 1) c3))) := Lib.hid ((Below.refl _ _).setCell hgx _)
          have hrel : ∃ (j' : Nat) (A : Option Addr) (c : Nat) (xs : List Value), j' ≤ Nw1 ∧ Value.int .i64 ((mw1 : Int) + 1) = .int .i64 j' ∧ Hid (CutAt (w3.setCell ⟨w.heap.size + 1, 1, none⟩ (.slice A3 (mw1 + 1) c3)) base g (iterO shTable j' ow1)) ∧ Hid ((w3.setCell ⟨w.heap.size + 1, 1, none⟩ (.slice A3 (mw1 + 1) c3)).ownsRow w.heap.size 134 5 (.slice A j' c) j' xs) ∧ Hid (Blk (w3.setCell ⟨w.heap.size + 1, 1, none⟩ (.slice A3 (mw1 + 1) c3)) (w.heap.size + 1) 27 [.slice Aw0 mw0 kw0, .slice A j' c]) ∧ Hid (Blk (w3.setCell ⟨w.heap.size + 1, 1, none⟩ (.slice A3 (mw1 + 1) c3)) w.heap.size 27 [.slice none 0 0, .slice none 0 0]) ∧ Hid (Below base w (w3.setCell ⟨w.heap.size + 1, 1, none⟩ (.slice A3 (mw1 + 1) c3))) ∧ Hid (Keeps [108, 106] w (w3.setCell ⟨w.heap.size + 1, 1, none⟩ (.slice A3 (mw1 + 1) c3))) := by
            refine ⟨mw1 + 1, A3, c3, _, by omega, by simp, Lib.hid ((HA2.out.keeps HKA.out HBA.out (by decide) (by decide)).keeps HKF.out (HBF.out.mono hbs0) (by decide) (by decide)), Lib.hid (HO3.out.kept (grownBy_setCell (World.grownBy.refl _ _) 1 _) (.inr (blk_own_ne HXA.out HO3.out (by decide)).symm)), Lib.hid (HXA.out.set_ 1 _), Lib.hid ((HRes2.out.keeps HKA.out (by decide)).far (by dsimp only; omega) _), Lib.hid ((HB2.out.trans HBA.out).trans (HBF.out.mono hbs0)), Lib.hid (Keeps.below_new ?_ HBF.out)⟩
            exact (HK2.out.then_below ((Below.refl _ _).alloc (Nat.le_refl _) _)).grown_new HG3.out (fun k hk => by have := own_block_ge HO2.out k hk; omega)
          clear HKA HBA HKF HBF HXA HO3 HG3 HO2 HA2 HK2 HB2 HX2 HRes2
          go_wp2
          go_roundw
          case rel => obtain ⟨j', A, c, xs, h1, h2, h3⟩ := hrel; exact ⟨j', A, c, xs, h1, by rw [← h2], h3⟩
          case measure => simp [intOf]; omega
    cases nb with
    | true =>
      replace HR : Hid (CutAt wr base g (stepO (.rows shSchema) (o))) := Lib.hid (by
        have h1 : iterO shSchema mw0 ow0 = none := by have := HNB.out; simpa using this
        rw [HRSw0.out, iterO_none h1 (by omega), ← h1]
        exact HR.out)
      go_wp2_with fail
      refine (C_many base g (stepO (.rows shSchema) (o)) _ HR.out).mono ?_
      rintro e wmw1 ⟨⟨Nw1, rfl, hN4, hN⟩, hA, hK⟩
      have HRSw1 := Lib.hid (rows_step (sh := shTable) hN)
      obtain ⟨ow1, ho1⟩ : ∃ o1, stepM (stepO (.rows shSchema) (o)) = o1 := ⟨_, rfl⟩
      rw [ho1] at hA HRSw1
      replace HR := Lib.hid hA
      replace HB := Lib.hid (HB.out.trans hK.below)
      replace HK := Lib.hid (HK.out.trans hK.keeps)
      replace HX := Lib.hid (HX.out.keeps hK.keeps (by decide))
      replace HRes := Lib.hid (HRes.out.keeps hK.keeps (by decide))
      clear hN hA hK ho1
      go_wp2
      go_loopw [7] (fun i wr => ∃ (j : Nat) (A : Option Addr) (c : Nat) (xs : List Value), j ≤ Nw1 ∧ i = .int .i64 j ∧ Hid (CutAt wr base g (iterO shTable j ow1)) ∧ Hid (wr.ownsRow w.heap.size 134 5 (.slice A j c) j xs) ∧ Hid (Blk wr (w.heap.size + 1) 27 [.slice Aw0 mw0 kw0, .slice A j c]) ∧ Hid (Blk wr w.heap.size 27 [.slice none 0 0, .slice none 0 0]) ∧ Hid (Below base w wr) ∧ Hid (Keeps [108, 106] w wr)) (fun i _ => Nw1 - (intOf i).toNat)
      case atStart => exact ⟨0, none, 0, [], Nat.zero_le _, rfl, Lib.hid (by rw [iterO_zero]; exact HR.out), Lib.hid (World.ownsRow_nil _ w.heap.size 134 5), HX, HRes, HB, HK⟩
      case round =>
        clear HR HX HRes HB HK
        obtain ⟨mw1, Aw1, kw1, xs, hj, rfl, HR, HO, HX, HRes, HB, HK⟩ := hrel
        obtain ⟨nb, hnb⟩ : ∃ nb, (iterO shTable mw1 ow1).isNone = nb := ⟨_, rfl⟩
        have hcb : wr.cell? ⟨g, 1, none⟩ = some (.bool nb) := by
          obtain ⟨r, A', n, c', i, lb, hB, _⟩ := HR.out
          rw [← hnb]
          exact hB.cell 1
        have HNB := Lib.hid hnb
        clear hnb
        have hwr := HB.out.size
        have hwz := HK.out.size
        by_cases hlt2 : mw1 < Nw1
        rotate_left
        · have hjN : mw1 = Nw1 := by omega
          replace HR : Hid (CutAt wr base g (stepO (.rows shTable) (stepO (.rows shSchema) (o)))) := Lib.hid (by rw [HRSw1.out, ← hjN]; exact HR.out)
          clear hjN
          have HRG := Lib.hid HX.out.range0
          have HTE : Hid (World.there _ w.heap.size 0 (List.toArray ([.slice Aw0 mw0 kw0, .slice Aw1 mw1 kw1] : List Value)).size) := Lib.hid (HRes.out.there 0 2 (by simp))
          have hiV : Hid ((Tryz.prog.info? 27).map (·.size) = some (List.length ([.slice Aw0 mw0 kw0, .slice Aw1 mw1 kw1] : List Value))) := Lib.hid hi.out
          have hsV : Hid ((Tryz.prog.info? 27).map (·.size) = some (List.toArray ([.slice Aw0 mw0 kw0, .slice Aw1 mw1 kw1] : List Value)).size) := Lib.hid hi.out
          have h1V : Hid ((List.toArray ([.slice Aw0 mw0 kw0, .slice Aw1 mw1 kw1] : List Value)).all (·.oneCell') = true) := Lib.hid (all_oneCell_toArray (by simp [Value.oneCell']))
          go_wp2_with (first | (with_reducible refine wpList_load_mid rfl 27 _ rfl (w.heap.size + 1) 0 rfl [.slice Aw0 mw0 kw0, .slice Aw1 mw1 kw1] _ HRG.out Tryz.underlying27 rfl hiV.out ?_) | (with_reducible refine wpList_store_mid rfl 27 _ _ rfl w.heap.size 0 (List.toArray ([.slice Aw0 mw0 kw0, .slice Aw1 mw1 kw1] : List Value)) rfl rfl HTE.out hsV.out h1V.out ?_))
          have HXE := Lib.hid (HRes.out.setCells0 [.slice Aw0 mw0 kw0, .slice Aw1 mw1 kw1] rfl)
          have HKE := Lib.hid (Keeps.setCells (ts := [27]) (t := 27) (by simp) HRes.out.typ 0 [.slice Aw0 mw0 kw0, .slice Aw1 mw1 kw1])
          refine bodyPost_ret (results_cell rfl _ _ w.heap.size rfl [.slice Aw0 mw0 kw0, .slice Aw1 mw1 kw1] _ HXE.out.range0 Tryz.underlying27 rfl hiV.out) rfl ?_
          refine ⟨⟨[.slice Aw0 mw0 kw0, .slice Aw1 mw1 kw1], rfl, (Kinds.mk (Kind1.rows _ Aw0 mw0 kw0) (Kinds.mk (Kind1.rows _ Aw1 mw1 kw1) Kinds.mk0))⟩, ?_, HB.out.trans (below_setCells_ hbs _ _), HK.out.below_new (below_setCells_ (Nat.le_refl _) _ _)⟩
          have hfin := HR.out.keeps HKE.out (below_setCells_ hbs _ _) (by decide) (by decide)
          simpa only [shObjects, stepS_cons, stepS_nil] using hfin

        cases nb with
        | true =>
          replace HR : Hid (CutAt wr base g (stepO (.rows shTable) (stepO (.rows shSchema) (o)))) := Lib.hid (by
            have h1 : iterO shTable mw1 ow1 = none := by have := HNB.out; simpa using this
            rw [HRSw1.out, iterO_none h1 (by omega), ← h1]
            exact HR.out)
          have HRG := Lib.hid HX.out.range0
          have HTE : Hid (World.there _ w.heap.size 0 (List.toArray ([.slice Aw0 mw0 kw0, .slice Aw1 mw1 kw1] : List Value)).size) := Lib.hid (HRes.out.there 0 2 (by simp))
          have hiV : Hid ((Tryz.prog.info? 27).map (·.size) = some (List.length ([.slice Aw0 mw0 kw0, .slice Aw1 mw1 kw1] : List Value))) := Lib.hid hi.out
          have hsV : Hid ((Tryz.prog.info? 27).map (·.size) = some (List.toArray ([.slice Aw0 mw0 kw0, .slice Aw1 mw1 kw1] : List Value)).size) := Lib.hid hi.out
          have h1V : Hid ((List.toArray ([.slice Aw0 mw0 kw0, .slice Aw1 mw1 kw1] : List Value)).all (·.oneCell') = true) := Lib.hid (all_oneCell_toArray (by simp [Value.oneCell']))
          go_wp2_with (first | (with_reducible refine wpList_load_mid rfl 27 _ rfl (w.heap.size + 1) 0 rfl [.slice Aw0 mw0 kw0, .slice Aw1 mw1 kw1] _ HRG.out Tryz.underlying27 rfl hiV.out ?_) | (with_reducible refine wpList_store_mid rfl 27 _ _ rfl w.heap.size 0 (List.toArray ([.slice Aw0 mw0 kw0, .slice Aw1 mw1 kw1] : List Value)) rfl rfl HTE.out hsV.out h1V.out ?_))
          have HXE := Lib.hid (HRes.out.setCells0 [.slice Aw0 mw0 kw0, .slice Aw1 mw1 kw1] rfl)
          have HKE := Lib.hid (Keeps.setCells (ts := [27]) (t := 27) (by simp) HRes.out.typ 0 [.slice Aw0 mw0 kw0, .slice Aw1 mw1 kw1])
          refine bodyPost_ret (results_cell rfl _ _ w.heap.size rfl [.slice Aw0 mw0 kw0, .slice Aw1 mw1 kw1] _ HXE.out.range0 Tryz.underlying27 rfl hiV.out) rfl ?_
          refine ⟨⟨[.slice Aw0 mw0 kw0, .slice Aw1 mw1 kw1], rfl, (Kinds.mk (Kind1.rows _ Aw0 mw0 kw0) (Kinds.mk (Kind1.rows _ Aw1 mw1 kw1) Kinds.mk0))⟩, ?_, HB.out.trans (below_setCells_ hbs _ _), HK.out.below_new (below_setCells_ (Nat.le_refl _) _ _)⟩
          have hfin := HR.out.keeps HKE.out (below_setCells_ hbs _ _) (by decide) (by decide)
          simpa only [shObjects, stepS_cons, stepS_nil] using hfin

        | false =>
          have hbs0 := hbs
          go_wp2_with fail
          refine (C_table base g (iterO shTable mw1 ow1) _ HR.out).mono ?_
          rintro e w2 ⟨⟨vs, rfl, hv⟩, hA, hK⟩
          have hst : stepS shTable (iterO shTable mw1 ow1) = iterO shTable (mw1 + 1) ow1 := (iterO_succ _ _ _).symm
          rw [hst] at hA
          have hlen : vs.length = 5 := hv.len
          obtain ⟨x0, vt0, rfl, hl0⟩ := len_cons (n := 4) hlen
          obtain ⟨x1, vt1, rfl, hl1⟩ := len_cons (n := 3) hl0
          obtain ⟨x2, vt2, rfl, hl2⟩ := len_cons (n := 2) hl1
          obtain ⟨x3, vt3, rfl, hl3⟩ := len_cons (n := 1) hl2
          obtain ⟨x4, vt4, rfl, hl4⟩ := len_cons (n := 0) hl3
          obtain rfl := len_nil hl4
          have hone := hv.oneCell
          have HV1 := Lib.hid hone
          have HXe := Lib.hid (Blk.new w2 134 [.string ⟨#[]⟩, .string ⟨#[]⟩, .string ⟨#[]⟩, .slice none 0 0, .slice none 0 0])
          have HTZ : Hid (World.there (w2.alloc (.cells #[.string ⟨#[]⟩, .string ⟨#[]⟩, .string ⟨#[]⟩, .slice none 0 0, .slice none 0 0] 134)) w2.heap.size 0 (List.toArray ([x0, x1, x2, x3, x4] : List Value)).size) := Lib.hid (HXe.out.there 0 _ (by simp))
          have hsZ : Hid ((Tryz.prog.info? 134).map (·.size) = some (List.toArray ([x0, x1, x2, x3, x4] : List Value)).size) := Lib.hid (by kernel_rfl)
          have hiZ : Hid ((Tryz.prog.info? 134).map (·.size) = some (List.length ([x0, x1, x2, x3, x4] : List Value))) := Lib.hid (by kernel_rfl)
          have h1Z : Hid ((List.toArray ([x0, x1, x2, x3, x4] : List Value)).all (·.oneCell') = true) := Lib.hid (all_oneCell_toArray hone)
          have hbw : Below w2.heap.size w2 ((w2.alloc (.cells #[.string ⟨#[]⟩, .string ⟨#[]⟩, .string ⟨#[]⟩, .slice none 0 0, .slice none 0 0] 134)).setCells w2.heap.size 0 [x0, x1, x2, x3, x4]) := ((Below.refl _ _).alloc (Nat.le_refl _) _).trans (below_setCells_ (Nat.le_refl _) 0 [x0, x1, x2, x3, x4])
          have hsz2 := hK.keeps.size
          have hwr2 : w.heap.size ≤ w2.heap.size := by omega
          replace HXe : Hid (Blk ((w2.alloc (.cells #[.string ⟨#[]⟩, .string ⟨#[]⟩, .string ⟨#[]⟩, .slice none 0 0, .slice none 0 0] 134)).setCells w2.heap.size 0 [x0, x1, x2, x3, x4]) w2.heap.size 134 [x0, x1, x2, x3, x4]) := Lib.hid (HXe.out.setCells0 [x0, x1, x2, x3, x4] rfl)
          have HA2 := Lib.hid (hA.below_ hbw)
          have HB2 := Lib.hid ((HB.out.trans hK.below).trans (hbw.mono (by omega)))
          have HK2 := Lib.hid ((HK.out.trans hK.keeps).then_below hbw)
          have HX2 := Lib.hid ((HX.out.keeps hK.keeps (by decide)).below hbw (by have := (HX.out.keeps hK.keeps (by decide)).lt; omega))
          have HRes2 := Lib.hid ((HRes.out.keeps hK.keeps (by decide)).below hbw (by have := (HRes.out.keeps hK.keeps (by decide)).lt; omega))
          have HO2 := Lib.hid ((HO.out.keeps hK.keeps (by decide)).below_ hbw)
          have hsz3 := hbw.size
          clear hA hK hv hone hbw HR HB HK HX HRes HO hst hcb
          obtain ⟨i0, hi0⟩ : ∃ i, Tryz.prog.info? 134 = some i := by
            cases hq : Tryz.prog.info? 134 with
            | none => have h0 : (Tryz.prog.info? 134).isSome = true := by kernel_rfl
                      rw [hq] at h0; cases h0
            | some i => exact ⟨i, rfl⟩
          have hinf : (Tryz.prog.info? 134).map (fun i => (i.zero, i.size, decide (i.bytes ≤ 1000))) = some (some (.agg #[.string ⟨#[]⟩, .string ⟨#[]⟩, .string ⟨#[]⟩, .slice none 0 0, .slice none 0 0]), 5, true) := by kernel_rfl
          rw [hi0] at hinf
          simp only [Option.map_some, Option.some.injEq, Prod.mk.injEq, decide_eq_true_eq] at hinf
          obtain ⟨hz0, hz1, hz2⟩ := hinf
          have hby := Nat.mul_le_mul_left 4097 hz2
          have HI := Lib.hid (And.intro hi0 (And.intro hz0 hz1))
          clear hi0 hz0 hz1
          have hszn : ((w2.alloc (.cells #[.string ⟨#[]⟩, .string ⟨#[]⟩, .string ⟨#[]⟩, .slice none 0 0, .slice none 0 0] 134)).setCells w2.heap.size 0 [x0, x1, x2, x3, x4]).heap.size = w2.heap.size + 1 := by rw [setCells_size]; simp
          have HNB2 : Hid (Blk (((w2.alloc (.cells #[.string ⟨#[]⟩, .string ⟨#[]⟩, .string ⟨#[]⟩, .slice none 0 0, .slice none 0 0] 134)).setCells w2.heap.size 0 [x0, x1, x2, x3, x4]).alloc (.cells (List.toArray ([x0, x1, x2, x3, x4] : List Value)) 134)) (w2.heap.size + 1) 134 [x0, x1, x2, x3, x4]) := Lib.hid (by have := Blk.new ((w2.alloc (.cells #[.string ⟨#[]⟩, .string ⟨#[]⟩, .string ⟨#[]⟩, .slice none 0 0, .slice none 0 0] 134)).setCells w2.heap.size 0 [x0, x1, x2, x3, x4]) 134 [x0, x1, x2, x3, x4]; rwa [hszn] at this)
          have HRG := Lib.hid HXe.out.range0
          have hcxf : ((w2.alloc (.cells #[.string ⟨#[]⟩, .string ⟨#[]⟩, .string ⟨#[]⟩, .slice none 0 0, .slice none 0 0] 134)).setCells w2.heap.size 0 [x0, x1, x2, x3, x4]).cell? ⟨w.heap.size + 1, 1, none⟩ = some (.slice Aw1 mw1 kw1) := HX2.out.cell 1
          have hbase2 := HK2.out.size
          go_wp2_with (first | (with_reducible refine wpList_store_mid rfl 134 _ _ rfl w2.heap.size 0 (List.toArray ([x0, x1, x2, x3, x4] : List Value)) rfl rfl HTZ.out hsZ.out h1Z.out ?_) | (with_reducible refine wpList_load_mid rfl 134 _ rfl (w2.heap.size) 0 rfl [x0, x1, x2, x3, x4] _ HRG.out Tryz.underlying134 rfl hiZ.out ?_) | (at_builtin; refine wpList_appN rfl _ _ 25 rfl w.heap.size 134 i0 _ 5 i0.bytes Tryz.underlying25 HI.out.1 HI.out.2.1 HI.out.2.2 rfl rfl (by decide) (.slice Aw1 mw1 kw1) mw1 xs rfl (HO2.out.alloc _) ⟨w2.heap.size + 1, 0, none⟩ 1 [x0, x1, x2, x3, x4] rfl rfl HNB2.out.news HV1.out (by unfold maxLen; omega) (Nat.le_trans (Nat.mul_le_mul_right _ (by omega)) (Nat.le_trans hby (by decide))) (by simp at hbase2 ⊢; omega) ?_; intro A3 c3 w3 HO3 HG3; have HXA := Lib.hid ((HX2.out.alloc _).keeps (Keeps.grown (ts := [134]) (HO2.out.alloc _) HG3.out (by simp) HG3.out.size) (by decide)); have hcxa : w3.cell? ⟨w.heap.size + 1, 1, none⟩ = some (.slice Aw1 mw1 kw1) := HXA.out.cell 1; have hfxa : w3.frozen? ⟨w.heap.size + 1, 1, none⟩ = false := HXA.out.frozen 1))
          have HKA : Hid (Keeps [134] ((w2.alloc (.cells #[.string ⟨#[]⟩, .string ⟨#[]⟩, .string ⟨#[]⟩, .slice none 0 0, .slice none 0 0] 134)).setCells w2.heap.size 0 [x0, x1, x2, x3, x4]) w3) := Lib.hid ((Keeps.alloc ((w2.alloc (.cells #[.string ⟨#[]⟩, .string ⟨#[]⟩, .string ⟨#[]⟩, .slice none 0 0, .slice none 0 0] 134)).setCells w2.heap.size 0 [x0, x1, x2, x3, x4]) _).trans (Keeps.grown (HO2.out.alloc _) HG3.out (by simp) HG3.out.size))
          have HBA : Hid (Below base ((w2.alloc (.cells #[.string ⟨#[]⟩, .string ⟨#[]⟩, .string ⟨#[]⟩, .slice none 0 0, .slice none 0 0] 134)).setCells w2.heap.size 0 [x0, x1, x2, x3, x4]) w3) := Lib.hid (((Below.refl _ _).alloc (by omega) _).grown HG3.out (by simp; omega) (by intro k hk; have := own_block_ge HO2.out k hk; omega))
          have HKF : Hid (Keeps [27] w3 (w3.setCell ⟨w.heap.size + 1, 1, none⟩ (.slice A3 (mw1 + 1) c3))) := Lib.hid (Keeps.set_ HXA.out.typ (by simp) _)
          have HBF : Hid (Below w.heap.size w3 (w3.setCell ⟨w.heap.size + 1, 1, none⟩ (.slice A3 (mw1 + 1) c3))) := Lib.hid ((Below.refl _ _).setCell hgx _)
          have hrel : ∃ (j' : Nat) (A : Option Addr) (c : Nat) (xs : List Value), j' ≤ Nw1 ∧ Value.int .i64 ((mw1 : Int) + 1) = .int .i64 j' ∧ Hid (CutAt (w3.setCell ⟨w.heap.size + 1, 1, none⟩ (.slice A3 (mw1 + 1) c3)) base g (iterO shTable j' ow1)) ∧ Hid ((w3.setCell ⟨w.heap.size + 1, 1, none⟩ (.slice A3 (mw1 + 1) c3)).ownsRow w.heap.size 134 5 (.slice A j' c) j' xs) ∧ Hid (Blk (w3.setCell ⟨w.heap.size + 1, 1, none⟩ (.slice A3 (mw1 + 1) c3)) (w.heap.size + 1) 27 [.slice Aw0 mw0 kw0, .slice A j' c]) ∧ Hid (Blk (w3.setCell ⟨w.heap.size + 1, 1, none⟩ (.slice A3 (mw1 + 1) c3)) w.heap.size 27 [.slice none 0 0, .slice none 0 0]) ∧ Hid (Below base w (w3.setCell ⟨w.heap.size + 1, 1, none⟩ (.slice A3 (mw1 + 1) c3))) ∧ Hid (Keeps [108, 106] w (w3.setCell ⟨w.heap.size + 1, 1, none⟩ (.slice A3 (mw1 + 1) c3))) := by
            refine ⟨mw1 + 1, A3, c3, _, by omega, by simp, Lib.hid ((HA2.out.keeps HKA.out HBA.out (by decide) (by decide)).keeps HKF.out (HBF.out.mono hbs0) (by decide) (by decide)), Lib.hid (HO3.out.kept (grownBy_setCell (World.grownBy.refl _ _) 1 _) (.inr (blk_own_ne HXA.out HO3.out (by decide)).symm)), Lib.hid (HXA.out.set_ 1 _), Lib.hid ((HRes2.out.keeps HKA.out (by decide)).far (by dsimp only; omega) _), Lib.hid ((HB2.out.trans HBA.out).trans (HBF.out.mono hbs0)), Lib.hid (Keeps.below_new ?_ HBF.out)⟩
            exact (HK2.out.then_below ((Below.refl _ _).alloc (Nat.le_refl _) _)).grown_new HG3.out (fun k hk => by have := own_block_ge HO2.out k hk; omega)
          clear HKA HBA HKF HBF HXA HO3 HG3 HO2 HA2 HK2 HB2 HX2 HRes2
          go_wp2
          go_roundw
          case rel => obtain ⟨j', A, c, xs, h1, h2, h3⟩ := hrel; exact ⟨j', A, c, xs, h1, by rw [← h2], h3⟩
          case measure => simp [intOf]; omega
    | false =>
      have hbs0 := hbs
      have hobx : ∀ k, (Value.slice Aw0 mw0 kw0).ownBlock = some k → k < wr.heap.size := fun k hk => (HO.out.lt k hk).2
      have HXo := HX
      have HBo := HB
      have HKo := HK
      have hbs1 : base ≤ wr.heap.size := by omega
      replace HX : Hid (Blk (wr.alloc (.cells #[.string ⟨#[]⟩, .string ⟨#[]⟩] 128)) wr.heap.size 128 [.string ⟨#[]⟩, .string ⟨#[]⟩]) := Lib.hid (Blk.new wr 128 [.string ⟨#[]⟩, .string ⟨#[]⟩])
      have HTZ : Hid (World.there (wr.alloc (.cells #[.string ⟨#[]⟩, .string ⟨#[]⟩] 128)) (wr.heap.size) 0 (List.toArray ([.string ⟨#[]⟩, .string ⟨#[]⟩] : List Value)).size) := Lib.hid (HX.out.there 0 2 (by simp))
      have hsZ : Hid ((Tryz.prog.info? 128).map (·.size) = some (List.toArray ([.string ⟨#[]⟩, .string ⟨#[]⟩] : List Value)).size) := Lib.hid (by kernel_rfl)
      have h1Z : Hid ((List.toArray ([.string ⟨#[]⟩, .string ⟨#[]⟩] : List Value)).all (·.oneCell') = true) := Lib.hid (all_oneCell_toArray (by simp [Value.oneCell']))
      have hbw3 : Below wr.heap.size wr ((wr.alloc (.cells #[.string ⟨#[]⟩, .string ⟨#[]⟩] 128)).setCells (wr.heap.size) 0 [.string ⟨#[]⟩, .string ⟨#[]⟩]) := ((Below.refl _ _).alloc (Nat.le_refl _) _).trans (below_setCells_ (Nat.le_refl _) 0 [.string ⟨#[]⟩, .string ⟨#[]⟩])
      replace HR := Lib.hid (HR.out.below_ hbw3)
      replace HB : Hid (Below base wr ((wr.alloc (.cells #[.string ⟨#[]⟩, .string ⟨#[]⟩] 128)).setCells (wr.heap.size) 0 [.string ⟨#[]⟩, .string ⟨#[]⟩])) := Lib.hid (hbw3.mono hbs1)
      replace HK : Hid (Keeps [108, 106] wr ((wr.alloc (.cells #[.string ⟨#[]⟩, .string ⟨#[]⟩] 128)).setCells (wr.heap.size) 0 [.string ⟨#[]⟩, .string ⟨#[]⟩])) := Lib.hid (Keeps.of_below hbw3 (Nat.le_refl _))
      replace HX : Hid (Blk ((wr.alloc (.cells #[.string ⟨#[]⟩, .string ⟨#[]⟩] 128)).setCells (wr.heap.size) 0 [.string ⟨#[]⟩, .string ⟨#[]⟩]) wr.heap.size 128 [.string ⟨#[]⟩, .string ⟨#[]⟩]) := Lib.hid (HX.out.setCells0 [.string ⟨#[]⟩, .string ⟨#[]⟩] rfl)
      replace HXo := Lib.hid (HXo.out.below hbw3 HXo.out.lt)
      replace HRes := Lib.hid (HRes.out.below hbw3 HRes.out.lt)
      replace HO := Lib.hid (HO.out.below_ hbw3)
      clear hbw3
      have hob := hobx
      have hgx0 := hgx
      have hgx : wr.heap.size ≤ wr.heap.size := Nat.le_refl _
      have hbs := hbs1
      go_wp2_with (with_reducible refine wpList_store_mid rfl 128 _ _ rfl (wr.heap.size) 0 (List.toArray ([.string ⟨#[]⟩, .string ⟨#[]⟩] : List Value)) rfl rfl HTZ.out hsZ.out h1Z.out ?_)
      refine (C_text base g (iterO shSchema mw0 ow0) _ HR.out).mono ?_
      rintro e u0_0 ⟨⟨v, rfl, _⟩, hA, hK⟩
      obtain ⟨bu0, rfl⟩ : ∃ x, x = v := ⟨v, rfl⟩
      replace HR := Lib.hid hA
      replace HB := Lib.hid (HB.out.trans hK.below)
      replace HK := Lib.hid (HK.out.trans hK.keeps)
      replace HX := Lib.hid (HX.out.keeps hK.keeps (by decide))
      replace HO := Lib.hid (HO.out.keeps hK.keeps (by decide))
      replace HXo := Lib.hid (HXo.out.keeps hK.keeps (by decide))
      replace HRes := Lib.hid (HRes.out.keeps hK.keeps (by decide))
      have hszu0_0 := HK.out.size
      clear hA hK
      have hcxu0_0_0 : u0_0.cell? ⟨wr.heap.size, 0, none⟩ = some (.string ⟨#[]⟩) := HX.out.cell 0
      have hfzu0_0_0 : u0_0.frozen? ⟨wr.heap.size, 0, none⟩ = false := HX.out.frozen 0
      have HY : Hid (Blk (u0_0.setCell ⟨wr.heap.size, 0, none⟩ (.string bu0)) (wr.heap.size) 128 [.string bu0, .string ⟨#[]⟩]) := Lib.hid (HX.out.set_ 0 (.string bu0))
      have HKA : Hid (Keeps [128] u0_0 (u0_0.setCell ⟨wr.heap.size, 0, none⟩ (.string bu0))) := Lib.hid ((Keeps.refl _ _).trans (Keeps.set_ HX.out.typ (by simp) (.string bu0)))
      have HBA : Hid (Below wr.heap.size u0_0 (u0_0.setCell ⟨wr.heap.size, 0, none⟩ (.string bu0))) := Lib.hid ((Below.refl wr.heap.size u0_0).setCell hgx _)
      replace HO := Lib.hid (own_set HO.out hob 0 (.string bu0))
      replace HX := HY
      replace HXo := Lib.hid (HXo.out.keeps HKA.out (by decide))
      replace HRes := Lib.hid (HRes.out.keeps HKA.out (by decide))
      replace HR := Lib.hid (HR.out.keeps HKA.out (HBA.out.mono hbs) (by decide) (by decide))
      replace HB := Lib.hid (HB.out.trans (HBA.out.mono hbs))
      replace HK := Lib.hid (HK.out.below_new HBA.out)
      clear HY HKA HBA
      go_wp2_with fail
      refine (C_text base g (stepO .text (iterO shSchema mw0 ow0)) _ HR.out).mono ?_
      rintro e u0_1 ⟨⟨v, rfl, _⟩, hA, hK⟩
      obtain ⟨bu1, rfl⟩ : ∃ x, x = v := ⟨v, rfl⟩
      replace HR := Lib.hid hA
      replace HB := Lib.hid (HB.out.trans hK.below)
      replace HK := Lib.hid (HK.out.trans hK.keeps)
      replace HX := Lib.hid (HX.out.keeps hK.keeps (by decide))
      replace HO := Lib.hid (HO.out.keeps hK.keeps (by decide))
      replace HXo := Lib.hid (HXo.out.keeps hK.keeps (by decide))
      replace HRes := Lib.hid (HRes.out.keeps hK.keeps (by decide))
      have hszu0_1 := HK.out.size
      clear hA hK
      have hcxu0_1_0 : u0_1.cell? ⟨wr.heap.size, 1, none⟩ = some (.string ⟨#[]⟩) := HX.out.cell 1
      have hfzu0_1_0 : u0_1.frozen? ⟨wr.heap.size, 1, none⟩ = false := HX.out.frozen 1
      have HY : Hid (Blk (u0_1.setCell ⟨wr.heap.size, 1, none⟩ (.string bu1)) (wr.heap.size) 128 [.string bu0, .string bu1]) := Lib.hid (HX.out.set_ 1 (.string bu1))
      have HKA : Hid (Keeps [128] u0_1 (u0_1.setCell ⟨wr.heap.size, 1, none⟩ (.string bu1))) := Lib.hid ((Keeps.refl _ _).trans (Keeps.set_ HX.out.typ (by simp) (.string bu1)))
      have HBA : Hid (Below wr.heap.size u0_1 (u0_1.setCell ⟨wr.heap.size, 1, none⟩ (.string bu1))) := Lib.hid ((Below.refl wr.heap.size u0_1).setCell hgx _)
      replace HO := Lib.hid (own_set HO.out hob 1 (.string bu1))
      replace HX := HY
      replace HXo := Lib.hid (HXo.out.keeps HKA.out (by decide))
      replace HRes := Lib.hid (HRes.out.keeps HKA.out (by decide))
      replace HR := Lib.hid (HR.out.keeps HKA.out (HBA.out.mono hbs) (by decide) (by decide))
      replace HB := Lib.hid (HB.out.trans (HBA.out.mono hbs))
      replace HK := Lib.hid (HK.out.below_new HBA.out)
      clear HY HKA HBA
      have hst : stepO .text (stepO .text (iterO shSchema mw0 ow0)) = iterO shSchema (mw0 + 1) ow0 := by rw [iterO_succ]; show _ = stepS [.text, .text] _; simp only [stepS_cons, stepS_nil]
      rw [hst] at HR
      have HA2 := HR
      have HB2 := Lib.hid (HBo.out.trans HB.out)
      have HK2 := Lib.hid (HKo.out.trans HK.out)
      have HX2 := HXo
      have HRes2 := HRes
      have HO2 := HO
      have HXe := HX
      have hiZ : Hid ((Tryz.prog.info? 128).map (·.size) = some (List.length ([.string bu0, .string bu1] : List Value))) := Lib.hid (by kernel_rfl)
      have hsz3 := HK.out.size
      clear HBo HB HKo HK HO HR hst hcb HX HXo HRes HTZ
      have hgx := hgx0
      obtain ⟨i0, hi0⟩ : ∃ i, Tryz.prog.info? 128 = some i := by
        cases hq : Tryz.prog.info? 128 with
        | none => have h0 : (Tryz.prog.info? 128).isSome = true := by kernel_rfl
                  rw [hq] at h0; cases h0
        | some i => exact ⟨i, rfl⟩
      have hinf : (Tryz.prog.info? 128).map (fun i => (i.zero, i.size, decide (i.bytes ≤ 1000))) = some (some (.agg #[.string ⟨#[]⟩, .string ⟨#[]⟩]), 2, true) := by kernel_rfl
      rw [hi0] at hinf
      simp only [Option.map_some, Option.some.injEq, Prod.mk.injEq, decide_eq_true_eq] at hinf
      obtain ⟨hz0, hz1, hz2⟩ := hinf
      have hby := Nat.mul_le_mul_left 4097 hz2
      have HI := Lib.hid (And.intro hi0 (And.intro hz0 hz1))
      clear hi0 hz0 hz1
      have hszn : (u0_1.setCell ⟨wr.heap.size, 1, none⟩ (.string bu1)).heap.size = u0_1.heap.size := by simp
      have HNB2 : Hid (Blk ((u0_1.setCell ⟨wr.heap.size, 1, none⟩ (.string bu1)).alloc (.cells (List.toArray ([.string bu0, .string bu1] : List Value)) 128)) (u0_1.heap.size) 128 [.string bu0, .string bu1]) := Lib.hid (by have := Blk.new (u0_1.setCell ⟨wr.heap.size, 1, none⟩ (.string bu1)) 128 [.string bu0, .string bu1]; rwa [hszn] at this)
      have HRG := Lib.hid HXe.out.range0
      have hcxf : (u0_1.setCell ⟨wr.heap.size, 1, none⟩ (.string bu1)).cell? ⟨w.heap.size + 1, 0, none⟩ = some (.slice Aw0 mw0 kw0) := HX2.out.cell 0
      have hbase2 := HK2.out.size
      go_wp2_with (first | (with_reducible refine wpList_load_mid rfl 128 _ rfl (wr.heap.size) 0 rfl [.string bu0, .string bu1] _ HRG.out Tryz.underlying128 rfl hiZ.out ?_) | (at_builtin; refine wpList_appN rfl _ _ 24 rfl w.heap.size 128 i0 _ 2 i0.bytes Tryz.underlying24 HI.out.1 HI.out.2.1 HI.out.2.2 rfl rfl (by decide) (.slice Aw0 mw0 kw0) mw0 xs rfl (HO2.out.alloc _) ⟨u0_1.heap.size, 0, none⟩ 1 [.string bu0, .string bu1] rfl rfl HNB2.out.news (by simp [Value.oneCell']) (by unfold maxLen; omega) (Nat.le_trans (Nat.mul_le_mul_right _ (by omega)) (Nat.le_trans hby (by decide))) (by simp at hbase2 ⊢; omega) ?_; intro A3 c3 w3 HO3 HG3; have HXA := Lib.hid ((HX2.out.alloc _).keeps (Keeps.grown (ts := [128]) (HO2.out.alloc _) HG3.out (by simp) HG3.out.size) (by decide)); have hcxa : w3.cell? ⟨w.heap.size + 1, 0, none⟩ = some (.slice Aw0 mw0 kw0) := HXA.out.cell 0; have hfxa : w3.frozen? ⟨w.heap.size + 1, 0, none⟩ = false := HXA.out.frozen 0))
      have HKA : Hid (Keeps [128] (u0_1.setCell ⟨wr.heap.size, 1, none⟩ (.string bu1)) w3) := Lib.hid ((Keeps.alloc (u0_1.setCell ⟨wr.heap.size, 1, none⟩ (.string bu1)) _).trans (Keeps.grown (HO2.out.alloc _) HG3.out (by simp) HG3.out.size))
      have HBA : Hid (Below base (u0_1.setCell ⟨wr.heap.size, 1, none⟩ (.string bu1)) w3) := Lib.hid (((Below.refl _ _).alloc (by omega) _).grown HG3.out (by simp; omega) (by intro k hk; have := own_block_ge HO2.out k hk; omega))
      have HKF : Hid (Keeps [27] w3 (w3.setCell ⟨w.heap.size + 1, 0, none⟩ (.slice A3 (mw0 + 1) c3))) := Lib.hid (Keeps.set_ HXA.out.typ (by simp) _)
      have HBF : Hid (Below w.heap.size w3 (w3.setCell ⟨w.heap.size + 1, 0, none⟩ (.slice A3 (mw0 + 1) c3))) := Lib.hid ((Below.refl _ _).setCell hgx _)
      have hrel : ∃ (j' : Nat) (A : Option Addr) (c : Nat) (xs : List Value), j' ≤ Nw0 ∧ Value.int .i64 ((mw0 : Int) + 1) = .int .i64 j' ∧ Hid (CutAt (w3.setCell ⟨w.heap.size + 1, 0, none⟩ (.slice A3 (mw0 + 1) c3)) base g (iterO shSchema j' ow0)) ∧ Hid ((w3.setCell ⟨w.heap.size + 1, 0, none⟩ (.slice A3 (mw0 + 1) c3)).ownsRow w.heap.size 128 2 (.slice A j' c) j' xs) ∧ Hid (Blk (w3.setCell ⟨w.heap.size + 1, 0, none⟩ (.slice A3 (mw0 + 1) c3)) (w.heap.size + 1) 27 [.slice A j' c, .slice none 0 0]) ∧ Hid (Blk (w3.setCell ⟨w.heap.size + 1, 0, none⟩ (.slice A3 (mw0 + 1) c3)) w.heap.size 27 [.slice none 0 0, .slice none 0 0]) ∧ Hid (Below base w (w3.setCell ⟨w.heap.size + 1, 0, none⟩ (.slice A3 (mw0 + 1) c3))) ∧ Hid (Keeps [108, 106] w (w3.setCell ⟨w.heap.size + 1, 0, none⟩ (.slice A3 (mw0 + 1) c3))) := by
        refine ⟨mw0 + 1, A3, c3, _, by omega, by simp, Lib.hid ((HA2.out.keeps HKA.out HBA.out (by decide) (by decide)).keeps HKF.out (HBF.out.mono hbs0) (by decide) (by decide)), Lib.hid (HO3.out.kept (grownBy_setCell (World.grownBy.refl _ _) 0 _) (.inr (blk_own_ne HXA.out HO3.out (by decide)).symm)), Lib.hid (HXA.out.set_ 0 _), Lib.hid ((HRes2.out.keeps HKA.out (by decide)).far (by dsimp only; omega) _), Lib.hid ((HB2.out.trans HBA.out).trans (HBF.out.mono hbs0)), Lib.hid (Keeps.below_new ?_ HBF.out)⟩
        exact (HK2.out.then_below ((Below.refl _ _).alloc (Nat.le_refl _) _)).grown_new HG3.out (fun k hk => by have := own_block_ge HO2.out k hk; omega)
      clear HKA HBA HKF HBF HXA HO3 HG3 HO2 HA2 HK2 HB2 HX2 HRes2
      go_wp2
      go_roundw
      case rel => obtain ⟨j', A, c, xs, h1, h2, h3⟩ := hrel; exact ⟨j', A, c, xs, h1, by rw [← h2], h3⟩
      case measure => simp [intOf]; omega

end Go.Proofs.YteohhgkehkmgcaaGreat
