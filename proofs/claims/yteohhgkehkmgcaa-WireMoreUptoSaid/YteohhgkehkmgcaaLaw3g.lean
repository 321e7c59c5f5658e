/- The statement WireMore: a thing's bytes with more behind them, or without the last one, are none. Printed by mkmore.py. -/
import Derived.Test.YteohhgkehkmgcaaLaw3f
import Derived.Test.YteohhgkehkmgcaaPut4
namespace Go.Proofs.Yteohhgkehkmgcaa
open Go.RowKit Le
set_option maxRecDepth 100000
set_option linter.unusedVariables false
set_option linter.unusedSimpArgs false

theorem iter_fit (sh : List Sh) (h : ∀ l ds r, rds sh l = some (ds, r) → Fitss sh ds) : ∀ (n : Nat) (l : List UInt8) (ys : List (List Da)) (r : List UInt8), iter (rds sh) n l = some (ys, r) → ∀ d ∈ ys, Fitss sh d
  | 0, l, ys, r, he => by
    simp only [iter, Option.some.injEq, Prod.mk.injEq] at he
    intro d hd
    rw [← he.1] at hd
    cases hd
  | n + 1, l, ys, r, he => by
    simp only [iter] at he
    obtain ⟨⟨d0, l1⟩, h1, he⟩ := Option.bind_eq_some_iff.1 he
    obtain ⟨⟨ds, l2⟩, h2, he⟩ := Option.bind_eq_some_iff.1 he
    simp only [Option.some.injEq, Prod.mk.injEq] at he
    intro d hd
    rw [← he.1] at hd
    rcases List.mem_cons.1 hd with rfl | hd
    · exact h _ _ _ h1
    · exact iter_fit sh h n l1 ds l2 h2 d hd
mutual
/-- What is read is of its shape. -/
theorem rd_fit : ∀ (a : Sh) (l : List UInt8) (d : Da) (r : List UInt8), rd a l = some (d, r) → Fits a d
  | .num, l, d, r, h => by
    simp only [rd] at h
    obtain ⟨x, h1, h2⟩ := Option.bind_eq_some_iff.1 h
    simp only [Option.some.injEq, Prod.mk.injEq] at h2
    rw [← h2.1]
    simp only [Fits]
  | .whole, l, d, r, h => by
    simp only [rd] at h
    obtain ⟨⟨n, r1⟩, h1, h2⟩ := Option.bind_eq_some_iff.1 h
    simp only [Option.some.injEq, Prod.mk.injEq] at h2
    obtain ⟨e1, e2, e3⟩ := rdWhole_some h1
    rw [← h2.1]
    simp only [Fits]
    have hb := num8_lt l
    rw [e2]
    unfold i64w
    split <;> omega
  | .text, l, d, r, h => by
    simp only [rd] at h
    obtain ⟨x, h1, h2⟩ := Option.bind_eq_some_iff.1 h
    simp only [Option.some.injEq, Prod.mk.injEq] at h2
    rw [← h2.1]
    simp only [Fits]
  | .flag, l, d, r, h => by
    simp only [rd] at h
    obtain ⟨x, h1, h2⟩ := Option.bind_eq_some_iff.1 h
    simp only [Option.some.injEq, Prod.mk.injEq] at h2
    rw [← h2.1]
    simp only [Fits]
  | .rows sh, l, d, r, h => by
    simp only [rd] at h
    obtain ⟨x, h1, h2⟩ := Option.bind_eq_some_iff.1 h
    split at h2
    · obtain ⟨⟨ys, r2⟩, h3, h4⟩ := Option.bind_eq_some_iff.1 h2
      simp only [Option.some.injEq, Prod.mk.injEq] at h4
      rw [← h4.1]
      simp only [Fits]
      exact iter_fit sh (fun l ds r h => rds_fit sh l ds r h) _ _ _ _ h3
    · cases h2
theorem rds_fit : ∀ (sh : List Sh) (l : List UInt8) (ds : List Da) (r : List UInt8), rds sh l = some (ds, r) → Fitss sh ds
  | [], l, ds, r, h => by
    simp only [rds, Option.some.injEq, Prod.mk.injEq] at h
    rw [← h.1]
    simp only [Fitss]
  | a :: sh, l, ds, r, h => by
    simp only [rds] at h
    obtain ⟨⟨d, l1⟩, h1, h⟩ := Option.bind_eq_some_iff.1 h
    obtain ⟨⟨ds1, l2⟩, h2, h⟩ := Option.bind_eq_some_iff.1 h
    simp only [Option.some.injEq, Prod.mk.injEq] at h
    rw [← h.1]
    simp only [Fitss]
    exact ⟨rd_fit a l d l1 h1, rds_fit sh l1 ds1 l2 h2⟩
end
/-- Cut by one, it is none. -/
theorem cut_none {sh : List Sh} {B : List UInt8} {ds : List Da} (h : rds sh B = some (ds, [])) (hn : 0 < B.length) : ∀ ds', rds sh (B.take (B.length - 1)) ≠ some (ds', []) := fun ds' h' => by
  have hf := rds_fit sh _ _ _ h'
  have hl := rds_back h'
  have h2 := laid_rds hf hl (B.drop (B.length - 1))
  rw [List.take_append_drop, h] at h2
  simp only [Option.some.injEq, Prod.mk.injEq] at h2
  have h3 := congrArg List.length h2.2
  simp at h3
  omega
theorem more_none {sh : List Sh} {B m : List UInt8} {ds : List Da} (h : ∀ r, rds sh (B ++ r) = some (ds, r)) (hm : m ≠ []) : ∀ ds', rds sh (B ++ m) ≠ some (ds', []) := fun ds' h' => by
  rw [h m] at h'
  simp only [Option.some.injEq, Prod.mk.injEq] at h'
  exact hm h'.2
theorem machine_nil : rds shMachine [] = none := by kernel_rfl
/-- The last field, a number. -/
theorem last_num {w : World} {S : Nat → Prop} {l : List Sh} {ds : List Da} {vs : List Value} (h : Cels w S (l ++ [.num]) ds vs) : ∃ n, ds[l.length]? = some (.int n) ∧ vs[l.length]? = some (.int .i64 n) := by
  obtain ⟨d1, d2, v1, v2, rfl, rfl, h2, h3⟩ := h.split
  obtain ⟨d, ds', v, vs', rfl, rfl, h4, h5⟩ := h3.cons
  obtain ⟨rfl, rfl⟩ := h5.nil
  obtain ⟨n, rfl, rfl⟩ := h4.num
  have hl := h2.len
  refine ⟨n, ?_, ?_⟩
  · rw [List.getElem?_append_right (by omega), hl.1, Nat.sub_self]; rfl
  · rw [List.getElem?_append_right (by omega), hl.2, Nat.sub_self]; rfl
theorem machine_last {w : World} {S : Nat → Prop} {ds : List Da} {vs : List Value} (h : Cels w S shMachine ds vs) : ∃ n, ds[9]? = some (.int n) ∧ vs[9]? = some (.int .i64 n) :=
  last_num (l := [.num, .num, .rows shSchema, .rows shTable, .rows [.text], .rows shMember, .rows shGrant, .rows shDone, .rows shLease]) h

set_option maxHeartbeats 6400000 in
theorem wireMore_any (zm : List Da) (vm : List Value) (A2 : Option Addr) (n2 c2 : Nat) (lm : List UInt8) (w : World) (hm : Cels w (· < w.heap.size) shMachine zm vm) (sm : (lays shMachine zm ([], 0)).1.length ≤ 1099511627776) (hb : Reads w w.heap.size A2 n2 (u8s lm)) :
    Calls Try.prog 13 #[.agg vm.toArray, .slice A2 n2 c2] w fun e w' => e = .returned (.bool true) ∧ Below w.heap.size w w' := by
  have him : Hid ((Try.prog.info? 82).map (·.size) = some vm.length) := Lib.hid (by rw [hm.len.2]; kernel_rfl)
  obtain ⟨i0, hi0, hz0, hz1, hz2⟩ := info_parts info_u8
  have HI := Lib.hid (And.intro hi0 (And.intro hz0 (And.intro hz1 hz2)))
  clear hi0 hz0 hz1 hz2
  have ftm := Lib.hid hm.fit
  obtain ⟨nl, hnl1, hnl2⟩ := machine_last hm
  have HNL1 := Lib.hid hnl1
  have HNL2 := Lib.hid hnl2
  clear hnl1 hnl2
  have hlm := reads_length hb
  have HLM := Lib.hid hlm
  clear hlm
  have hb0 : Below w.heap.size w (w.alloc (.cells vm.toArray 82)) := (Below.refl _ _).alloc (Nat.le_refl _) _
  have HXm := Lib.hid (Blk.new w 82 vm)
  have HCm : Hid (Cels (w.alloc (.cells vm.toArray 82)) (· < (w.alloc (.cells vm.toArray 82)).heap.size) shMachine zm vm) := Lib.hid ((hm.below hb0).more hb0.size)
  have HM : Hid (Reads (w.alloc (.cells vm.toArray 82)) (w.alloc (.cells vm.toArray 82)).heap.size A2 n2 (u8s lm)) := Lib.hid ((hb.below hb0).more hb0.size)
  have HB := Lib.hid hb0
  have PW := Lib.hid (wputO_Machine zm vm (w.alloc (.cells vm.toArray 82)) HCm.out sm)
  obtain ⟨S, hS⟩ : ∃ S, lays shMachine zm ([], 0) = S := ⟨_, rfl⟩
  rw [hS] at PW
  have HS := Lib.hid hS
  clear hS sm hb0 hm hb
  go_enter Try.func13, Try.ntmps13
  go_wp2_with (with_reducible refine wpList_load_mid rfl 82 _ rfl w.heap.size 0 rfl vm _ HXm.out.range0 Try.underlying82 rfl him.out ?_)
  refine (unhide PW).mono ?_
  rintro e w1 ⟨⟨A, n, c, rfl, hown⟩, hK⟩
  replace HXm := Lib.hid (HXm.out.below hK HXm.out.lt)
  replace HM := Lib.hid ((HM.out.below hK).more hK.size)
  replace HB := Lib.hid (HB.out.trans (hK.mono HB.out.size))
  have HOF := Lib.hid hown
  obtain ⟨E, hE⟩ : ∃ E, S.2 = E := ⟨_, rfl⟩
  have HE := Lib.hid hE
  rw [hE]
  clear hown hK hE PW HCm
  by_cases he : E = 0
  rotate_left
  · have t1 : ((E : Int) == 0) = false := by simpa using he
    have t2 : ((E : Int) != 0) = true := by simpa using he
    go_wp2_with fail
    refine (awake_any _).mono ?_
    rintro e wq ⟨rfl, hK⟩
    have HBq := Lib.hid (HB.out.trans (hK.mono HB.out.size))
    clear hK
    go_wp2
    go_ret
    exact ⟨rfl, HBq.out⟩
  subst he
  by_cases hbn : 262144 < n
  · have t1 : (262144 : Int) < (n : Int) := by omega
    go_wp2_with fail
    refine (awake_any _).mono ?_
    rintro e wq ⟨rfl, hK⟩
    have HBq := Lib.hid (HB.out.trans (hK.mono HB.out.size))
    clear hK
    go_wp2
    go_ret
    exact ⟨rfl, HBq.out⟩
  by_cases hbm : 262144 < n2
  · have t1 : (262144 : Int) < (n2 : Int) := by omega
    go_wp2_with fail
    refine (awake_any _).mono ?_
    rintro e wq ⟨rfl, hK⟩
    have HBq := Lib.hid (HB.out.trans (hK.mono HB.out.size))
    clear hK
    go_wp2
    go_ret
    exact ⟨rfl, HBq.out⟩
  by_cases hn0 : n2 = 0
  · subst hn0
    go_wp2_with fail
    refine (awake_any _).mono ?_
    rintro e wq ⟨rfl, hK⟩
    have HBq := Lib.hid (HB.out.trans (hK.mono HB.out.size))
    clear hK
    go_wp2
    go_ret
    exact ⟨rfl, HBq.out⟩
  have hn0' : ¬ (n2 : Int) = 0 := by omega
  have t1 : ((n2 : Int) == 0) = false := by simpa using hn0'
  have hout : S = (S.1, 0) := st_eq HE.out
  have hrd := laid_rds ftm.out (HS.out.trans hout)
  have hrd0 := hrd []
  rw [List.append_nil] at hrd0
  have hown := HOF.out HE.out
  have hln : S.1.length = n := by have := hown.1; simpa using this
  have hcap := own_cap hown
  have hpos : 0 < S.1.length := by
    rcases Nat.eq_zero_or_pos S.1.length with h | h
    · rw [List.eq_nil_of_length_eq_zero h, machine_nil] at hrd0
      cases hrd0
    · exact h
  have hn1 : 1 ≤ n := by omega
  have HCUT := Lib.hid (cut_none hrd0 hpos)
  have HMORE := Lib.hid (more_none (m := lm) hrd (by intro h; have := HLM.out; rw [h] at this; simp at this; omega))
  have HRD := Lib.hid hrd0
  have HO := Lib.hid hown
  have HLN := Lib.hid hln
  obtain ⟨ad, hA⟩ : ∃ ad, A = some ad := by
    obtain ⟨ad, h, _⟩ := (Reads.of_own hown).2 (by omega)
    exact ⟨ad, h⟩
  subst hA
  have HRW := Lib.hid (Reads.of_own hown)
  have hcut := (Reads.of_own hown).take (k := n - 1) (by omega)
  rw [show (u8s S.1).take (n - 1) = u8s (S.1.take (S.1.length - 1)) by rw [hln]; simp [u8s]] at hcut
  have HCR := Lib.hid hcut
  clear hout hrd hrd0 hown hln hpos hcut HOF
  go_wp2_with fail
  refine (wget_Machine _ _ _ _ _ HCR.out (by omega) ⟨by omega, hcap.2⟩).mono ?_
  rintro e wg0 ⟨hG, hK⟩
  rcases hG with ⟨dx, y0, hdx, _⟩ | ⟨_, rfl⟩
  · exact absurd hdx (HCUT.out _)
  replace HXm := Lib.hid (HXm.out.below hK HXm.out.lt)
  replace HM := Lib.hid ((HM.out.below hK).more hK.size)
  replace HB := Lib.hid (HB.out.trans (hK.mono HB.out.size))
  replace HO := Lib.hid (HO.out.below_ hK)
  replace HRW := Lib.hid ((HRW.out.below hK).more hK.size)
  replace HCR := Lib.hid ((HCR.out.below hK).more hK.size)
  have HV0 := Lib.hid (Blk.new wg0 82 [.int .i64 0, .int .i64 0, .slice none 0 0, .slice none 0 0, .slice none 0 0, .slice none 0 0, .slice none 0 0, .slice none 0 0, .slice none 0 0, .int .i64 0])
  have HTE0 : Hid (World.there (wg0.alloc (.cells #[.int .i64 0, .int .i64 0, .slice none 0 0, .slice none 0 0, .slice none 0 0, .slice none 0 0, .slice none 0 0, .slice none 0 0, .slice none 0 0, .int .i64 0] 82)) wg0.heap.size 0 (List.toArray ([.int .i64 0, .int .i64 0, .slice none 0 0, .slice none 0 0, .slice none 0 0, .slice none 0 0, .slice none 0 0, .slice none 0 0, .slice none 0 0, .int .i64 0] : List Value)).size) := Lib.hid (HV0.out.there 0 _ (by simp))
  have hsV0 : Hid ((Try.prog.info? 82).map (·.size) = some (List.toArray ([.int .i64 0, .int .i64 0, .slice none 0 0, .slice none 0 0, .slice none 0 0, .slice none 0 0, .slice none 0 0, .slice none 0 0, .slice none 0 0, .int .i64 0] : List Value)).size) := Lib.hid (by kernel_rfl)
  have h1V0 : Hid ((List.toArray ([.int .i64 0, .int .i64 0, .slice none 0 0, .slice none 0 0, .slice none 0 0, .slice none 0 0, .slice none 0 0, .slice none 0 0, .slice none 0 0, .int .i64 0] : List Value)).all (·.oneCell') = true) := Lib.hid (all_oneCell_toArray (by simp [Value.oneCell']))
  have hb3 : Below wg0.heap.size wg0 ((wg0.alloc (.cells #[.int .i64 0, .int .i64 0, .slice none 0 0, .slice none 0 0, .slice none 0 0, .slice none 0 0, .slice none 0 0, .slice none 0 0, .slice none 0 0, .int .i64 0] 82)).setCells wg0.heap.size 0 ([.int .i64 0, .int .i64 0, .slice none 0 0, .slice none 0 0, .slice none 0 0, .slice none 0 0, .slice none 0 0, .slice none 0 0, .slice none 0 0, .int .i64 0] : List Value)) := ((Below.refl _ _).alloc (Nat.le_refl _) _).trans (below_setCells_ (Nat.le_refl _) 0 _)
  replace HV0 := Lib.hid (HV0.out.setCells0 ([.int .i64 0, .int .i64 0, .slice none 0 0, .slice none 0 0, .slice none 0 0, .slice none 0 0, .slice none 0 0, .slice none 0 0, .slice none 0 0, .int .i64 0] : List Value) rfl)
  obtain ⟨wv0, hwv⟩ : ∃ w3, ((wg0.alloc (.cells #[.int .i64 0, .int .i64 0, .slice none 0 0, .slice none 0 0, .slice none 0 0, .slice none 0 0, .slice none 0 0, .slice none 0 0, .slice none 0 0, .int .i64 0] 82)).setCells wg0.heap.size 0 ([.int .i64 0, .int .i64 0, .slice none 0 0, .slice none 0 0, .slice none 0 0, .slice none 0 0, .slice none 0 0, .slice none 0 0, .slice none 0 0, .int .i64 0] : List Value)) = w3 := ⟨_, rfl⟩
  rw [hwv] at hb3 HV0
  replace HXm := Lib.hid (HXm.out.below hb3 HXm.out.lt)
  replace HM := Lib.hid ((HM.out.below hb3).more hb3.size)
  replace HB := Lib.hid (HB.out.trans (hb3.mono HB.out.size))
  replace HO := Lib.hid (HO.out.below_ hb3)
  replace HRW := Lib.hid ((HRW.out.below hb3).more hb3.size)
  replace HCR := Lib.hid ((HCR.out.below hb3).more hb3.size)
  have HW0 := Lib.hid hwv
  clear hK hb3 hwv
  clear HCR HCUT
  go_wp2_with (first | (with_reducible refine wpList_store_mid rfl 82 _ _ rfl wg0.heap.size 0 (List.toArray ([.int .i64 0, .int .i64 0, .slice none 0 0, .slice none 0 0, .slice none 0 0, .slice none 0 0, .slice none 0 0, .slice none 0 0, .slice none 0 0, .int .i64 0] : List Value)) rfl rfl HTE0.out hsV0.out h1V0.out ?_))
  rw [HW0.out]
  refine (wget_Machine _ _ _ _ _ HRW.out hcap.1 ⟨by omega, hcap.2⟩).mono ?_
  rintro e wg1 ⟨hG, hK⟩
  rcases hG with ⟨dx, y1, hdx, rfl, hC⟩ | ⟨hno, rfl⟩
  rotate_left
  · exact absurd HRD.out (hno _)
  rw [HRD.out] at hdx
  injection hdx with hdx
  injection hdx with hdx _
  subst hdx
  obtain ⟨ny, hy1, hy2⟩ := machine_last hC
  obtain rfl : nl = ny := by have h := HNL1.out; rw [hy1] at h; injection h with h; injection h with h; exact h.symm
  have HY2 := Lib.hid hy2
  replace HXm := Lib.hid (HXm.out.below hK HXm.out.lt)
  replace HM := Lib.hid ((HM.out.below hK).more hK.size)
  replace HB := Lib.hid (HB.out.trans (hK.mono HB.out.size))
  replace HO := Lib.hid (HO.out.below_ hK)
  replace HRW := Lib.hid ((HRW.out.below hK).more hK.size)
  have hlen : y1.length = 10 := hC.len.2
  have HV1 := Lib.hid (Blk.new wg1 82 [.int .i64 0, .int .i64 0, .slice none 0 0, .slice none 0 0, .slice none 0 0, .slice none 0 0, .slice none 0 0, .slice none 0 0, .slice none 0 0, .int .i64 0])
  have HTE1 : Hid (World.there (wg1.alloc (.cells #[.int .i64 0, .int .i64 0, .slice none 0 0, .slice none 0 0, .slice none 0 0, .slice none 0 0, .slice none 0 0, .slice none 0 0, .slice none 0 0, .int .i64 0] 82)) wg1.heap.size 0 (List.toArray y1).size) := Lib.hid (HV1.out.there 0 _ (by simp [hlen]))
  have hsV1 : Hid ((Try.prog.info? 82).map (·.size) = some (List.toArray y1).size) := Lib.hid (by rw [List.size_toArray, hlen]; kernel_rfl)
  have h1V1 : Hid ((List.toArray y1).all (·.oneCell') = true) := Lib.hid (all_oneCell_toArray (hC.oneCell))
  have hb3 : Below wg1.heap.size wg1 ((wg1.alloc (.cells #[.int .i64 0, .int .i64 0, .slice none 0 0, .slice none 0 0, .slice none 0 0, .slice none 0 0, .slice none 0 0, .slice none 0 0, .slice none 0 0, .int .i64 0] 82)).setCells wg1.heap.size 0 y1) := ((Below.refl _ _).alloc (Nat.le_refl _) _).trans (below_setCells_ (Nat.le_refl _) 0 _)
  replace HV1 := Lib.hid (HV1.out.setCells0 y1 hlen.symm)
  obtain ⟨wv1, hwv⟩ : ∃ w3, ((wg1.alloc (.cells #[.int .i64 0, .int .i64 0, .slice none 0 0, .slice none 0 0, .slice none 0 0, .slice none 0 0, .slice none 0 0, .slice none 0 0, .slice none 0 0, .int .i64 0] 82)).setCells wg1.heap.size 0 y1) = w3 := ⟨_, rfl⟩
  rw [hwv] at hb3 HV1
  replace HXm := Lib.hid (HXm.out.below hb3 HXm.out.lt)
  replace HM := Lib.hid ((HM.out.below hb3).more hb3.size)
  replace HB := Lib.hid (HB.out.trans (hb3.mono HB.out.size))
  replace HO := Lib.hid (HO.out.below_ hb3)
  replace HRW := Lib.hid ((HRW.out.below hb3).more hb3.size)
  have HW1 := Lib.hid hwv
  clear hK hb3 hwv
  clear HRW
  have HOe : Hid (World.ownsRow ((wg1.alloc (.cells #[.int .i64 0, .int .i64 0, .slice none 0 0, .slice none 0 0, .slice none 0 0, .slice none 0 0, .slice none 0 0, .slice none 0 0, .slice none 0 0, .int .i64 0] 82)).setCells wg1.heap.size 0 y1) (w.heap.size + 1) 5 1 (.slice (some ad) n c) n (u8s S.1)) := Lib.hid (by rw [HW1.out]; have h := HO.out; simpa using h)
  have HMe : Hid (Reads ((wg1.alloc (.cells #[.int .i64 0, .int .i64 0, .slice none 0 0, .slice none 0 0, .slice none 0 0, .slice none 0 0, .slice none 0 0, .slice none 0 0, .slice none 0 0, .int .i64 0] 82)).setCells wg1.heap.size 0 y1) wv1.heap.size A2 n2 (u8s lm)) := Lib.hid (by rw [HW1.out]; exact HM.out)
  have hbase : w.heap.size + 1 ≤ (((wg1.alloc (.cells #[.int .i64 0, .int .i64 0, .slice none 0 0, .slice none 0 0, .slice none 0 0, .slice none 0 0, .slice none 0 0, .slice none 0 0, .slice none 0 0, .int .i64 0] 82)).setCells wg1.heap.size 0 y1)).heap.size := by rw [HW1.out]; have h := HXm.out.lt; omega
  go_wp2_with (first | (with_reducible refine wpList_store_mid rfl 82 _ _ rfl wg1.heap.size 0 (List.toArray y1) rfl rfl HTE1.out hsV1.out h1V1.out ?_) | (at_builtin; refine wpList_app rfl _ _ 34 rfl (w.heap.size + 1) 5 i0 _ 1 Try.underlying34 HI.out.1 HI.out.2.1 HI.out.2.2.1 HI.out.2.2.2 rfl (.slice (some ad) n c) n _ rfl HOe.out wv1.heap.size A2 n2 c2 (u8s lm) rfl HMe.out (u8s_one _) (by unfold maxLen; omega) (by omega) hbase _ (Below.refl _ _) ?_; intro A3 c3 w5 HO5 hb5 HG5))
  rw [HW1.out] at hb5 HG5
  have hs5 := HG5.out.size
  have HV5 : Hid (Blk w5 wg1.heap.size 82 y1) := Lib.hid (HV1.out.grown HG5.out (blk_own_ne HV1.out HO.out (by decide)))
  have HX5 : Hid (Blk w5 w.heap.size 82 vm) := Lib.hid (HXm.out.grown HG5.out (blk_own_ne HXm.out HO.out (by decide)))
  have HB5 : Hid (Below w.heap.size w w5) := Lib.hid (HB.out.trans (hb5.mono (by omega)))
  have HR5 : Hid (Reads w5 w5.heap.size A3 (n + n2) (u8s (S.1 ++ lm))) := Lib.hid (by rw [u8s_append]; exact Reads.of_own HO5.out)
  have hcap5 := own_cap HO5.out
  clear HO5 hb5 HG5 HO HOe HMe HM HV1 HXm HB
  go_wp2_with fail
  refine (wget_Machine _ _ _ _ _ HR5.out hcap5.1 ⟨by omega, hcap5.2⟩).mono ?_
  rintro e wg2 ⟨hG, hK⟩
  rcases hG with ⟨dx, y2, hdx, _⟩ | ⟨_, rfl⟩
  · exact absurd hdx (HMORE.out _)
  replace HV5 := Lib.hid (HV5.out.below hK HV5.out.lt)
  replace HX5 := Lib.hid (HX5.out.below hK HX5.out.lt)
  replace HB5 := Lib.hid (HB5.out.trans (hK.mono HB5.out.size))
  have HV2 := Lib.hid (Blk.new wg2 82 [.int .i64 0, .int .i64 0, .slice none 0 0, .slice none 0 0, .slice none 0 0, .slice none 0 0, .slice none 0 0, .slice none 0 0, .slice none 0 0, .int .i64 0])
  have HTE2 : Hid (World.there (wg2.alloc (.cells #[.int .i64 0, .int .i64 0, .slice none 0 0, .slice none 0 0, .slice none 0 0, .slice none 0 0, .slice none 0 0, .slice none 0 0, .slice none 0 0, .int .i64 0] 82)) wg2.heap.size 0 (List.toArray ([.int .i64 0, .int .i64 0, .slice none 0 0, .slice none 0 0, .slice none 0 0, .slice none 0 0, .slice none 0 0, .slice none 0 0, .slice none 0 0, .int .i64 0] : List Value)).size) := Lib.hid (HV2.out.there 0 _ (by simp))
  have hsV2 : Hid ((Try.prog.info? 82).map (·.size) = some (List.toArray ([.int .i64 0, .int .i64 0, .slice none 0 0, .slice none 0 0, .slice none 0 0, .slice none 0 0, .slice none 0 0, .slice none 0 0, .slice none 0 0, .int .i64 0] : List Value)).size) := Lib.hid (by kernel_rfl)
  have h1V2 : Hid ((List.toArray ([.int .i64 0, .int .i64 0, .slice none 0 0, .slice none 0 0, .slice none 0 0, .slice none 0 0, .slice none 0 0, .slice none 0 0, .slice none 0 0, .int .i64 0] : List Value)).all (·.oneCell') = true) := Lib.hid (all_oneCell_toArray (by simp [Value.oneCell']))
  have hb3 : Below wg2.heap.size wg2 ((wg2.alloc (.cells #[.int .i64 0, .int .i64 0, .slice none 0 0, .slice none 0 0, .slice none 0 0, .slice none 0 0, .slice none 0 0, .slice none 0 0, .slice none 0 0, .int .i64 0] 82)).setCells wg2.heap.size 0 ([.int .i64 0, .int .i64 0, .slice none 0 0, .slice none 0 0, .slice none 0 0, .slice none 0 0, .slice none 0 0, .slice none 0 0, .slice none 0 0, .int .i64 0] : List Value)) := ((Below.refl _ _).alloc (Nat.le_refl _) _).trans (below_setCells_ (Nat.le_refl _) 0 _)
  replace HV2 := Lib.hid (HV2.out.setCells0 ([.int .i64 0, .int .i64 0, .slice none 0 0, .slice none 0 0, .slice none 0 0, .slice none 0 0, .slice none 0 0, .slice none 0 0, .slice none 0 0, .int .i64 0] : List Value) rfl)
  obtain ⟨wv2, hwv⟩ : ∃ w3, ((wg2.alloc (.cells #[.int .i64 0, .int .i64 0, .slice none 0 0, .slice none 0 0, .slice none 0 0, .slice none 0 0, .slice none 0 0, .slice none 0 0, .slice none 0 0, .int .i64 0] 82)).setCells wg2.heap.size 0 ([.int .i64 0, .int .i64 0, .slice none 0 0, .slice none 0 0, .slice none 0 0, .slice none 0 0, .slice none 0 0, .slice none 0 0, .slice none 0 0, .int .i64 0] : List Value)) = w3 := ⟨_, rfl⟩
  rw [hwv] at hb3 HV2
  replace HV5 := Lib.hid (HV5.out.below hb3 HV5.out.lt)
  replace HX5 := Lib.hid (HX5.out.below hb3 HX5.out.lt)
  replace HB5 := Lib.hid (HB5.out.trans (hb3.mono HB5.out.size))
  have HW2 := Lib.hid hwv
  clear hK hb3 hwv
  go_wp2_with (with_reducible refine wpList_store_mid rfl 82 _ _ rfl wg2.heap.size 0 (List.toArray ([.int .i64 0, .int .i64 0, .slice none 0 0, .slice none 0 0, .slice none 0 0, .slice none 0 0, .slice none 0 0, .slice none 0 0, .slice none 0 0, .int .i64 0] : List Value)) rfl rfl HTE2.out hsV2.out h1V2.out ?_)
  rw [HW2.out]
  refine (awake_any _).mono ?_
  rintro e wz ⟨rfl, hK⟩
  replace HV5 := Lib.hid (HV5.out.below hK HV5.out.lt)
  replace HX5 := Lib.hid (HX5.out.below hK HX5.out.lt)
  replace HB5 := Lib.hid (HB5.out.trans (hK.mono HB5.out.size))
  have hz1 : wz.cell? ⟨wg1.heap.size, 9, none⟩ = some (.int .i64 nl) := (HV5.out.cell 9).trans HY2.out
  have hz2 : wz.cell? ⟨w.heap.size, 9, none⟩ = some (.int .i64 nl) := (HX5.out.cell 9).trans HNL2.out
  clear hK HV5 HX5
  go_wp2
  go_ret
  exact ⟨by simp, HB5.out⟩
end Go.Proofs.Yteohhgkehkmgcaa
