/- The statement WireRound: what is laid is read as the same, and laid again as the same bytes. Printed by mkround.py. -/
import Derived.Test.YteohhgkehkmgcaaLaw3b
import Derived.Test.YteohhgkehkmgcaaGet2
import Derived.Test.YteohhgkehkmgcaaPut3
import Derived.Test.YteohhgkehkmgcaaOpen2
namespace Go.Proofs.Yteohhgkehkmgcaa
open Go.RowKit Le
set_option maxRecDepth 100000
set_option linter.unusedVariables false
set_option linter.unusedSimpArgs false

section
variable {w : World} {S : Nat → Prop}
mutual
/-- What lies in memory is of its shape. -/
theorem Cel.fit : ∀ (a : Sh) (d : Da) (v : Value), Cel w S a d v → Fits a d
  | .num, .int n, v, h => by simp only [Fits]
  | .whole, .int n, v, h => by
    simp only [Cel] at h
    simp only [Fits]
    exact h.2
  | .text, .text b, v, h => by simp only [Fits]
  | .flag, .flag b, v, h => by simp only [Fits]
  | .rows l, .rows ds, v, h => by
    simp only [Cel] at h
    simp only [Fits]
    intro d hd
    obtain ⟨A, c, hv, h⟩ := h
    obtain ⟨j, hj, rfl⟩ := List.getElem_of_mem hd
    obtain ⟨ad, hA, hS, h⟩ := h (by omega)
    obtain ⟨vs, h1, h2⟩ := h j _ (List.getElem?_eq_getElem hj)
    exact Cels.fit l _ vs h1
  | .num, .text _, v, h => by simp only [Cel] at h
  | .num, .flag _, v, h => by simp only [Cel] at h
  | .num, .rows _, v, h => by simp only [Cel] at h
  | .whole, .text _, v, h => by simp only [Cel] at h
  | .whole, .flag _, v, h => by simp only [Cel] at h
  | .whole, .rows _, v, h => by simp only [Cel] at h
  | .text, .int _, v, h => by simp only [Cel] at h
  | .text, .flag _, v, h => by simp only [Cel] at h
  | .text, .rows _, v, h => by simp only [Cel] at h
  | .flag, .int _, v, h => by simp only [Cel] at h
  | .flag, .text _, v, h => by simp only [Cel] at h
  | .flag, .rows _, v, h => by simp only [Cel] at h
  | .rows _, .int _, v, h => by simp only [Cel] at h
  | .rows _, .text _, v, h => by simp only [Cel] at h
  | .rows _, .flag _, v, h => by simp only [Cel] at h
theorem Cels.fit : ∀ (l : List Sh) (ds : List Da) (vs : List Value), Cels w S l ds vs → Fitss l ds
  | [], [], vs, h => by simp only [Fitss]
  | a :: l, d :: ds, vs, h => by
    simp only [Cels] at h
    obtain ⟨v, vs', e, h1, h2⟩ := h
    simp only [Fitss]
    exact ⟨Cel.fit a d v h1, Cels.fit l ds vs' h2⟩
  | [], _ :: _, vs, h => by simp only [Cels] at h
  | _ :: _, [], vs, h => by simp only [Cels] at h
end
end
/-- What was laid is read as itself. -/
theorem laid_rds {sh : List Sh} {ds : List Da} {B : List UInt8} (hf : Fitss sh ds) (h : lays sh ds ([], 0) = (B, 0)) : ∀ r, rds sh (B ++ r) = some (ds, r) := by
  obtain ⟨p, hp, hr⟩ := lays_rd sh ds [] B hf h
  have h1 := hp []
  rw [h] at h1
  simp only [List.nil_append, Prod.mk.injEq, and_true] at h1
  subst h1
  exact hr
theorem st_eq {s : St} (h : s.2 = 0) : s = (s.1, 0) := Prod.ext rfl h

set_option maxHeartbeats 6400000 in
theorem wireRound_any (zo : List Da) (vo : List Value) (zr : List Da) (vr : List Value) (zc : List Da) (vc : List Value) (w : World) (ho : Cels w (· < w.heap.size) shOp zo vo) (so : (lays shOp zo ([], 0)).1.length ≤ 1099511627776) (hr : Cels w (· < w.heap.size) shRecord zr vr) (sr : (lays shRecord zr ([], 0)).1.length ≤ 1099511627776) (hc : Cels w (· < w.heap.size) shCatalog zc vc) (sc : (lays shCatalog zc ([], 0)).1.length ≤ 1099511627776) :
    Calls Try.prog 12 #[.agg vo.toArray, .agg vr.toArray, .agg vc.toArray] w fun e w' => e = .returned (.bool true) ∧ Below w.heap.size w w' := by
  have hio : Hid ((Try.prog.info? 51).map (·.size) = some vo.length) := Lib.hid (by rw [ho.len.2]; kernel_rfl)
  have fto := Lib.hid ho.fit
  have PWo := Lib.hid (fun w' hc => wput_Op zo vo w' hc so)
  obtain ⟨So, hSo⟩ : ∃ S, lays shOp zo ([], 0) = S := ⟨_, rfl⟩
  rw [hSo] at PWo
  have HSo := Lib.hid hSo
  clear hSo so
  have hir : Hid ((Try.prog.info? 33).map (·.size) = some vr.length) := Lib.hid (by rw [hr.len.2]; kernel_rfl)
  have ftr := Lib.hid hr.fit
  have PWr := Lib.hid (fun w' hc => wput_Record zr vr w' hc sr)
  obtain ⟨Sr, hSr⟩ : ∃ S, lays shRecord zr ([], 0) = S := ⟨_, rfl⟩
  rw [hSr] at PWr
  have HSr := Lib.hid hSr
  clear hSr sr
  have hic : Hid ((Try.prog.info? 74).map (·.size) = some vc.length) := Lib.hid (by rw [hc.len.2]; kernel_rfl)
  have ftc := Lib.hid hc.fit
  have PWc := Lib.hid (fun w' hc => wput_Catalog zc vc w' hc sc)
  obtain ⟨Sc, hSc⟩ : ∃ S, lays shCatalog zc ([], 0) = S := ⟨_, rfl⟩
  rw [hSc] at PWc
  have HSc := Lib.hid hSc
  clear hSc sc
  have hb0 : Below w.heap.size w (((w.alloc (.cells vo.toArray 51)).alloc (.cells vr.toArray 33)).alloc (.cells vc.toArray 74)) := (((Below.refl _ _).alloc (Nat.le_refl _) _).alloc (by simp) _).alloc (by simp; omega) _
  have HXo : Hid (Blk (((w.alloc (.cells vo.toArray 51)).alloc (.cells vr.toArray 33)).alloc (.cells vc.toArray 74)) w.heap.size 51 vo) := Lib.hid (((Blk.new w 51 vo).alloc _).alloc _)
  have HXr : Hid (Blk (((w.alloc (.cells vo.toArray 51)).alloc (.cells vr.toArray 33)).alloc (.cells vc.toArray 74)) (w.heap.size + 1) 33 vr) := Lib.hid (by have := (Blk.new (w.alloc (.cells vo.toArray 51)) 33 vr).alloc (.cells vc.toArray 74); simpa using this)
  have HXc : Hid (Blk (((w.alloc (.cells vo.toArray 51)).alloc (.cells vr.toArray 33)).alloc (.cells vc.toArray 74)) (w.heap.size + 1 + 1) 74 vc) := Lib.hid (by have := Blk.new ((w.alloc (.cells vo.toArray 51)).alloc (.cells vr.toArray 33)) 74 vc; simpa using this)
  obtain ⟨w0, hw0⟩ : ∃ w0, (((w.alloc (.cells vo.toArray 51)).alloc (.cells vr.toArray 33)).alloc (.cells vc.toArray 74)) = w0 := ⟨_, rfl⟩
  have HRG0 := Lib.hid HXo.out.range0
  rw [hw0] at hb0 HXo HXr HXc
  have HW0 := Lib.hid hw0
  have HCo := Lib.hid ((ho.below hb0).more hb0.size)
  have HCr := Lib.hid ((hr.below hb0).more hb0.size)
  have HCc := Lib.hid ((hc.below hb0).more hb0.size)
  have HB := Lib.hid hb0
  clear hb0 ho hr hc hw0
  go_enter Try.func12, Try.ntmps12
  go_wp2_with (with_reducible refine wpList_load_mid rfl 51 _ rfl w.heap.size 0 rfl vo _ HRG0.out Try.underlying51 rfl hio.out ?_)
  rw [HW0.out]
  refine (unhide PWo _ HCo.out).mono ?_
  rintro e wp0 ⟨⟨Ao, no, co, rfl, hno, hcapo, hR⟩, hK⟩
  replace HXo := Lib.hid (HXo.out.below hK HXo.out.lt)
  replace HXr := Lib.hid (HXr.out.below hK HXr.out.lt)
  replace HXc := Lib.hid (HXc.out.below hK HXc.out.lt)
  replace HCo := Lib.hid ((HCo.out.below hK).more hK.size)
  replace HCr := Lib.hid ((HCr.out.below hK).more hK.size)
  replace HCc := Lib.hid ((HCc.out.below hK).more hK.size)
  replace HB := Lib.hid (HB.out.trans (hK.mono HB.out.size))
  have HRo := Lib.hid hR
  have HNo := Lib.hid hno
  clear hR hK hno
  go_wp2_with (with_reducible refine wpList_load_mid rfl 33 _ rfl (w.heap.size + 1) 0 rfl vr _ HXr.out.range0 Try.underlying33 rfl hir.out ?_)
  refine (unhide PWr _ HCr.out).mono ?_
  rintro e wp1 ⟨⟨Ar, nr, cr, rfl, hnr, hcapr, hR⟩, hK⟩
  replace HXo := Lib.hid (HXo.out.below hK HXo.out.lt)
  replace HXr := Lib.hid (HXr.out.below hK HXr.out.lt)
  replace HXc := Lib.hid (HXc.out.below hK HXc.out.lt)
  replace HCo := Lib.hid ((HCo.out.below hK).more hK.size)
  replace HCr := Lib.hid ((HCr.out.below hK).more hK.size)
  replace HCc := Lib.hid ((HCc.out.below hK).more hK.size)
  replace HB := Lib.hid (HB.out.trans (hK.mono HB.out.size))
  replace HRo := Lib.hid ((HRo.out.below hK).more hK.size)
  have HRr := Lib.hid hR
  have HNr := Lib.hid hnr
  clear hR hK hnr
  go_wp2_with (with_reducible refine wpList_load_mid rfl 74 _ rfl (w.heap.size + 1 + 1) 0 rfl vc _ HXc.out.range0 Try.underlying74 rfl hic.out ?_)
  refine (unhide PWc _ HCc.out).mono ?_
  rintro e wp2 ⟨⟨Ac, nc, cc, rfl, hnc, hcapc, hR⟩, hK⟩
  replace HXo := Lib.hid (HXo.out.below hK HXo.out.lt)
  replace HXr := Lib.hid (HXr.out.below hK HXr.out.lt)
  replace HXc := Lib.hid (HXc.out.below hK HXc.out.lt)
  replace HCo := Lib.hid ((HCo.out.below hK).more hK.size)
  replace HCr := Lib.hid ((HCr.out.below hK).more hK.size)
  replace HCc := Lib.hid ((HCc.out.below hK).more hK.size)
  replace HB := Lib.hid (HB.out.trans (hK.mono HB.out.size))
  replace HRo := Lib.hid ((HRo.out.below hK).more hK.size)
  replace HRr := Lib.hid ((HRr.out.below hK).more hK.size)
  have HRc := Lib.hid hR
  have HNc := Lib.hid hnc
  clear hR hK hnc
  obtain ⟨Eo, hEo⟩ : ∃ E, So.2 = E := ⟨_, rfl⟩
  have HEo := Lib.hid hEo
  rw [hEo]
  clear hEo
  obtain ⟨Er, hEr⟩ : ∃ E, Sr.2 = E := ⟨_, rfl⟩
  have HEr := Lib.hid hEr
  rw [hEr]
  clear hEr
  obtain ⟨Ec, hEc⟩ : ∃ E, Sc.2 = E := ⟨_, rfl⟩
  have HEc := Lib.hid hEc
  rw [hEc]
  clear hEc
  by_cases heo : Eo = 0
  rotate_left
  · have t1 : ((Eo : Int) == 0) = false := by simpa using heo
    have t2 : ((Eo : Int) != 0) = true := by simpa using heo
    go_wp2_with fail
    refine (awake_any _).mono ?_
    rintro e wq ⟨rfl, hK⟩
    have HBq := Lib.hid (HB.out.trans (hK.mono HB.out.size))
    clear hK
    go_wp2
    go_ret
    exact ⟨rfl, HBq.out⟩
  subst heo
  by_cases her : Er = 0
  rotate_left
  · have t1 : ((Er : Int) == 0) = false := by simpa using her
    have t2 : ((Er : Int) != 0) = true := by simpa using her
    go_wp2_with fail
    refine (awake_any _).mono ?_
    rintro e wq ⟨rfl, hK⟩
    have HBq := Lib.hid (HB.out.trans (hK.mono HB.out.size))
    clear hK
    go_wp2
    go_ret
    exact ⟨rfl, HBq.out⟩
  subst her
  by_cases hec : Ec = 0
  rotate_left
  · have t1 : ((Ec : Int) == 0) = false := by simpa using hec
    have t2 : ((Ec : Int) != 0) = true := by simpa using hec
    go_wp2_with fail
    refine (awake_any _).mono ?_
    rintro e wq ⟨rfl, hK⟩
    have HBq := Lib.hid (HB.out.trans (hK.mono HB.out.size))
    clear hK
    go_wp2
    go_ret
    exact ⟨rfl, HBq.out⟩
  subst hec
  by_cases hbo : 262144 < no
  · have t1 : (262144 : Int) < (no : Int) := by omega
    go_wp2_with fail
    refine (awake_any _).mono ?_
    rintro e wq ⟨rfl, hK⟩
    have HBq := Lib.hid (HB.out.trans (hK.mono HB.out.size))
    clear hK
    go_wp2
    go_ret
    exact ⟨rfl, HBq.out⟩
  by_cases hbr : 262144 < nr
  · have t1 : (262144 : Int) < (nr : Int) := by omega
    go_wp2_with fail
    refine (awake_any _).mono ?_
    rintro e wq ⟨rfl, hK⟩
    have HBq := Lib.hid (HB.out.trans (hK.mono HB.out.size))
    clear hK
    go_wp2
    go_ret
    exact ⟨rfl, HBq.out⟩
  by_cases hbc : 262144 < nc
  · have t1 : (262144 : Int) < (nc : Int) := by omega
    go_wp2_with fail
    refine (awake_any _).mono ?_
    rintro e wq ⟨rfl, hK⟩
    have HBq := Lib.hid (HB.out.trans (hK.mono HB.out.size))
    clear hK
    go_wp2
    go_ret
    exact ⟨rfl, HBq.out⟩
  have houto : So = (So.1, 0) := st_eq HEo.out
  have hrdo := laid_rds fto.out (HSo.out.trans houto) []
  rw [List.append_nil] at hrdo
  have HRDo := Lib.hid hrdo
  have hoo : out So = So.1 := by unfold out; rw [if_pos HEo.out]
  rw [hoo] at HRo
  have HOUo := Lib.hid houto
  clear houto hrdo hoo
  have houtr : Sr = (Sr.1, 0) := st_eq HEr.out
  have hrdr := laid_rds ftr.out (HSr.out.trans houtr) []
  rw [List.append_nil] at hrdr
  have HRDr := Lib.hid hrdr
  have hor : out Sr = Sr.1 := by unfold out; rw [if_pos HEr.out]
  rw [hor] at HRr
  have HOUr := Lib.hid houtr
  clear houtr hrdr hor
  have houtc : Sc = (Sc.1, 0) := st_eq HEc.out
  have hrdc := laid_rds ftc.out (HSc.out.trans houtc) []
  rw [List.append_nil] at hrdc
  have HRDc := Lib.hid hrdc
  have hoc : out Sc = Sc.1 := by unfold out; rw [if_pos HEc.out]
  rw [hoc] at HRc
  have HOUc := Lib.hid houtc
  clear houtc hrdc hoc
  go_wp2_with fail
  refine (wget_Op _ _ _ _ _ HRo.out hcapo.1 ⟨by omega, hcapo.2⟩).mono ?_
  rintro e wg0 ⟨hG, hK⟩
  rcases hG with ⟨dx, yo, hdx, rfl, hC⟩ | ⟨hno, rfl⟩
  rotate_left
  · exact absurd HRDo.out (hno _)
  rw [HRDo.out] at hdx
  injection hdx with hdx
  injection hdx with hdx _
  subst hdx
  replace HXo := Lib.hid (HXo.out.below hK HXo.out.lt)
  replace HXr := Lib.hid (HXr.out.below hK HXr.out.lt)
  replace HXc := Lib.hid (HXc.out.below hK HXc.out.lt)
  replace HCo := Lib.hid ((HCo.out.below hK).more hK.size)
  replace HCr := Lib.hid ((HCr.out.below hK).more hK.size)
  replace HCc := Lib.hid ((HCc.out.below hK).more hK.size)
  replace HB := Lib.hid (HB.out.trans (hK.mono HB.out.size))
  replace HRo := Lib.hid ((HRo.out.below hK).more hK.size)
  replace HRr := Lib.hid ((HRr.out.below hK).more hK.size)
  replace HRc := Lib.hid ((HRc.out.below hK).more hK.size)
  have hlen : yo.length = 23 := hC.len.2
  have HVo := Lib.hid (Blk.new wg0 51 [.int .i64 0, .int .i64 0, .int .i64 0, .int .i64 0, .string ⟨#[]⟩, .string ⟨#[]⟩, .string ⟨#[]⟩, .string ⟨#[]⟩, .string ⟨#[]⟩, .slice none 0 0, .string ⟨#[]⟩, .int .i64 0, .slice none 0 0, .int .i64 0, .int .i64 0, .string ⟨#[]⟩, .string ⟨#[]⟩, .string ⟨#[]⟩, .int .i64 0, .bool false, .int .i64 0, .int .i64 0, .int .i64 0])
  have HTEo : Hid (World.there (wg0.alloc (.cells #[.int .i64 0, .int .i64 0, .int .i64 0, .int .i64 0, .string ⟨#[]⟩, .string ⟨#[]⟩, .string ⟨#[]⟩, .string ⟨#[]⟩, .string ⟨#[]⟩, .slice none 0 0, .string ⟨#[]⟩, .int .i64 0, .slice none 0 0, .int .i64 0, .int .i64 0, .string ⟨#[]⟩, .string ⟨#[]⟩, .string ⟨#[]⟩, .int .i64 0, .bool false, .int .i64 0, .int .i64 0, .int .i64 0] 51)) wg0.heap.size 0 yo.toArray.size) := Lib.hid (HVo.out.there 0 _ (by simp [hlen]))
  have hsVo : Hid ((Try.prog.info? 51).map (·.size) = some yo.toArray.size) := Lib.hid (by rw [List.size_toArray, hlen]; kernel_rfl)
  have hiVo : Hid ((Try.prog.info? 51).map (·.size) = some yo.length) := Lib.hid (by rw [hlen]; kernel_rfl)
  have h1Vo : Hid (yo.toArray.all (·.oneCell') = true) := Lib.hid (all_oneCell_toArray hC.oneCell)
  have hb3 : Below wg0.heap.size wg0 ((wg0.alloc (.cells #[.int .i64 0, .int .i64 0, .int .i64 0, .int .i64 0, .string ⟨#[]⟩, .string ⟨#[]⟩, .string ⟨#[]⟩, .string ⟨#[]⟩, .string ⟨#[]⟩, .slice none 0 0, .string ⟨#[]⟩, .int .i64 0, .slice none 0 0, .int .i64 0, .int .i64 0, .string ⟨#[]⟩, .string ⟨#[]⟩, .string ⟨#[]⟩, .int .i64 0, .bool false, .int .i64 0, .int .i64 0, .int .i64 0] 51)).setCells wg0.heap.size 0 yo) := ((Below.refl _ _).alloc (Nat.le_refl _) _).trans (below_setCells_ (Nat.le_refl _) 0 yo)
  replace HVo := Lib.hid (HVo.out.setCells0 yo hlen.symm)
  obtain ⟨wv0, hwv⟩ : ∃ w3, ((wg0.alloc (.cells #[.int .i64 0, .int .i64 0, .int .i64 0, .int .i64 0, .string ⟨#[]⟩, .string ⟨#[]⟩, .string ⟨#[]⟩, .string ⟨#[]⟩, .string ⟨#[]⟩, .slice none 0 0, .string ⟨#[]⟩, .int .i64 0, .slice none 0 0, .int .i64 0, .int .i64 0, .string ⟨#[]⟩, .string ⟨#[]⟩, .string ⟨#[]⟩, .int .i64 0, .bool false, .int .i64 0, .int .i64 0, .int .i64 0] 51)).setCells wg0.heap.size 0 yo) = w3 := ⟨_, rfl⟩
  rw [hwv] at hb3 HVo
  have HDo := Lib.hid hC
  replace HXo := Lib.hid (HXo.out.below hb3 HXo.out.lt)
  replace HXr := Lib.hid (HXr.out.below hb3 HXr.out.lt)
  replace HXc := Lib.hid (HXc.out.below hb3 HXc.out.lt)
  replace HCo := Lib.hid ((HCo.out.below hb3).more hb3.size)
  replace HCr := Lib.hid ((HCr.out.below hb3).more hb3.size)
  replace HCc := Lib.hid ((HCc.out.below hb3).more hb3.size)
  replace HB := Lib.hid (HB.out.trans (hb3.mono HB.out.size))
  replace HRo := Lib.hid ((HRo.out.below hb3).more hb3.size)
  replace HRr := Lib.hid ((HRr.out.below hb3).more hb3.size)
  replace HRc := Lib.hid ((HRc.out.below hb3).more hb3.size)
  replace HDo := Lib.hid (HDo.out.keeps (Keeps.of_below (ts := []) hb3 (Nat.le_refl _)) (by simp))
  have HWo := Lib.hid hwv
  clear hK hC hlen hb3 hwv
  go_wp2_with (first | (with_reducible refine wpList_store_mid rfl 51 _ _ rfl wg0.heap.size 0 yo.toArray rfl rfl HTEo.out hsVo.out h1Vo.out ?_))
  rw [HWo.out]
  refine (wget_Record _ _ _ _ _ HRr.out hcapr.1 ⟨by omega, hcapr.2⟩).mono ?_
  rintro e wg1 ⟨hG, hK⟩
  rcases hG with ⟨dx, yr, hdx, rfl, hC⟩ | ⟨hno, rfl⟩
  rotate_left
  · exact absurd HRDr.out (hno _)
  rw [HRDr.out] at hdx
  injection hdx with hdx
  injection hdx with hdx _
  subst hdx
  replace HXo := Lib.hid (HXo.out.below hK HXo.out.lt)
  replace HXr := Lib.hid (HXr.out.below hK HXr.out.lt)
  replace HXc := Lib.hid (HXc.out.below hK HXc.out.lt)
  replace HCo := Lib.hid ((HCo.out.below hK).more hK.size)
  replace HCr := Lib.hid ((HCr.out.below hK).more hK.size)
  replace HCc := Lib.hid ((HCc.out.below hK).more hK.size)
  replace HB := Lib.hid (HB.out.trans (hK.mono HB.out.size))
  replace HRo := Lib.hid ((HRo.out.below hK).more hK.size)
  replace HRr := Lib.hid ((HRr.out.below hK).more hK.size)
  replace HRc := Lib.hid ((HRc.out.below hK).more hK.size)
  replace HDo := Lib.hid (HDo.out.keeps (Keeps.of_below (ts := []) hK (Nat.le_refl _)) (by simp))
  replace HVo := Lib.hid (HVo.out.below hK HVo.out.lt)
  have hlen : yr.length = 15 := hC.len.2
  have HVr := Lib.hid (Blk.new wg1 33 [.int .i64 0, .int .i64 0, .int .i64 0, .int .i64 0, .int .i64 0, .int .i64 0, .slice none 0 0, .slice none 0 0, .string ⟨#[]⟩, .int .i64 0, .int .i64 0, .int .i64 0, .slice none 0 0, .slice none 0 0, .string ⟨#[]⟩])
  have HTEr : Hid (World.there (wg1.alloc (.cells #[.int .i64 0, .int .i64 0, .int .i64 0, .int .i64 0, .int .i64 0, .int .i64 0, .slice none 0 0, .slice none 0 0, .string ⟨#[]⟩, .int .i64 0, .int .i64 0, .int .i64 0, .slice none 0 0, .slice none 0 0, .string ⟨#[]⟩] 33)) wg1.heap.size 0 yr.toArray.size) := Lib.hid (HVr.out.there 0 _ (by simp [hlen]))
  have hsVr : Hid ((Try.prog.info? 33).map (·.size) = some yr.toArray.size) := Lib.hid (by rw [List.size_toArray, hlen]; kernel_rfl)
  have hiVr : Hid ((Try.prog.info? 33).map (·.size) = some yr.length) := Lib.hid (by rw [hlen]; kernel_rfl)
  have h1Vr : Hid (yr.toArray.all (·.oneCell') = true) := Lib.hid (all_oneCell_toArray hC.oneCell)
  have hb3 : Below wg1.heap.size wg1 ((wg1.alloc (.cells #[.int .i64 0, .int .i64 0, .int .i64 0, .int .i64 0, .int .i64 0, .int .i64 0, .slice none 0 0, .slice none 0 0, .string ⟨#[]⟩, .int .i64 0, .int .i64 0, .int .i64 0, .slice none 0 0, .slice none 0 0, .string ⟨#[]⟩] 33)).setCells wg1.heap.size 0 yr) := ((Below.refl _ _).alloc (Nat.le_refl _) _).trans (below_setCells_ (Nat.le_refl _) 0 yr)
  replace HVr := Lib.hid (HVr.out.setCells0 yr hlen.symm)
  obtain ⟨wv1, hwv⟩ : ∃ w3, ((wg1.alloc (.cells #[.int .i64 0, .int .i64 0, .int .i64 0, .int .i64 0, .int .i64 0, .int .i64 0, .slice none 0 0, .slice none 0 0, .string ⟨#[]⟩, .int .i64 0, .int .i64 0, .int .i64 0, .slice none 0 0, .slice none 0 0, .string ⟨#[]⟩] 33)).setCells wg1.heap.size 0 yr) = w3 := ⟨_, rfl⟩
  rw [hwv] at hb3 HVr
  have HDr := Lib.hid hC
  replace HXo := Lib.hid (HXo.out.below hb3 HXo.out.lt)
  replace HXr := Lib.hid (HXr.out.below hb3 HXr.out.lt)
  replace HXc := Lib.hid (HXc.out.below hb3 HXc.out.lt)
  replace HCo := Lib.hid ((HCo.out.below hb3).more hb3.size)
  replace HCr := Lib.hid ((HCr.out.below hb3).more hb3.size)
  replace HCc := Lib.hid ((HCc.out.below hb3).more hb3.size)
  replace HB := Lib.hid (HB.out.trans (hb3.mono HB.out.size))
  replace HRo := Lib.hid ((HRo.out.below hb3).more hb3.size)
  replace HRr := Lib.hid ((HRr.out.below hb3).more hb3.size)
  replace HRc := Lib.hid ((HRc.out.below hb3).more hb3.size)
  replace HDo := Lib.hid (HDo.out.keeps (Keeps.of_below (ts := []) hb3 (Nat.le_refl _)) (by simp))
  replace HVo := Lib.hid (HVo.out.below hb3 HVo.out.lt)
  replace HDr := Lib.hid (HDr.out.keeps (Keeps.of_below (ts := []) hb3 (Nat.le_refl _)) (by simp))
  have HWr := Lib.hid hwv
  clear hK hC hlen hb3 hwv
  go_wp2_with (first | (with_reducible refine wpList_store_mid rfl 33 _ _ rfl wg1.heap.size 0 yr.toArray rfl rfl HTEr.out hsVr.out h1Vr.out ?_))
  rw [HWr.out]
  refine (wget_Catalog _ _ _ _ _ HRc.out hcapc.1 ⟨by omega, hcapc.2⟩).mono ?_
  rintro e wg2 ⟨hG, hK⟩
  rcases hG with ⟨dx, yc, hdx, rfl, hC⟩ | ⟨hno, rfl⟩
  rotate_left
  · exact absurd HRDc.out (hno _)
  rw [HRDc.out] at hdx
  injection hdx with hdx
  injection hdx with hdx _
  subst hdx
  replace HXo := Lib.hid (HXo.out.below hK HXo.out.lt)
  replace HXr := Lib.hid (HXr.out.below hK HXr.out.lt)
  replace HXc := Lib.hid (HXc.out.below hK HXc.out.lt)
  replace HCo := Lib.hid ((HCo.out.below hK).more hK.size)
  replace HCr := Lib.hid ((HCr.out.below hK).more hK.size)
  replace HCc := Lib.hid ((HCc.out.below hK).more hK.size)
  replace HB := Lib.hid (HB.out.trans (hK.mono HB.out.size))
  replace HRo := Lib.hid ((HRo.out.below hK).more hK.size)
  replace HRr := Lib.hid ((HRr.out.below hK).more hK.size)
  replace HRc := Lib.hid ((HRc.out.below hK).more hK.size)
  replace HDo := Lib.hid (HDo.out.keeps (Keeps.of_below (ts := []) hK (Nat.le_refl _)) (by simp))
  replace HVo := Lib.hid (HVo.out.below hK HVo.out.lt)
  replace HDr := Lib.hid (HDr.out.keeps (Keeps.of_below (ts := []) hK (Nat.le_refl _)) (by simp))
  replace HVr := Lib.hid (HVr.out.below hK HVr.out.lt)
  have hlen : yc.length = 7 := hC.len.2
  have HVc := Lib.hid (Blk.new wg2 74 [.int .i64 0, .int .i64 0, .slice none 0 0, .slice none 0 0, .slice none 0 0, .slice none 0 0, .slice none 0 0])
  have HTEc : Hid (World.there (wg2.alloc (.cells #[.int .i64 0, .int .i64 0, .slice none 0 0, .slice none 0 0, .slice none 0 0, .slice none 0 0, .slice none 0 0] 74)) wg2.heap.size 0 yc.toArray.size) := Lib.hid (HVc.out.there 0 _ (by simp [hlen]))
  have hsVc : Hid ((Try.prog.info? 74).map (·.size) = some yc.toArray.size) := Lib.hid (by rw [List.size_toArray, hlen]; kernel_rfl)
  have hiVc : Hid ((Try.prog.info? 74).map (·.size) = some yc.length) := Lib.hid (by rw [hlen]; kernel_rfl)
  have h1Vc : Hid (yc.toArray.all (·.oneCell') = true) := Lib.hid (all_oneCell_toArray hC.oneCell)
  have hb3 : Below wg2.heap.size wg2 ((wg2.alloc (.cells #[.int .i64 0, .int .i64 0, .slice none 0 0, .slice none 0 0, .slice none 0 0, .slice none 0 0, .slice none 0 0] 74)).setCells wg2.heap.size 0 yc) := ((Below.refl _ _).alloc (Nat.le_refl _) _).trans (below_setCells_ (Nat.le_refl _) 0 yc)
  replace HVc := Lib.hid (HVc.out.setCells0 yc hlen.symm)
  obtain ⟨wv2, hwv⟩ : ∃ w3, ((wg2.alloc (.cells #[.int .i64 0, .int .i64 0, .slice none 0 0, .slice none 0 0, .slice none 0 0, .slice none 0 0, .slice none 0 0] 74)).setCells wg2.heap.size 0 yc) = w3 := ⟨_, rfl⟩
  rw [hwv] at hb3 HVc
  have HDc := Lib.hid hC
  replace HXo := Lib.hid (HXo.out.below hb3 HXo.out.lt)
  replace HXr := Lib.hid (HXr.out.below hb3 HXr.out.lt)
  replace HXc := Lib.hid (HXc.out.below hb3 HXc.out.lt)
  replace HCo := Lib.hid ((HCo.out.below hb3).more hb3.size)
  replace HCr := Lib.hid ((HCr.out.below hb3).more hb3.size)
  replace HCc := Lib.hid ((HCc.out.below hb3).more hb3.size)
  replace HB := Lib.hid (HB.out.trans (hb3.mono HB.out.size))
  replace HRo := Lib.hid ((HRo.out.below hb3).more hb3.size)
  replace HRr := Lib.hid ((HRr.out.below hb3).more hb3.size)
  replace HRc := Lib.hid ((HRc.out.below hb3).more hb3.size)
  replace HDo := Lib.hid (HDo.out.keeps (Keeps.of_below (ts := []) hb3 (Nat.le_refl _)) (by simp))
  replace HVo := Lib.hid (HVo.out.below hb3 HVo.out.lt)
  replace HDr := Lib.hid (HDr.out.keeps (Keeps.of_below (ts := []) hb3 (Nat.le_refl _)) (by simp))
  replace HVr := Lib.hid (HVr.out.below hb3 HVr.out.lt)
  replace HDc := Lib.hid (HDc.out.keeps (Keeps.of_below (ts := []) hb3 (Nat.le_refl _)) (by simp))
  have HWc := Lib.hid hwv
  clear hK hC hlen hb3 hwv
  have HRGe : Hid (World.rangeAt ((wg2.alloc (.cells #[.int .i64 0, .int .i64 0, .slice none 0 0, .slice none 0 0, .slice none 0 0, .slice none 0 0, .slice none 0 0] 74)).setCells wg2.heap.size 0 yc) wg0.heap.size 0 yo) := Lib.hid (by rw [HWc.out]; exact HVo.out.range0)
  go_wp2_with (first | (with_reducible refine wpList_store_mid rfl 74 _ _ rfl wg2.heap.size 0 yc.toArray rfl rfl HTEc.out hsVc.out h1Vc.out ?_) | (with_reducible refine wpList_load_mid rfl 51 _ rfl wg0.heap.size 0 rfl yo _ HRGe.out Try.underlying51 rfl hiVo.out ?_))
  rw [HWc.out]
  refine (wput_Op zo yo _ HDo.out.inT_lt (by rw [HSo.out, HOUo.out]; have h1 := HNo.out; have h2 : out So = So.1 := (by unfold out; rw [if_pos HEo.out]); rw [h2] at h1; dsimp only; omega)).mono ?_
  rw [HSo.out, HOUo.out]
  rintro e wl0 ⟨⟨Bo, mo, ko, rfl, hm1, hm2, hR⟩, hK⟩
  clear hm1 hm2
  have hoo : out (So.1, 0) = So.1 := rfl
  rw [hoo] at hR
  replace HXo := Lib.hid (HXo.out.below hK HXo.out.lt)
  replace HXr := Lib.hid (HXr.out.below hK HXr.out.lt)
  replace HXc := Lib.hid (HXc.out.below hK HXc.out.lt)
  replace HCo := Lib.hid ((HCo.out.below hK).more hK.size)
  replace HCr := Lib.hid ((HCr.out.below hK).more hK.size)
  replace HCc := Lib.hid ((HCc.out.below hK).more hK.size)
  replace HB := Lib.hid (HB.out.trans (hK.mono HB.out.size))
  replace HRo := Lib.hid ((HRo.out.below hK).more hK.size)
  replace HRr := Lib.hid ((HRr.out.below hK).more hK.size)
  replace HRc := Lib.hid ((HRc.out.below hK).more hK.size)
  replace HDo := Lib.hid (HDo.out.keeps (Keeps.of_below (ts := []) hK (Nat.le_refl _)) (by simp))
  replace HVo := Lib.hid (HVo.out.below hK HVo.out.lt)
  replace HDr := Lib.hid (HDr.out.keeps (Keeps.of_below (ts := []) hK (Nat.le_refl _)) (by simp))
  replace HVr := Lib.hid (HVr.out.below hK HVr.out.lt)
  replace HDc := Lib.hid (HDc.out.keeps (Keeps.of_below (ts := []) hK (Nat.le_refl _)) (by simp))
  replace HVc := Lib.hid (HVc.out.below hK HVc.out.lt)
  have HLo := Lib.hid hR
  clear hR hK hoo
  go_wp2_with (with_reducible refine wpList_load_mid rfl 33 _ rfl wg1.heap.size 0 rfl yr _ HVr.out.range0 Try.underlying33 rfl hiVr.out ?_)
  refine (wput_Record zr yr _ HDr.out.inT_lt (by rw [HSr.out, HOUr.out]; have h1 := HNr.out; have h2 : out Sr = Sr.1 := (by unfold out; rw [if_pos HEr.out]); rw [h2] at h1; dsimp only; omega)).mono ?_
  rw [HSr.out, HOUr.out]
  rintro e wl1 ⟨⟨Br, mr, kr, rfl, hm1, hm2, hR⟩, hK⟩
  clear hm1 hm2
  have hoo : out (Sr.1, 0) = Sr.1 := rfl
  rw [hoo] at hR
  replace HXo := Lib.hid (HXo.out.below hK HXo.out.lt)
  replace HXr := Lib.hid (HXr.out.below hK HXr.out.lt)
  replace HXc := Lib.hid (HXc.out.below hK HXc.out.lt)
  replace HCo := Lib.hid ((HCo.out.below hK).more hK.size)
  replace HCr := Lib.hid ((HCr.out.below hK).more hK.size)
  replace HCc := Lib.hid ((HCc.out.below hK).more hK.size)
  replace HB := Lib.hid (HB.out.trans (hK.mono HB.out.size))
  replace HRo := Lib.hid ((HRo.out.below hK).more hK.size)
  replace HRr := Lib.hid ((HRr.out.below hK).more hK.size)
  replace HRc := Lib.hid ((HRc.out.below hK).more hK.size)
  replace HDo := Lib.hid (HDo.out.keeps (Keeps.of_below (ts := []) hK (Nat.le_refl _)) (by simp))
  replace HVo := Lib.hid (HVo.out.below hK HVo.out.lt)
  replace HDr := Lib.hid (HDr.out.keeps (Keeps.of_below (ts := []) hK (Nat.le_refl _)) (by simp))
  replace HVr := Lib.hid (HVr.out.below hK HVr.out.lt)
  replace HDc := Lib.hid (HDc.out.keeps (Keeps.of_below (ts := []) hK (Nat.le_refl _)) (by simp))
  replace HVc := Lib.hid (HVc.out.below hK HVc.out.lt)
  replace HLo := Lib.hid ((HLo.out.below hK).more hK.size)
  have HLr := Lib.hid hR
  clear hR hK hoo
  go_wp2_with (with_reducible refine wpList_load_mid rfl 74 _ rfl wg2.heap.size 0 rfl yc _ HVc.out.range0 Try.underlying74 rfl hiVc.out ?_)
  refine (wput_Catalog zc yc _ HDc.out.inT_lt (by rw [HSc.out, HOUc.out]; have h1 := HNc.out; have h2 : out Sc = Sc.1 := (by unfold out; rw [if_pos HEc.out]); rw [h2] at h1; dsimp only; omega)).mono ?_
  rw [HSc.out, HOUc.out]
  rintro e wl2 ⟨⟨Bc, mc, kc, rfl, hm1, hm2, hR⟩, hK⟩
  clear hm1 hm2
  have hoo : out (Sc.1, 0) = Sc.1 := rfl
  rw [hoo] at hR
  replace HXo := Lib.hid (HXo.out.below hK HXo.out.lt)
  replace HXr := Lib.hid (HXr.out.below hK HXr.out.lt)
  replace HXc := Lib.hid (HXc.out.below hK HXc.out.lt)
  replace HCo := Lib.hid ((HCo.out.below hK).more hK.size)
  replace HCr := Lib.hid ((HCr.out.below hK).more hK.size)
  replace HCc := Lib.hid ((HCc.out.below hK).more hK.size)
  replace HB := Lib.hid (HB.out.trans (hK.mono HB.out.size))
  replace HRo := Lib.hid ((HRo.out.below hK).more hK.size)
  replace HRr := Lib.hid ((HRr.out.below hK).more hK.size)
  replace HRc := Lib.hid ((HRc.out.below hK).more hK.size)
  replace HDo := Lib.hid (HDo.out.keeps (Keeps.of_below (ts := []) hK (Nat.le_refl _)) (by simp))
  replace HVo := Lib.hid (HVo.out.below hK HVo.out.lt)
  replace HDr := Lib.hid (HDr.out.keeps (Keeps.of_below (ts := []) hK (Nat.le_refl _)) (by simp))
  replace HVr := Lib.hid (HVr.out.below hK HVr.out.lt)
  replace HDc := Lib.hid (HDc.out.keeps (Keeps.of_below (ts := []) hK (Nat.le_refl _)) (by simp))
  replace HVc := Lib.hid (HVc.out.below hK HVc.out.lt)
  replace HLo := Lib.hid ((HLo.out.below hK).more hK.size)
  replace HLr := Lib.hid ((HLr.out.below hK).more hK.size)
  have HLc := Lib.hid hR
  clear hR hK hoo
  go_wp2_with fail
  refine (awake_any _).mono ?_
  rintro e wz ⟨rfl, hK⟩
  replace HXo := Lib.hid (HXo.out.below hK HXo.out.lt)
  replace HXr := Lib.hid (HXr.out.below hK HXr.out.lt)
  replace HXc := Lib.hid (HXc.out.below hK HXc.out.lt)
  replace HCo := Lib.hid ((HCo.out.below hK).more hK.size)
  replace HCr := Lib.hid ((HCr.out.below hK).more hK.size)
  replace HCc := Lib.hid ((HCc.out.below hK).more hK.size)
  replace HB := Lib.hid (HB.out.trans (hK.mono HB.out.size))
  replace HRo := Lib.hid ((HRo.out.below hK).more hK.size)
  replace HRr := Lib.hid ((HRr.out.below hK).more hK.size)
  replace HRc := Lib.hid ((HRc.out.below hK).more hK.size)
  replace HDo := Lib.hid (HDo.out.keeps (Keeps.of_below (ts := []) hK (Nat.le_refl _)) (by simp))
  replace HVo := Lib.hid (HVo.out.below hK HVo.out.lt)
  replace HDr := Lib.hid (HDr.out.keeps (Keeps.of_below (ts := []) hK (Nat.le_refl _)) (by simp))
  replace HVr := Lib.hid (HVr.out.below hK HVr.out.lt)
  replace HDc := Lib.hid (HDc.out.keeps (Keeps.of_below (ts := []) hK (Nat.le_refl _)) (by simp))
  replace HVc := Lib.hid (HVc.out.below hK HVc.out.lt)
  replace HLo := Lib.hid ((HLo.out.below hK).more hK.size)
  replace HLr := Lib.hid ((HLr.out.below hK).more hK.size)
  replace HLc := Lib.hid ((HLc.out.below hK).more hK.size)
  have k1o := conv_bytes Ao no co _ wz HRo.out
  have k2o := conv_bytes Bo mo ko _ wz HLo.out
  have k1r := conv_bytes Ar nr cr _ wz HRr.out
  have k2r := conv_bytes Br mr kr _ wz HLr.out
  have k1c := conv_bytes Ac nc cc _ wz HRc.out
  have k2c := conv_bytes Bc mc kc _ wz HLc.out
  clear hK
  clear HXo HXr HXc HCo HCr HCc HRo HRr HRc HDo HVo HDr HVr HDc HVc HLo HLr HLc
  go_wp2
  go_ret
  exact ⟨by simp, HB.out⟩
end Go.Proofs.Yteohhgkehkmgcaa
