/- The walk of stable's snap. Printed by mkfold19.py. -/
import Derived.Test.YtkdmfjpfanmgmaaFold18
import Derived.Deep.RegionLaw
namespace Go.Proofs.Ytkdmfjpfanmgmaa
open Go.RowKit Le
set_option maxRecDepth 100000
set_option linter.unusedSimpArgs false
set_option linter.unusedVariables false

theorem folded_snap_no {k : Kep} {r : Rcd} (h : r.kind = 4) (ht : r.snp.idx ≤ k.snp.idx) : foldedP k r = (.zero, 140) := by
  unfold foldedP; rw [if_neg (by omega), if_neg (by omega), if_neg (by omega), if_pos ht]
theorem folded_snap_in {k : Kep} {r : Rcd} {q : Nat} (h : r.kind = 4) (ht : k.snp.idx < r.snp.idx) (hq : r.snp.idx - k.snp.idx - 1 = (q : Int)) (hl : q < k.ents.length) (he : (k.ents[q]).term = r.snp.term) : foldedP k r = ({ k with snp := r.snp, ents := k.ents.drop (q + 1) }, 0) := by
  unfold foldedP; rw [if_neg (by omega), if_neg (by omega), if_neg (by omega), if_neg (by omega), hq, Int.toNat_natCast, if_pos (by simp [hl, he])]
theorem folded_snap_out {k : Kep} {r : Rcd} {q : Nat} (h : r.kind = 4) (ht : k.snp.idx < r.snp.idx) (hq : r.snp.idx - k.snp.idx - 1 = (q : Int)) (hl : ¬ q < k.ents.length ∨ ∃ h : q < k.ents.length, (k.ents[q]).term ≠ r.snp.term) : foldedP k r = ({ k with snp := r.snp, ents := [] }, 0) := by
  unfold foldedP; rw [if_neg (by omega), if_neg (by omega), if_neg (by omega), if_neg (by omega), hq, Int.toNat_natCast, if_neg]
  rcases hl with hl | ⟨hl, he⟩
  · simp [List.getElem?_eq_none (Nat.le_of_not_lt hl)]
  · simp [hl, he]
theorem RowsAt.drop_ {w : World} {S : Nat → Prop} {l : List Sh} {ds : List (List Da)} {ge : Nat} (h : RowsAt w S l ds (some ⟨ge, 0, none⟩)) (q : Nat) : RowsAt w S l (ds.drop q) (some ⟨ge, q * l.length, none⟩) := fun hn => by
  obtain ⟨ad, e, hS, h⟩ := h (by rw [List.length_drop] at hn; omega)
  injection e with e
  subst e
  refine ⟨_, rfl, hS, fun j d hj => ?_⟩
  rw [List.getElem?_drop] at hj
  obtain ⟨vs, h1, h2⟩ := h _ d hj
  refine ⟨vs, h1, fun i u hu => ?_⟩
  have := h2 i u hu
  rw [Addr.add_mid] at this ⊢
  rw [← this]
  congr 2
  rw [Nat.zero_add, Nat.add_mul]
  omega

theorem _root_.Go.RowKit.Below.dn {w w' : World} {B : Nat} (h : Below B w w') (m : Nat) : Below B w (w'.drewN m) := by
  induction m with
  | zero => exact h
  | succ m ih => exact ih.drew

set_option maxHeartbeats 3200000 in
theorem snap_any (k : Kep) (r : Rcd) (A : Option Addr) (c : Nat) (B : Option Addr) (d : Nat) (E : Option Addr) (n : Nat) (A1 : Option Addr) (c1 : Nat) (B1 : Option Addr) (d1 : Nat) (A2 : Option Addr) (c2 : Nat) (B2 : Option Addr) (d2 : Nat) (base g : Nat) (w : World) (hB : Blk w g 66 (foldCs k r A c B d E n A1 c1 B1 d1 A2 c2 B2 d2)) (hK : KepOwn w base k A B E n) (hbg : base ≤ g) (h1 : r.kind = 4) (hk : OkK k) (hat : okN r.snp.idx) (hrv : RowsAt w (· < base) [.num] (nums r.snp.v) A2) (hrl : RowsAt w (· < base) [.num] (nums r.snp.l) B2) (hs : r.snp.Small) :
    Calls Try.prog 38 #[.pointer (some ⟨g, 0, none⟩)] w (FoldEnd w base g k r A1 c1 B1 d1 A2 c2 B2 d2) := by
  unfold foldCs at hB
  have HB := Lib.hid hB
  have HK := Lib.hid hK
  have H1 := Lib.hid h1
  have HV := Lib.hid hrv
  have HL := Lib.hid hrl
  have HS := Lib.hid hs
  have q1 := okN_i hk.idx
  have q2 := hk.len
  have q3 := hB.lt
  have q4 := okN_i hat
  clear hB hK h1 hk hat hrv hrl hs
  have a2 : w.cell? ⟨g, 2, none⟩ = some (.int .i64 k.snp.idx) := HB.out.cell 2
  have a7 : w.cell? ⟨g, 7, none⟩ = some (.slice E k.ents.length n) := HB.out.cell 7
  have a18 : w.cell? ⟨g, 18, none⟩ = some (.int .i64 r.snp.idx) := HB.out.cell 18
  have a19 : w.cell? ⟨g, 19, none⟩ = some (.int .i64 r.snp.term) := HB.out.cell 19
  by_cases ht : r.snp.idx ≤ k.snp.idx
  · have t : decide (k.snp.idx < r.snp.idx) = false := decide_eq_false (by omega)
    have HF := Lib.hid (folded_snap_no H1.out ht)
    go_enter Try.func38, Try.ntmps38
    go_wp2_with fail
    go_still_tail 13, (by kernel_rfl)
    go_wp2_with fail
    refine (is_no 140 _).mono ?_
    rintro e w1 ⟨rfl, rfl⟩
    exact ⟨rfl, FoldEnd.bad 140 (by decide) HF.out rfl (Below.refl _ _).drew (Keeps.drew _)⟩
  · have t : decide (k.snp.idx < r.snp.idx) = true := decide_eq_true (by omega)
    have HT : Hid (k.snp.idx < r.snp.idx) := Lib.hid (by omega)
    obtain ⟨q, hq⟩ : ∃ q : Nat, r.snp.idx - k.snp.idx - 1 = (q : Int) := ⟨(r.snp.idx - k.snp.idx - 1).toNat, by omega⟩
    have HQ := Lib.hid hq
    have s1 : IntKind.i64.wrap (r.snp.idx - k.snp.idx) = r.snp.idx - k.snp.idx := IntWalk.i64_in _ (by omega)
    have s2 : IntKind.i64.wrap (r.snp.idx - k.snp.idx - 1) = (q : Int) := by rw [HQ.out]; exact IntWalk.i64_in _ (by omega)
    clear hq
    go_enter Try.func38, Try.ntmps38
    go_wp2_with fail
    go_still_tail 13, (by kernel_rfl)
    go_wp2_with fail
    refine (is_ok 140 _).mono ?_
    rintro e w1 ⟨rfl, rfl⟩
    go_wp2
    go_quiet (fail)
    generalize nq = n0
    clear s1 s2 t
    by_cases hl : q < k.ents.length
    · obtain ⟨xs, ho, hth⟩ := HK.out.e
      have hcap := own_cap ho
      obtain ⟨ge, cap, hv, _, hlt⟩ := ho.form (by omega)
      have hE : E = some ⟨ge, 0, none⟩ := by injection hv
      clear hth hv ho
      obtain ⟨ad, A5, c5, B5, d5, hE2, _, _, _, hcell⟩ := ents_at HK.out.at_.e hl
      have had : ad = ⟨ge, 0, none⟩ := by rw [hE] at hE2; injection hE2 with h; exact h.symm
      subst had
      subst hE
      clear hE2
      have cx : w.cell? ⟨ge, q * 6 + 1, none⟩ = some (.int .i64 (k.ents[q]).term) := by have := hcell 1 _ rfl; rwa [Addr.add_mid, Nat.zero_add] at this
      have HX : Hid ((k.ents[q]).term = r.snp.term → foldedP k r = ({ k with snp := r.snp, ents := k.ents.drop (q + 1) }, 0)) := Lib.hid (fun h => folded_snap_in H1.out HT.out HQ.out hl h)
      have HY : Hid ((k.ents[q]).term ≠ r.snp.term → foldedP k r = ({ k with snp := r.snp, ents := [] }, 0)) := Lib.hid (fun h => folded_snap_out H1.out HT.out HQ.out (.inr ⟨hl, h⟩))
      generalize (k.ents[q]).term = tx at *
      have t : decide ((q : Int) < (k.ents.length : Int)) = true := decide_eq_true (by omega)
      have t' : decide (q < k.ents.length) = true := decide_eq_true hl
      have u0 : (0 : Int) ≤ (q : Int) := Int.natCast_nonneg _
      have u1 : (q : Int) < (k.ents.length : Int) := by omega
      clear hcell
      by_cases htx : tx = r.snp.term
      · have HF := Lib.hid (HX.out htx)
        have t2 : (tx == r.snp.term) = true := by simpa using htx
        clear htx HX HY
        go_wp2_with fail
        go_quiet (fail)
        clear t t' t2 a2 a7 a18 a19 cx
        have HBw : Hid (Below base w ((w.drewN (1 + n0)).drewN nq)) := Lib.hid (((Below.refl base w).dn (1 + n0)).dn nq)
        have HKw : Hid (Keeps [66, 34] w ((w.drewN (1 + n0)).drewN nq)) := Lib.hid ⟨Nat.le_refl _, fun _ _ _ _ => rfl⟩
        have HK2 : Hid (KepAt ((w.drewN (1 + n0)).drewN nq) (Nw ((w.drewN (1 + n0)).drewN nq) base [34, 3]) k A B (some ⟨ge, 0, none⟩)) := Lib.hid (HK.out.keeps (ts := []) (w' := ((w.drewN (1 + n0)).drewN nq)) ⟨Nat.le_refl _, fun _ _ _ _ => rfl⟩ (by simp) (by simp)).at_
        have HB2 : Hid (Blk ((w.drewN (1 + n0)).drewN nq) g 66 [.int .i64 k.term, .int .i64 k.vote, .int .i64 k.snp.idx, .int .i64 k.snp.term, .slice A k.snp.v.length c, .slice B k.snp.l.length d, .string (text k.snp.b), .slice (some ⟨ge, 0, none⟩) k.ents.length n, .int .i64 r.kind, .int .i64 r.term, .int .i64 r.vote, .int .i64 r.ent.idx, .int .i64 r.ent.term, .int .i64 r.ent.kind, .slice A1 r.ent.v.length c1, .slice B1 r.ent.l.length d1, .string (text r.ent.b), .int .i64 r.at_, .int .i64 r.snp.idx, .int .i64 r.snp.term, .slice A2 r.snp.v.length c2, .slice B2 r.snp.l.length d2, .string (text r.snp.b)]) := Lib.hid HB.out
        clear HB HK
        generalize ((w.drewN (1 + n0)).drewN nq) = W at *
        by_cases hc : n = q + 1
        · have hm : k.ents.length = q + 1 := by omega
          have u2 : ((q : Int) + 1) ≤ (k.ents.length : Int) := by omega
          have u3 : (k.ents.length : Int) ≤ (n : Int) := by omega
          have hz : k.ents.drop (q + 1) = [] := List.drop_eq_nil_of_le (by omega)
          rw [hz] at HF
          have b7 : W.cell? ⟨g, 7, none⟩ = some (.slice (some ⟨ge, 0, none⟩) k.ents.length n) := HB2.out.cell 7
          have b18 : W.cell? ⟨g, 18, none⟩ = some (.int .i64 r.snp.idx) := HB2.out.cell 18
          have b19 : W.cell? ⟨g, 19, none⟩ = some (.int .i64 r.snp.term) := HB2.out.cell 19
          have b20 : W.cell? ⟨g, 20, none⟩ = some (.slice A2 r.snp.v.length c2) := HB2.out.cell 20
          have b21 : W.cell? ⟨g, 21, none⟩ = some (.slice B2 r.snp.l.length d2) := HB2.out.cell 21
          have b22 : W.cell? ⟨g, 22, none⟩ = some (.string (text r.snp.b)) := HB2.out.cell 22
          have p7 : W.frozen? ⟨g, 7, none⟩ = false := HB2.out.frozen 7
          go_wp2_with fail
          clear u2 u3 hz p7 b7 b18 b19 b20 b21 b22
          have HBk : Hid (Blk (W.setCell ⟨g, 7, none⟩ (.slice (some ⟨ge, 0, none⟩) 0 0)) g 66 [.int .i64 k.term, .int .i64 k.vote, .int .i64 k.snp.idx, .int .i64 k.snp.term, .slice A k.snp.v.length c, .slice B k.snp.l.length d, .string (text k.snp.b), .slice (some ⟨ge, 0, none⟩) 0 0, .int .i64 r.kind, .int .i64 r.term, .int .i64 r.vote, .int .i64 r.ent.idx, .int .i64 r.ent.term, .int .i64 r.ent.kind, .slice A1 r.ent.v.length c1, .slice B1 r.ent.l.length d1, .string (text r.ent.b), .int .i64 r.at_, .int .i64 r.snp.idx, .int .i64 r.snp.term, .slice A2 r.snp.v.length c2, .slice B2 r.snp.l.length d2, .string (text r.snp.b)]) := Lib.hid (by have := HB2.out.set_ 7 (.slice (some ⟨ge, 0, none⟩) 0 0); simpa using this)
          have HBb : Hid (Below base w (W.setCell ⟨g, 7, none⟩ (.slice (some ⟨ge, 0, none⟩) 0 0))) := Lib.hid (HBw.out.setCell hbg _)
          have KF : Hid (Keeps [66] W (W.setCell ⟨g, 7, none⟩ (.slice (some ⟨ge, 0, none⟩) 0 0))) := Lib.hid (Keeps.set_ HB2.out.typ (by simp) _)
          have HE : Hid (RowsAt (W.setCell ⟨g, 7, none⟩ (.slice (some ⟨ge, 0, none⟩) 0 0)) (Nw (W.setCell ⟨g, 7, none⟩ (.slice (some ⟨ge, 0, none⟩) 0 0)) base [34, 3]) shEntry ((([] : List Ent)).map Ent.da) (some ⟨ge, 0, none⟩)) := Lib.hid (RowsAt.nil)
          have HKx : Hid (Keeps [66, 34] w (W.setCell ⟨g, 7, none⟩ (.slice (some ⟨ge, 0, none⟩) 0 0))) := Lib.hid (HKw.out.trans (KF.out.more (by simp)))
          clear HB2 HBw KF HK2 HKw
          generalize W.setCell ⟨g, 7, none⟩ (.slice (some ⟨ge, 0, none⟩) 0 0) = V at *
          refine (ownSnap_any r.snp A2 c2 B2 d2 _ ((HV.out.below HBb.out).more (by have := HBb.out.size; have := HBk.out.lt; omega)) ((HL.out.below HBb.out).more (by have := HBb.out.size; have := HBk.out.lt; omega)) (by have := HS.out.v; omega) (by have := HS.out.l; omega)).mono ?_
          rintro e w3 ⟨A4, c4, B4, d4, rfl, hr3, hr4, hbl⟩
          unfold Snp.cs
          have q7 := HBk.out.lt
          have R0 := Lib.hid (HBk.out.below hbl q7)
          have HB3 := Lib.hid (HBb.out.trans (hbl.mono (by omega)))
          have HE3 := Lib.hid (HE.out.nw_below hbl)
          have HR3 := Lib.hid (hr3.nw_mono (base' := base) (by omega) fun _ h => h)
          have HR4 := Lib.hid (hr4.nw_mono (base' := base) (by omega) fun _ h => h)
          have HK3 : Hid (Keeps [66, 34] w w3) := Lib.hid (HKx.out.trans (Keeps.of_below hbl (Nat.le_refl _)))
          clear hr3 hr4 hbl HBk HBb HE HKx
          have b2 : w3.cell? ⟨g, 2, none⟩ = some (.int .i64 k.snp.idx) := R0.out.cell 2
          have b3 : w3.cell? ⟨g, 3, none⟩ = some (.int .i64 k.snp.term) := R0.out.cell 3
          have b4 : w3.cell? ⟨g, 4, none⟩ = some (.slice A k.snp.v.length c) := R0.out.cell 4
          have b5 : w3.cell? ⟨g, 5, none⟩ = some (.slice B k.snp.l.length d) := R0.out.cell 5
          have b6 : w3.cell? ⟨g, 6, none⟩ = some (.string (text k.snp.b)) := R0.out.cell 6
          have f2 : w3.frozen? ⟨g, 2, none⟩ = false := R0.out.frozen 2
          have f3 : w3.frozen? ⟨g, 3, none⟩ = false := R0.out.frozen 3
          have f4 : w3.frozen? ⟨g, 4, none⟩ = false := R0.out.frozen 4
          have f5 : w3.frozen? ⟨g, 5, none⟩ = false := R0.out.frozen 5
          have f6 : w3.frozen? ⟨g, 6, none⟩ = false := R0.out.frozen 6
          go_wp2
          go_end0
          have KZ : Keeps [66] w3 (((((w3.setCell ⟨g, 2, none⟩ (.int .i64 r.snp.idx)).setCell ⟨g, 3, none⟩ (.int .i64 r.snp.term)).setCell ⟨g, 4, none⟩ (.slice A4 r.snp.v.length c4)).setCell ⟨g, 5, none⟩ (.slice B4 r.snp.l.length d4)).setCell ⟨g, 6, none⟩ (.string (text r.snp.b))) := (by repeat (first | with_reducible exact Keeps.refl _ _ | (with_reducible refine Keeps.step1 ?_ (by repeat (first | with_reducible exact Blk.typ R0.out | with_reducible refine TypeAt.setCell ?_ _ _)))))
          refine FoldEnd.good { k with snp := r.snp, ents := ([] : List Ent) } A4 c4 B4 d4 (some ⟨ge, 0, none⟩) (0) HF.out rfl ?_ ⟨?_, ?_, ?_⟩ ?_ (HK3.out.trans (KZ.more (by simp)))
          · have := R0.out.set_ 2 (.int .i64 r.snp.idx) |>.set_ 3 (.int .i64 r.snp.term) |>.set_ 4 (.slice A4 r.snp.v.length c4) |>.set_ 5 (.slice B4 r.snp.l.length d4) |>.set_ 6 (.string (text r.snp.b))
            unfold foldCs
            simpa using this
          · exact (HR3.out.nw_keeps KZ (by decide)).nw_mono (Nat.le_refl _) (by simp)
          · exact (HR4.out.nw_keeps KZ (by decide)).nw_mono (Nat.le_refl _) (by simp)
          · exact HE3.out.nw_keeps KZ (by decide)
          · exact (by repeat (first | with_reducible exact HB3.out | (with_reducible refine Below.setCell ?_ (by dsimp only; (first | omega | (simp; done) | (simp; omega))) _) | (with_reducible refine Below.alloc ?_ (by (first | omega | (simp; done) | (simp; omega))) _) | with_reducible refine Below.drew ?_))
        · have u2 : ((q : Int) + 1) ≤ (k.ents.length : Int) := by omega
          have u3 : (k.ents.length : Int) ≤ (n : Int) := by omega
          have b7 : W.cell? ⟨g, 7, none⟩ = some (.slice (some ⟨ge, 0, none⟩) k.ents.length n) := HB2.out.cell 7
          have b18 : W.cell? ⟨g, 18, none⟩ = some (.int .i64 r.snp.idx) := HB2.out.cell 18
          have b19 : W.cell? ⟨g, 19, none⟩ = some (.int .i64 r.snp.term) := HB2.out.cell 19
          have b20 : W.cell? ⟨g, 20, none⟩ = some (.slice A2 r.snp.v.length c2) := HB2.out.cell 20
          have b21 : W.cell? ⟨g, 21, none⟩ = some (.slice B2 r.snp.l.length d2) := HB2.out.cell 21
          have b22 : W.cell? ⟨g, 22, none⟩ = some (.string (text r.snp.b)) := HB2.out.cell 22
          have p7 : W.frozen? ⟨g, 7, none⟩ = false := HB2.out.frozen 7
          go_wp2_with fail
          clear u2 u3 hc p7 b7 b18 b19 b20 b21 b22
          have HBk : Hid (Blk (W.setCell ⟨g, 7, none⟩ (.slice (some ⟨ge, (q + 1) * 6, none⟩) (k.ents.length - (q + 1)) (n - (q + 1)))) g 66 [.int .i64 k.term, .int .i64 k.vote, .int .i64 k.snp.idx, .int .i64 k.snp.term, .slice A k.snp.v.length c, .slice B k.snp.l.length d, .string (text k.snp.b), .slice (some ⟨ge, (q + 1) * 6, none⟩) (k.ents.length - (q + 1)) (n - (q + 1)), .int .i64 r.kind, .int .i64 r.term, .int .i64 r.vote, .int .i64 r.ent.idx, .int .i64 r.ent.term, .int .i64 r.ent.kind, .slice A1 r.ent.v.length c1, .slice B1 r.ent.l.length d1, .string (text r.ent.b), .int .i64 r.at_, .int .i64 r.snp.idx, .int .i64 r.snp.term, .slice A2 r.snp.v.length c2, .slice B2 r.snp.l.length d2, .string (text r.snp.b)]) := Lib.hid (by have := HB2.out.set_ 7 (.slice (some ⟨ge, (q + 1) * 6, none⟩) (k.ents.length - (q + 1)) (n - (q + 1))); simpa using this)
          have HBb : Hid (Below base w (W.setCell ⟨g, 7, none⟩ (.slice (some ⟨ge, (q + 1) * 6, none⟩) (k.ents.length - (q + 1)) (n - (q + 1))))) := Lib.hid (HBw.out.setCell hbg _)
          have KF : Hid (Keeps [66] W (W.setCell ⟨g, 7, none⟩ (.slice (some ⟨ge, (q + 1) * 6, none⟩) (k.ents.length - (q + 1)) (n - (q + 1))))) := Lib.hid (Keeps.set_ HB2.out.typ (by simp) _)
          have HE : Hid (RowsAt (W.setCell ⟨g, 7, none⟩ (.slice (some ⟨ge, (q + 1) * 6, none⟩) (k.ents.length - (q + 1)) (n - (q + 1)))) (Nw (W.setCell ⟨g, 7, none⟩ (.slice (some ⟨ge, (q + 1) * 6, none⟩) (k.ents.length - (q + 1)) (n - (q + 1)))) base [34, 3]) shEntry ((k.ents.drop (q + 1)).map Ent.da) (some ⟨ge, (q + 1) * 6, none⟩)) := Lib.hid (by have := (HK2.out.e.drop_ (q + 1)).nw_keeps KF.out (by decide); rw [List.map_drop]; exact this)
          have HKx : Hid (Keeps [66, 34] w (W.setCell ⟨g, 7, none⟩ (.slice (some ⟨ge, (q + 1) * 6, none⟩) (k.ents.length - (q + 1)) (n - (q + 1))))) := Lib.hid (HKw.out.trans (KF.out.more (by simp)))
          clear HB2 HBw KF HK2 HKw
          generalize W.setCell ⟨g, 7, none⟩ (.slice (some ⟨ge, (q + 1) * 6, none⟩) (k.ents.length - (q + 1)) (n - (q + 1))) = V at *
          refine (ownSnap_any r.snp A2 c2 B2 d2 _ ((HV.out.below HBb.out).more (by have := HBb.out.size; have := HBk.out.lt; omega)) ((HL.out.below HBb.out).more (by have := HBb.out.size; have := HBk.out.lt; omega)) (by have := HS.out.v; omega) (by have := HS.out.l; omega)).mono ?_
          rintro e w3 ⟨A4, c4, B4, d4, rfl, hr3, hr4, hbl⟩
          unfold Snp.cs
          have q7 := HBk.out.lt
          have R0 := Lib.hid (HBk.out.below hbl q7)
          have HB3 := Lib.hid (HBb.out.trans (hbl.mono (by omega)))
          have HE3 := Lib.hid (HE.out.nw_below hbl)
          have HR3 := Lib.hid (hr3.nw_mono (base' := base) (by omega) fun _ h => h)
          have HR4 := Lib.hid (hr4.nw_mono (base' := base) (by omega) fun _ h => h)
          have HK3 : Hid (Keeps [66, 34] w w3) := Lib.hid (HKx.out.trans (Keeps.of_below hbl (Nat.le_refl _)))
          clear hr3 hr4 hbl HBk HBb HE HKx
          have b2 : w3.cell? ⟨g, 2, none⟩ = some (.int .i64 k.snp.idx) := R0.out.cell 2
          have b3 : w3.cell? ⟨g, 3, none⟩ = some (.int .i64 k.snp.term) := R0.out.cell 3
          have b4 : w3.cell? ⟨g, 4, none⟩ = some (.slice A k.snp.v.length c) := R0.out.cell 4
          have b5 : w3.cell? ⟨g, 5, none⟩ = some (.slice B k.snp.l.length d) := R0.out.cell 5
          have b6 : w3.cell? ⟨g, 6, none⟩ = some (.string (text k.snp.b)) := R0.out.cell 6
          have f2 : w3.frozen? ⟨g, 2, none⟩ = false := R0.out.frozen 2
          have f3 : w3.frozen? ⟨g, 3, none⟩ = false := R0.out.frozen 3
          have f4 : w3.frozen? ⟨g, 4, none⟩ = false := R0.out.frozen 4
          have f5 : w3.frozen? ⟨g, 5, none⟩ = false := R0.out.frozen 5
          have f6 : w3.frozen? ⟨g, 6, none⟩ = false := R0.out.frozen 6
          go_wp2
          go_end0
          have KZ : Keeps [66] w3 (((((w3.setCell ⟨g, 2, none⟩ (.int .i64 r.snp.idx)).setCell ⟨g, 3, none⟩ (.int .i64 r.snp.term)).setCell ⟨g, 4, none⟩ (.slice A4 r.snp.v.length c4)).setCell ⟨g, 5, none⟩ (.slice B4 r.snp.l.length d4)).setCell ⟨g, 6, none⟩ (.string (text r.snp.b))) := (by repeat (first | with_reducible exact Keeps.refl _ _ | (with_reducible refine Keeps.step1 ?_ (by repeat (first | with_reducible exact Blk.typ R0.out | with_reducible refine TypeAt.setCell ?_ _ _)))))
          refine FoldEnd.good { k with snp := r.snp, ents := k.ents.drop (q + 1) } A4 c4 B4 d4 (some ⟨ge, (q + 1) * 6, none⟩) (n - (q + 1)) HF.out rfl ?_ ⟨?_, ?_, ?_⟩ ?_ (HK3.out.trans (KZ.more (by simp)))
          · have := R0.out.set_ 2 (.int .i64 r.snp.idx) |>.set_ 3 (.int .i64 r.snp.term) |>.set_ 4 (.slice A4 r.snp.v.length c4) |>.set_ 5 (.slice B4 r.snp.l.length d4) |>.set_ 6 (.string (text r.snp.b))
            unfold foldCs
            simpa using this
          · exact (HR3.out.nw_keeps KZ (by decide)).nw_mono (Nat.le_refl _) (by simp)
          · exact (HR4.out.nw_keeps KZ (by decide)).nw_mono (Nat.le_refl _) (by simp)
          · exact HE3.out.nw_keeps KZ (by decide)
          · exact (by repeat (first | with_reducible exact HB3.out | (with_reducible refine Below.setCell ?_ (by dsimp only; (first | omega | (simp; done) | (simp; omega))) _) | (with_reducible refine Below.alloc ?_ (by (first | omega | (simp; done) | (simp; omega))) _) | with_reducible refine Below.drew ?_))
      · have HF := Lib.hid (HY.out htx)
        have t2 : (tx == r.snp.term) = false := by simpa using htx
        clear htx HX HY
        go_wp2_with fail
        go_quiet (fail)
        clear t t' t2 a2 a7 a18 a19 cx
        have HBw : Hid (Below base w ((w.drewN (1 + n0)).drewN nq)) := Lib.hid (((Below.refl base w).dn (1 + n0)).dn nq)
        have HKw : Hid (Keeps [66, 34] w ((w.drewN (1 + n0)).drewN nq)) := Lib.hid ⟨Nat.le_refl _, fun _ _ _ _ => rfl⟩
        have HK2 : Hid (KepAt ((w.drewN (1 + n0)).drewN nq) (Nw ((w.drewN (1 + n0)).drewN nq) base [34, 3]) k A B (some ⟨ge, 0, none⟩)) := Lib.hid (HK.out.keeps (ts := []) (w' := ((w.drewN (1 + n0)).drewN nq)) ⟨Nat.le_refl _, fun _ _ _ _ => rfl⟩ (by simp) (by simp)).at_
        have HB2 : Hid (Blk ((w.drewN (1 + n0)).drewN nq) g 66 [.int .i64 k.term, .int .i64 k.vote, .int .i64 k.snp.idx, .int .i64 k.snp.term, .slice A k.snp.v.length c, .slice B k.snp.l.length d, .string (text k.snp.b), .slice (some ⟨ge, 0, none⟩) k.ents.length n, .int .i64 r.kind, .int .i64 r.term, .int .i64 r.vote, .int .i64 r.ent.idx, .int .i64 r.ent.term, .int .i64 r.ent.kind, .slice A1 r.ent.v.length c1, .slice B1 r.ent.l.length d1, .string (text r.ent.b), .int .i64 r.at_, .int .i64 r.snp.idx, .int .i64 r.snp.term, .slice A2 r.snp.v.length c2, .slice B2 r.snp.l.length d2, .string (text r.snp.b)]) := Lib.hid HB.out
        clear HB HK
        generalize ((w.drewN (1 + n0)).drewN nq) = W at *
        have b7 : W.cell? ⟨g, 7, none⟩ = some (.slice (some ⟨ge, 0, none⟩) k.ents.length n) := HB2.out.cell 7
        have b18 : W.cell? ⟨g, 18, none⟩ = some (.int .i64 r.snp.idx) := HB2.out.cell 18
        have b19 : W.cell? ⟨g, 19, none⟩ = some (.int .i64 r.snp.term) := HB2.out.cell 19
        have b20 : W.cell? ⟨g, 20, none⟩ = some (.slice A2 r.snp.v.length c2) := HB2.out.cell 20
        have b21 : W.cell? ⟨g, 21, none⟩ = some (.slice B2 r.snp.l.length d2) := HB2.out.cell 21
        have b22 : W.cell? ⟨g, 22, none⟩ = some (.string (text r.snp.b)) := HB2.out.cell 22
        have p7 : W.frozen? ⟨g, 7, none⟩ = false := HB2.out.frozen 7
        go_wp2_with fail
        clear p7 b7 b18 b19 b20 b21 b22
        have HBk : Hid (Blk (W.setCell ⟨g, 7, none⟩ (.slice none 0 0)) g 66 [.int .i64 k.term, .int .i64 k.vote, .int .i64 k.snp.idx, .int .i64 k.snp.term, .slice A k.snp.v.length c, .slice B k.snp.l.length d, .string (text k.snp.b), .slice none 0 0, .int .i64 r.kind, .int .i64 r.term, .int .i64 r.vote, .int .i64 r.ent.idx, .int .i64 r.ent.term, .int .i64 r.ent.kind, .slice A1 r.ent.v.length c1, .slice B1 r.ent.l.length d1, .string (text r.ent.b), .int .i64 r.at_, .int .i64 r.snp.idx, .int .i64 r.snp.term, .slice A2 r.snp.v.length c2, .slice B2 r.snp.l.length d2, .string (text r.snp.b)]) := Lib.hid (by have := HB2.out.set_ 7 (.slice none 0 0); simpa using this)
        have HBb : Hid (Below base w (W.setCell ⟨g, 7, none⟩ (.slice none 0 0))) := Lib.hid (HBw.out.setCell hbg _)
        have KF : Hid (Keeps [66] W (W.setCell ⟨g, 7, none⟩ (.slice none 0 0))) := Lib.hid (Keeps.set_ HB2.out.typ (by simp) _)
        have HE : Hid (RowsAt (W.setCell ⟨g, 7, none⟩ (.slice none 0 0)) (Nw (W.setCell ⟨g, 7, none⟩ (.slice none 0 0)) base [34, 3]) shEntry ((([] : List Ent)).map Ent.da) (none)) := Lib.hid (RowsAt.nil)
        have HKx : Hid (Keeps [66, 34] w (W.setCell ⟨g, 7, none⟩ (.slice none 0 0))) := Lib.hid (HKw.out.trans (KF.out.more (by simp)))
        clear HB2 HBw KF HK2 HKw
        generalize W.setCell ⟨g, 7, none⟩ (.slice none 0 0) = V at *
        refine (ownSnap_any r.snp A2 c2 B2 d2 _ ((HV.out.below HBb.out).more (by have := HBb.out.size; have := HBk.out.lt; omega)) ((HL.out.below HBb.out).more (by have := HBb.out.size; have := HBk.out.lt; omega)) (by have := HS.out.v; omega) (by have := HS.out.l; omega)).mono ?_
        rintro e w3 ⟨A4, c4, B4, d4, rfl, hr3, hr4, hbl⟩
        unfold Snp.cs
        have q7 := HBk.out.lt
        have R0 := Lib.hid (HBk.out.below hbl q7)
        have HB3 := Lib.hid (HBb.out.trans (hbl.mono (by omega)))
        have HE3 := Lib.hid (HE.out.nw_below hbl)
        have HR3 := Lib.hid (hr3.nw_mono (base' := base) (by omega) fun _ h => h)
        have HR4 := Lib.hid (hr4.nw_mono (base' := base) (by omega) fun _ h => h)
        have HK3 : Hid (Keeps [66, 34] w w3) := Lib.hid (HKx.out.trans (Keeps.of_below hbl (Nat.le_refl _)))
        clear hr3 hr4 hbl HBk HBb HE HKx
        have b2 : w3.cell? ⟨g, 2, none⟩ = some (.int .i64 k.snp.idx) := R0.out.cell 2
        have b3 : w3.cell? ⟨g, 3, none⟩ = some (.int .i64 k.snp.term) := R0.out.cell 3
        have b4 : w3.cell? ⟨g, 4, none⟩ = some (.slice A k.snp.v.length c) := R0.out.cell 4
        have b5 : w3.cell? ⟨g, 5, none⟩ = some (.slice B k.snp.l.length d) := R0.out.cell 5
        have b6 : w3.cell? ⟨g, 6, none⟩ = some (.string (text k.snp.b)) := R0.out.cell 6
        have f2 : w3.frozen? ⟨g, 2, none⟩ = false := R0.out.frozen 2
        have f3 : w3.frozen? ⟨g, 3, none⟩ = false := R0.out.frozen 3
        have f4 : w3.frozen? ⟨g, 4, none⟩ = false := R0.out.frozen 4
        have f5 : w3.frozen? ⟨g, 5, none⟩ = false := R0.out.frozen 5
        have f6 : w3.frozen? ⟨g, 6, none⟩ = false := R0.out.frozen 6
        go_wp2
        go_end0
        have KZ : Keeps [66] w3 (((((w3.setCell ⟨g, 2, none⟩ (.int .i64 r.snp.idx)).setCell ⟨g, 3, none⟩ (.int .i64 r.snp.term)).setCell ⟨g, 4, none⟩ (.slice A4 r.snp.v.length c4)).setCell ⟨g, 5, none⟩ (.slice B4 r.snp.l.length d4)).setCell ⟨g, 6, none⟩ (.string (text r.snp.b))) := (by repeat (first | with_reducible exact Keeps.refl _ _ | (with_reducible refine Keeps.step1 ?_ (by repeat (first | with_reducible exact Blk.typ R0.out | with_reducible refine TypeAt.setCell ?_ _ _)))))
        refine FoldEnd.good { k with snp := r.snp, ents := ([] : List Ent) } A4 c4 B4 d4 (none) (0) HF.out rfl ?_ ⟨?_, ?_, ?_⟩ ?_ (HK3.out.trans (KZ.more (by simp)))
        · have := R0.out.set_ 2 (.int .i64 r.snp.idx) |>.set_ 3 (.int .i64 r.snp.term) |>.set_ 4 (.slice A4 r.snp.v.length c4) |>.set_ 5 (.slice B4 r.snp.l.length d4) |>.set_ 6 (.string (text r.snp.b))
          unfold foldCs
          simpa using this
        · exact (HR3.out.nw_keeps KZ (by decide)).nw_mono (Nat.le_refl _) (by simp)
        · exact (HR4.out.nw_keeps KZ (by decide)).nw_mono (Nat.le_refl _) (by simp)
        · exact HE3.out.nw_keeps KZ (by decide)
        · exact (by repeat (first | with_reducible exact HB3.out | (with_reducible refine Below.setCell ?_ (by dsimp only; (first | omega | (simp; done) | (simp; omega))) _) | (with_reducible refine Below.alloc ?_ (by (first | omega | (simp; done) | (simp; omega))) _) | with_reducible refine Below.drew ?_))
    · have HF := Lib.hid (folded_snap_out (k := k) H1.out HT.out HQ.out (.inl hl))
      have t : decide ((q : Int) < (k.ents.length : Int)) = false := decide_eq_false (by omega)
      have t' : decide (q < k.ents.length) = false := decide_eq_false hl
      clear hl
      go_wp2_with fail
      go_quiet (fail)
      clear t t' a2 a7 a18 a19
      have HBw : Hid (Below base w ((w.drew.drewN n0).drewN nq)) := Lib.hid (((Below.refl base w).drew.dn n0).dn nq)
      have HKw : Hid (Keeps [66, 34] w ((w.drew.drewN n0).drewN nq)) := Lib.hid ⟨Nat.le_refl _, fun _ _ _ _ => rfl⟩
      have HK2 : Hid (KepAt ((w.drew.drewN n0).drewN nq) (Nw ((w.drew.drewN n0).drewN nq) base [34, 3]) k A B E) := Lib.hid (HK.out.keeps (ts := []) (w' := ((w.drew.drewN n0).drewN nq)) ⟨Nat.le_refl _, fun _ _ _ _ => rfl⟩ (by simp) (by simp)).at_
      have HB2 : Hid (Blk ((w.drew.drewN n0).drewN nq) g 66 [.int .i64 k.term, .int .i64 k.vote, .int .i64 k.snp.idx, .int .i64 k.snp.term, .slice A k.snp.v.length c, .slice B k.snp.l.length d, .string (text k.snp.b), .slice E k.ents.length n, .int .i64 r.kind, .int .i64 r.term, .int .i64 r.vote, .int .i64 r.ent.idx, .int .i64 r.ent.term, .int .i64 r.ent.kind, .slice A1 r.ent.v.length c1, .slice B1 r.ent.l.length d1, .string (text r.ent.b), .int .i64 r.at_, .int .i64 r.snp.idx, .int .i64 r.snp.term, .slice A2 r.snp.v.length c2, .slice B2 r.snp.l.length d2, .string (text r.snp.b)]) := Lib.hid HB.out
      clear HB HK
      generalize ((w.drew.drewN n0).drewN nq) = W at *
      have b7 : W.cell? ⟨g, 7, none⟩ = some (.slice E k.ents.length n) := HB2.out.cell 7
      have b18 : W.cell? ⟨g, 18, none⟩ = some (.int .i64 r.snp.idx) := HB2.out.cell 18
      have b19 : W.cell? ⟨g, 19, none⟩ = some (.int .i64 r.snp.term) := HB2.out.cell 19
      have b20 : W.cell? ⟨g, 20, none⟩ = some (.slice A2 r.snp.v.length c2) := HB2.out.cell 20
      have b21 : W.cell? ⟨g, 21, none⟩ = some (.slice B2 r.snp.l.length d2) := HB2.out.cell 21
      have b22 : W.cell? ⟨g, 22, none⟩ = some (.string (text r.snp.b)) := HB2.out.cell 22
      have p7 : W.frozen? ⟨g, 7, none⟩ = false := HB2.out.frozen 7
      go_wp2_with fail
      clear p7 b7 b18 b19 b20 b21 b22
      have HBk : Hid (Blk (W.setCell ⟨g, 7, none⟩ (.slice none 0 0)) g 66 [.int .i64 k.term, .int .i64 k.vote, .int .i64 k.snp.idx, .int .i64 k.snp.term, .slice A k.snp.v.length c, .slice B k.snp.l.length d, .string (text k.snp.b), .slice none 0 0, .int .i64 r.kind, .int .i64 r.term, .int .i64 r.vote, .int .i64 r.ent.idx, .int .i64 r.ent.term, .int .i64 r.ent.kind, .slice A1 r.ent.v.length c1, .slice B1 r.ent.l.length d1, .string (text r.ent.b), .int .i64 r.at_, .int .i64 r.snp.idx, .int .i64 r.snp.term, .slice A2 r.snp.v.length c2, .slice B2 r.snp.l.length d2, .string (text r.snp.b)]) := Lib.hid (by have := HB2.out.set_ 7 (.slice none 0 0); simpa using this)
      have HBb : Hid (Below base w (W.setCell ⟨g, 7, none⟩ (.slice none 0 0))) := Lib.hid (HBw.out.setCell hbg _)
      have KF : Hid (Keeps [66] W (W.setCell ⟨g, 7, none⟩ (.slice none 0 0))) := Lib.hid (Keeps.set_ HB2.out.typ (by simp) _)
      have HE : Hid (RowsAt (W.setCell ⟨g, 7, none⟩ (.slice none 0 0)) (Nw (W.setCell ⟨g, 7, none⟩ (.slice none 0 0)) base [34, 3]) shEntry ((([] : List Ent)).map Ent.da) (none)) := Lib.hid (RowsAt.nil)
      have HKx : Hid (Keeps [66, 34] w (W.setCell ⟨g, 7, none⟩ (.slice none 0 0))) := Lib.hid (HKw.out.trans (KF.out.more (by simp)))
      clear HB2 HBw KF HK2 HKw
      generalize W.setCell ⟨g, 7, none⟩ (.slice none 0 0) = V at *
      refine (ownSnap_any r.snp A2 c2 B2 d2 _ ((HV.out.below HBb.out).more (by have := HBb.out.size; have := HBk.out.lt; omega)) ((HL.out.below HBb.out).more (by have := HBb.out.size; have := HBk.out.lt; omega)) (by have := HS.out.v; omega) (by have := HS.out.l; omega)).mono ?_
      rintro e w3 ⟨A4, c4, B4, d4, rfl, hr3, hr4, hbl⟩
      unfold Snp.cs
      have q7 := HBk.out.lt
      have R0 := Lib.hid (HBk.out.below hbl q7)
      have HB3 := Lib.hid (HBb.out.trans (hbl.mono (by omega)))
      have HE3 := Lib.hid (HE.out.nw_below hbl)
      have HR3 := Lib.hid (hr3.nw_mono (base' := base) (by omega) fun _ h => h)
      have HR4 := Lib.hid (hr4.nw_mono (base' := base) (by omega) fun _ h => h)
      have HK3 : Hid (Keeps [66, 34] w w3) := Lib.hid (HKx.out.trans (Keeps.of_below hbl (Nat.le_refl _)))
      clear hr3 hr4 hbl HBk HBb HE HKx
      have b2 : w3.cell? ⟨g, 2, none⟩ = some (.int .i64 k.snp.idx) := R0.out.cell 2
      have b3 : w3.cell? ⟨g, 3, none⟩ = some (.int .i64 k.snp.term) := R0.out.cell 3
      have b4 : w3.cell? ⟨g, 4, none⟩ = some (.slice A k.snp.v.length c) := R0.out.cell 4
      have b5 : w3.cell? ⟨g, 5, none⟩ = some (.slice B k.snp.l.length d) := R0.out.cell 5
      have b6 : w3.cell? ⟨g, 6, none⟩ = some (.string (text k.snp.b)) := R0.out.cell 6
      have f2 : w3.frozen? ⟨g, 2, none⟩ = false := R0.out.frozen 2
      have f3 : w3.frozen? ⟨g, 3, none⟩ = false := R0.out.frozen 3
      have f4 : w3.frozen? ⟨g, 4, none⟩ = false := R0.out.frozen 4
      have f5 : w3.frozen? ⟨g, 5, none⟩ = false := R0.out.frozen 5
      have f6 : w3.frozen? ⟨g, 6, none⟩ = false := R0.out.frozen 6
      go_wp2
      go_end0
      have KZ : Keeps [66] w3 (((((w3.setCell ⟨g, 2, none⟩ (.int .i64 r.snp.idx)).setCell ⟨g, 3, none⟩ (.int .i64 r.snp.term)).setCell ⟨g, 4, none⟩ (.slice A4 r.snp.v.length c4)).setCell ⟨g, 5, none⟩ (.slice B4 r.snp.l.length d4)).setCell ⟨g, 6, none⟩ (.string (text r.snp.b))) := (by repeat (first | with_reducible exact Keeps.refl _ _ | (with_reducible refine Keeps.step1 ?_ (by repeat (first | with_reducible exact Blk.typ R0.out | with_reducible refine TypeAt.setCell ?_ _ _)))))
      refine FoldEnd.good { k with snp := r.snp, ents := ([] : List Ent) } A4 c4 B4 d4 (none) (0) HF.out rfl ?_ ⟨?_, ?_, ?_⟩ ?_ (HK3.out.trans (KZ.more (by simp)))
      · have := R0.out.set_ 2 (.int .i64 r.snp.idx) |>.set_ 3 (.int .i64 r.snp.term) |>.set_ 4 (.slice A4 r.snp.v.length c4) |>.set_ 5 (.slice B4 r.snp.l.length d4) |>.set_ 6 (.string (text r.snp.b))
        unfold foldCs
        simpa using this
      · exact (HR3.out.nw_keeps KZ (by decide)).nw_mono (Nat.le_refl _) (by simp)
      · exact (HR4.out.nw_keeps KZ (by decide)).nw_mono (Nat.le_refl _) (by simp)
      · exact HE3.out.nw_keeps KZ (by decide)
      · exact (by repeat (first | with_reducible exact HB3.out | (with_reducible refine Below.setCell ?_ (by dsimp only; (first | omega | (simp; done) | (simp; omega))) _) | (with_reducible refine Below.alloc ?_ (by (first | omega | (simp; done) | (simp; omega))) _) | with_reducible refine Below.drew ?_))
end Go.Proofs.Ytkdmfjpfanmgmaa
