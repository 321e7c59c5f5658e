/- The walk of the reference's Fold. Printed by mkfold24.py. -/
import Derived.Test.YtkdmfjpfanmgmaaFold23
import Derived.Test.YtkdmfjpfanmgmaaFold13
import Derived.Test.YtkdmfjpfanmgmaaFold15
import Derived.Deep.RegionLaw
namespace Go.Proofs.Ytkdmfjpfanmgmaa
open Go.RowKit Le
set_option maxRecDepth 100000
set_option linter.unusedSimpArgs false
set_option linter.unusedVariables false

theorem rRight_lit (k : Kep) (A : Option Addr) (c : Nat) (B : Option Addr) (d : Nat) (E : Option Addr) (n : Nat) (w : World) (h : KepAt w (· < w.heap.size) k A B E) (hs : k.Small) :
    Calls Try.prog 17 #[.agg #[.int .i64 k.term, .int .i64 k.vote, .int .i64 k.snp.idx, .int .i64 k.snp.term, .slice A k.snp.v.length c, .slice B k.snp.l.length d, .string (text k.snp.b), .slice E k.ents.length n]] w (TestEnd w (rightP k)) := rRight_any k A c B d E n w h hs
theorem May_lit (r : Rcd) (A1 : Option Addr) (c1 : Nat) (B1 : Option Addr) (d1 : Nat) (A2 : Option Addr) (c2 : Nat) (B2 : Option Addr) (d2 : Nat) (w : World) (h : RcdAt' w (· < w.heap.size) r A1 B1 A2 B2) (hs : r.Small) :
    Calls Try.prog 19 #[.agg #[.int .i64 r.kind, .int .i64 r.term, .int .i64 r.vote, .int .i64 r.ent.idx, .int .i64 r.ent.term, .int .i64 r.ent.kind, .slice A1 r.ent.v.length c1, .slice B1 r.ent.l.length d1, .string (text r.ent.b), .int .i64 r.at_, .int .i64 r.snp.idx, .int .i64 r.snp.term, .slice A2 r.snp.v.length c2, .slice B2 r.snp.l.length d2, .string (text r.snp.b)]] w (TestEnd w (mayP r)) := May_any r A1 c1 B1 d1 A2 c2 B2 d2 w h hs
theorem mayP_put {r : Rcd} (h : mayP r = true) : putE r = 0 := by
  unfold mayP at h
  simp only [Bool.and_eq_true, beq_iff_eq] at h
  exact h.1
set_option maxHeartbeats 3200000 in
theorem rFold_any (k : Kep) (r : Rcd) (A : Option Addr) (c : Nat) (B : Option Addr) (d : Nat) (E : Option Addr) (n : Nat) (A1 : Option Addr) (c1 : Nat) (B1 : Option Addr) (d1 : Nat) (A2 : Option Addr) (c2 : Nat) (B2 : Option Addr) (d2 : Nat) (w : World) (hK : KepAt w (· < w.heap.size) k A B E) (hA : RcdAt' w (· < w.heap.size) r A1 B1 A2 B2) (hks : k.Small) (hs : r.Small) :
    Calls Try.prog 8 #[.agg (k.cs A c B d E n).toArray, .agg (r.cs A1 c1 B1 d1 A2 c2 B2 d2).toArray] w (FoldsEnd w (foldP k r)) := by
  unfold Kep.cs Rcd.cs
  have HK := Lib.hid hK
  have HA := Lib.hid hA
  have HKS := Lib.hid hks
  have HS := Lib.hid hs
  clear hK hA hs hks
  have HI : Hid ((Try.prog.info? 30).map (·.size) = some 8) := Lib.hid (by kernel_rfl)
  have HI2 : Hid ((Try.prog.info? 36).map (·.size) = some 15) := Lib.hid (by kernel_rfl)
  go_enter Try.func8, Try.ntmps8
  go_wp2_with fail
  refine at_world _ fun W hW => ?_
  obtain ⟨P0, P1, P2, hbW, hsW⟩ := blk3w w 30 36 30 [.int .i64 k.term, .int .i64 k.vote, .int .i64 k.snp.idx, .int .i64 k.snp.term, .slice A k.snp.v.length c, .slice B k.snp.l.length d, .string (text k.snp.b), .slice E k.ents.length n] [.int .i64 r.kind, .int .i64 r.term, .int .i64 r.vote, .int .i64 r.ent.idx, .int .i64 r.ent.term, .int .i64 r.ent.kind, .slice A1 r.ent.v.length c1, .slice B1 r.ent.l.length d1, .string (text r.ent.b), .int .i64 r.at_, .int .i64 r.snp.idx, .int .i64 r.snp.term, .slice A2 r.snp.v.length c2, .slice B2 r.snp.l.length d2, .string (text r.snp.b)] [.int .i64 0, .int .i64 0, .int .i64 0, .int .i64 0, .slice none 0 0, .slice none 0 0, .string ⟨#[]⟩, .slice none 0 0] W hW
  clear hW
  refine (rRight_lit k A c B d E n W ((HK.out.below hbW).more (by omega)) HKS.out).mono ?_
  rintro e w1 ⟨rfl, hb⟩
  have R0 := Lib.hid (P0.below hb P0.lt)
  have R1 := Lib.hid (P1.below hb P1.lt)
  have R2 := Lib.hid (P2.below hb P2.lt)
  have HB : Hid (Below w.heap.size w w1) := Lib.hid (hbW.trans (hb.mono (by omega)))
  have HZ : Hid (w.heap.size + 1 + 1 + 1 ≤ w1.heap.size) := Lib.hid (by have := hb.size; omega)
  clear hb hbW hsW P0 P1 P2
  by_cases hr : rightP k = true
  · have HR := Lib.hid hr
    rw [hr]
    clear hr
    go_wp2_with (first
      | (with_reducible refine wpList_load_blk rfl 36 _ rfl (w.heap.size + 1) rfl R1 (by simp) Try.underlying36 rfl HI2 ?_))
    refine (May_lit r A1 c1 B1 d1 A2 c2 B2 d2 w1 ((HA.out.below HB.out).more (by have := HZ.out; omega)) HS.out).mono ?_
    rintro e w2 ⟨rfl, hb⟩
    have S0 := Lib.hid (R0.out.below hb R0.out.lt)
    have S1 := Lib.hid (R1.out.below hb R1.out.lt)
    have S2 := Lib.hid (R2.out.below hb R2.out.lt)
    have HB' : Hid (Below w.heap.size w w2) := Lib.hid (HB.out.trans (hb.mono (by have := HZ.out; omega)))
    have HZ' : Hid (w.heap.size + 1 + 1 + 1 ≤ w2.heap.size) := Lib.hid (by have := hb.size; have := HZ.out; omega)
    clear hb R0 R1 R2 HB HZ
    have HB := HB'
    have HZ := HZ'
    clear HB' HZ'
    by_cases hm : mayP r = true
    · have HM := Lib.hid hm
      rw [hm]
      clear hm
      go_wp2_with (first
        | (with_reducible refine wpList_load_blk rfl 30 _ rfl w.heap.size rfl S0 (by simp) Try.underlying30 rfl HI ?_)
        | (with_reducible refine wpList_load_blk rfl 36 _ rfl (w.heap.size + 1) rfl S1 (by simp) Try.underlying36 rfl HI2 ?_))
      refine (rFolded_any k r A c B d E n A1 c1 B1 d1 A2 c2 B2 d2 w2 ((HK.out.below HB.out).more (by have := HZ.out; omega)) ((HA.out.below HB.out).more (by have := HZ.out; omega)) HKS.out HS.out ((rightP_iff k).1 HR.out).okK (mayP_put HM.out)).mono ?_
      rintro e w4 ⟨A4, c4, B4, d4, E4, n4, rfl, hk4, hb⟩
      have V2 := Lib.hid (S2.out.below hb S2.out.lt)
      have HB4 : Hid (Below w.heap.size w w4) := Lib.hid (HB.out.trans (hb.mono (by have := HZ.out; omega)))
      have HK4 := Lib.hid hk4
      clear hb hk4
      go_wp2_with (first
        | ((with_reducible refine wpList_store_blk rfl 30 _ _ rfl (w.heap.size + 1 + 1) ((foldedP k r).1.cs A4 c4 B4 d4 E4 n4) rfl rfl V2 (by simp) (by simp [Kep.cs]) HI (by simp [Kep.cs, Value.oneCell']) ?_)
           intro w9 U))
      refine bodyPost_ret (results_blk_tmp rfl _ _ (w.heap.size + 1 + 1) rfl (Lib.hid U.out.blk) (by simp [Kep.cs]) Try.underlying30 rfl HI) rfl ?_
      unfold FoldsEnd
      unfold foldP
      rw [if_pos HR.out, if_pos HM.out]
      exact ⟨A4, c4, B4, d4, E4, n4, rfl, (HK4.out.nw_more (by have := HZ.out; omega)).nw_keeps U.out.keeps (by decide), U.out.below HB4.out (by omega)⟩
    · have HM : Hid (mayP r = false) := Lib.hid (by simpa using hm)
      rw [HM.out]
      clear hm
      go_wp2_with fail
      refine (rNo_any 140 w2).mono ?_
      rintro e w4 ⟨A4, c4, B4, d4, E4, n4, rfl, hk4, hb⟩
      have V2 := Lib.hid (S2.out.below hb S2.out.lt)
      have HB4 : Hid (Below w.heap.size w w4) := Lib.hid (HB.out.trans (hb.mono (by have := HZ.out; omega)))
      have HK4 := Lib.hid hk4
      clear hb hk4
      go_wp2_with (first
        | ((with_reducible refine wpList_store_blk rfl 30 _ _ rfl (w.heap.size + 1 + 1) (Kep.zero.cs A4 c4 B4 d4 E4 n4) rfl rfl V2 (by simp) (by simp [Kep.cs]) HI (by simp [Kep.cs, Value.oneCell']) ?_)
           intro w9 U))
      refine bodyPost_ret (results_blk_tmp rfl _ _ (w.heap.size + 1 + 1) rfl (Lib.hid U.out.blk) (by simp [Kep.cs]) Try.underlying30 rfl HI) rfl ?_
      unfold FoldsEnd
      exact ⟨A4, c4, B4, d4, E4, n4, by simp [foldP, HR.out, HM.out], by simp only [foldP, HR.out, HM.out]; exact ⟨RowsAt.nil, RowsAt.nil, RowsAt.nil⟩, U.out.below HB4.out (by omega)⟩
  · have HR : Hid (rightP k = false) := Lib.hid (by simpa using hr)
    rw [HR.out]
    clear hr
    go_wp2_with fail
    refine (rNo_any 1 w1).mono ?_
    rintro e w4 ⟨A4, c4, B4, d4, E4, n4, rfl, hk4, hb⟩
    have V2 := Lib.hid (R2.out.below hb R2.out.lt)
    have HB4 : Hid (Below w.heap.size w w4) := Lib.hid (HB.out.trans (hb.mono (by have := HZ.out; omega)))
    have HK4 := Lib.hid hk4
    clear hb hk4
    go_wp2_with (first
      | ((with_reducible refine wpList_store_blk rfl 30 _ _ rfl (w.heap.size + 1 + 1) (Kep.zero.cs A4 c4 B4 d4 E4 n4) rfl rfl V2 (by simp) (by simp [Kep.cs]) HI (by simp [Kep.cs, Value.oneCell']) ?_)
         intro w9 U))
    refine bodyPost_ret (results_blk_tmp rfl _ _ (w.heap.size + 1 + 1) rfl (Lib.hid U.out.blk) (by simp [Kep.cs]) Try.underlying30 rfl HI) rfl ?_
    unfold FoldsEnd
    exact ⟨A4, c4, B4, d4, E4, n4, by simp [foldP, HR.out], by simp only [foldP, HR.out]; exact ⟨RowsAt.nil, RowsAt.nil, RowsAt.nil⟩, U.out.below HB4.out (by omega)⟩
end Go.Proofs.Ytkdmfjpfanmgmaa
