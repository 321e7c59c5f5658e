/- The walks of the reference's no, Last, Folded. Printed by mkfold23.py. -/
import Derived.Test.YtkdmfjpfanmgmaaFold22
import Derived.Test.YtkdmfjpfanmgmaaFold6
import Derived.Deep.RegionLaw
namespace Go.Proofs.Ytkdmfjpfanmgmaa
open Go.RowKit Le
set_option maxRecDepth 100000
set_option linter.unusedSimpArgs false
set_option linter.unusedVariables false

set_option maxHeartbeats 800000 in
theorem rNo_any (E : Nat) (w : World) : Calls Try.prog 18 #[.int .i64 E] w (FoldsEnd w (.zero, E)) := by
  have HI : Hid ((Try.prog.info? 30).map (·.size) = some 8) := Lib.hid (by kernel_rfl)
  have R2 := Lib.hid (Blk.new w 30 [.int .i64 0, .int .i64 0, .int .i64 0, .int .i64 0, .slice none 0 0, .slice none 0 0, .string ⟨#[]⟩, .slice none 0 0])
  go_enter Try.func18, Try.ntmps18
  go_wp2_with (first
      | ((with_reducible refine wpList_store_blk rfl 30 _ _ rfl w.heap.size [.int .i64 0, .int .i64 0, .int .i64 0, .int .i64 0, .slice none 0 0, .slice none 0 0, .string ⟨#[]⟩, .slice none 0 0] rfl rfl R2 (by simp) (by simp) HI (by simp [Value.oneCell']) ?_)
         intro w9 U))
  refine bodyPost_ret (results_blk_tmp rfl _ _ w.heap.size rfl (Lib.hid U.out.blk) (by simp) Try.underlying30 rfl HI) rfl ?_
  unfold FoldsEnd
  exact ⟨none, 0, none, 0, none, 0, by simp [Kep.cs, Kep.zero, Snp.zero, text], ⟨RowsAt.nil, RowsAt.nil, RowsAt.nil⟩, U.out.below (by repeat (first | with_reducible exact (Below.refl w.heap.size w) | (with_reducible refine Below.setCell ?_ (by dsimp only; (first | omega | (simp; done) | (simp; omega))) _) | (with_reducible refine Below.alloc ?_ (by (first | omega | (simp; done) | (simp; omega))) _) | with_reducible refine Below.drew ?_)) (Nat.le_refl _)⟩

set_option maxHeartbeats 1600000 in
theorem rLast_any (k : Kep) (A : Option Addr) (c : Nat) (B : Option Addr) (d : Nat) (E : Option Addr) (n : Nat) (w : World) (hk : OkK k) :
    Calls Try.prog 43 #[.agg #[.int .i64 k.term, .int .i64 k.vote, .int .i64 k.snp.idx, .int .i64 k.snp.term, .slice A k.snp.v.length c, .slice B k.snp.l.length d, .string (text k.snp.b), .slice E k.ents.length n]] w fun e w' => e = .returned (.int .i64 k.last) ∧ Below w.heap.size w w' := by
  have h1 := okN_i hk.idx
  have h2 := hk.len
  have s1 : IntKind.i64.wrap (k.snp.idx + (k.ents.length : Int)) = k.snp.idx + (k.ents.length : Int) := IntWalk.i64_in _ (by omega)
  go_enter Try.func43, Try.ntmps43
  go_wp2
  go_ret
  exact ⟨rfl, (by repeat (first | with_reducible exact Below.refl _ _ | with_reducible assumption | (with_reducible refine Below.setCell ?_ (by dsimp only; (first | omega | (simp; done) | (simp; omega))) _) | (with_reducible refine Below.alloc ?_ (by (first | omega | (simp; done) | (simp; omega))) _) | with_reducible refine Below.drew ?_))⟩

theorem foldedR_no {k : Kep} {r : Rcd} (h1 : ¬ r.kind = 1) (h2 : ¬ r.kind = 2) (h3 : ¬ r.kind = 3) (ht : r.snp.idx ≤ k.snp.idx) : foldedP k r = (.zero, 140) := by
  unfold foldedP; rw [if_neg h1, if_neg h2, if_neg h3, if_pos ht]
theorem foldedR_in {k : Kep} {r : Rcd} {q : Nat} (h : ¬ r.kind = 1 ∧ ¬ r.kind = 2 ∧ ¬ r.kind = 3) (ht : k.snp.idx < r.snp.idx) (hq : r.snp.idx - k.snp.idx - 1 = (q : Int)) (hl : q < k.ents.length) (he : (k.ents[q]).term = r.snp.term) : foldedP k r = ({ k with snp := r.snp, ents := k.ents.drop (q + 1) }, 0) := by
  unfold foldedP; rw [if_neg h.1, if_neg h.2.1, if_neg h.2.2, if_neg (by omega), hq, Int.toNat_natCast, if_pos (by simp [hl, he])]
theorem foldedR_out {k : Kep} {r : Rcd} {q : Nat} (h : ¬ r.kind = 1 ∧ ¬ r.kind = 2 ∧ ¬ r.kind = 3) (ht : k.snp.idx < r.snp.idx) (hq : r.snp.idx - k.snp.idx - 1 = (q : Int)) (hl : ¬ q < k.ents.length ∨ ∃ h : q < k.ents.length, (k.ents[q]).term ≠ r.snp.term) : foldedP k r = ({ k with snp := r.snp, ents := [] }, 0) := by
  unfold foldedP; rw [if_neg h.1, if_neg h.2.1, if_neg h.2.2, if_neg (by omega), hq, Int.toNat_natCast, if_neg]
  rcases hl with hl | ⟨hl, he⟩
  · simp [List.getElem?_eq_none (Nat.le_of_not_lt hl)]
  · simp [hl, he]

set_option maxHeartbeats 3200000 in
theorem rFolded_any (k : Kep) (r : Rcd) (A : Option Addr) (c : Nat) (B : Option Addr) (d : Nat) (E : Option Addr) (n : Nat) (A1 : Option Addr) (c1 : Nat) (B1 : Option Addr) (d1 : Nat) (A2 : Option Addr) (c2 : Nat) (B2 : Option Addr) (d2 : Nat) (w : World) (hK : KepAt w (· < w.heap.size) k A B E) (hA : RcdAt' w (· < w.heap.size) r A1 B1 A2 B2) (hks : k.Small) (hs : r.Small) (hok : OkK k) (hp : putE r = 0) :
    Calls Try.prog 20 #[.agg #[.int .i64 k.term, .int .i64 k.vote, .int .i64 k.snp.idx, .int .i64 k.snp.term, .slice A k.snp.v.length c, .slice B k.snp.l.length d, .string (text k.snp.b), .slice E k.ents.length n], .agg #[.int .i64 r.kind, .int .i64 r.term, .int .i64 r.vote, .int .i64 r.ent.idx, .int .i64 r.ent.term, .int .i64 r.ent.kind, .slice A1 r.ent.v.length c1, .slice B1 r.ent.l.length d1, .string (text r.ent.b), .int .i64 r.at_, .int .i64 r.snp.idx, .int .i64 r.snp.term, .slice A2 r.snp.v.length c2, .slice B2 r.snp.l.length d2, .string (text r.snp.b)]] w (FoldsEnd w (foldedP k r)) := by
  have HK := Lib.hid hK
  have HA := Lib.hid hA
  have HKS := Lib.hid hks
  have HS := Lib.hid hs
  have HO := Lib.hid hok
  have HP := Lib.hid ((putE_ok r).1 hp)
  clear hK hA hs hks hok hp
  have HI : Hid ((Try.prog.info? 30).map (·.size) = some 8) := Lib.hid (by kernel_rfl)
  have HI2 : Hid ((Try.prog.info? 36).map (·.size) = some 15) := Lib.hid (by kernel_rfl)
  go_enter Try.func20, Try.ntmps20
  go_wp2_with fail
  refine at_world _ fun W hW => ?_
  obtain ⟨P0, P1, P2, hbW, hsW⟩ := blk3w w 30 36 30 [.int .i64 k.term, .int .i64 k.vote, .int .i64 k.snp.idx, .int .i64 k.snp.term, .slice A k.snp.v.length c, .slice B k.snp.l.length d, .string (text k.snp.b), .slice E k.ents.length n] [.int .i64 r.kind, .int .i64 r.term, .int .i64 r.vote, .int .i64 r.ent.idx, .int .i64 r.ent.term, .int .i64 r.ent.kind, .slice A1 r.ent.v.length c1, .slice B1 r.ent.l.length d1, .string (text r.ent.b), .int .i64 r.at_, .int .i64 r.snp.idx, .int .i64 r.snp.term, .slice A2 r.snp.v.length c2, .slice B2 r.snp.l.length d2, .string (text r.snp.b)] [.int .i64 0, .int .i64 0, .int .i64 0, .int .i64 0, .slice none 0 0, .slice none 0 0, .string ⟨#[]⟩, .slice none 0 0] W hW
  clear hW
  refine (rOwn_any k A c B d E n W ((HK.out.below hbW).more (by omega)) HKS.out).mono ?_
  rintro e w1 ⟨A', c', B', d', E', n', rfl, ho, hb⟩
  have R0 := Lib.hid (P0.below hb P0.lt)
  have R1 := Lib.hid (P1.below hb P1.lt)
  have R2 := Lib.hid (P2.below hb P2.lt)
  have HB1 : Hid (Below w.heap.size w w1) := Lib.hid (hbW.trans (hb.mono (by omega)))
  have HZ : Hid (w.heap.size + 1 + 1 + 1 ≤ w1.heap.size) := Lib.hid (by have := hb.size; omega)
  have HW : Hid (W.heap.size = w.heap.size + 1 + 1 + 1) := Lib.hid hsW
  have HOw := Lib.hid ho
  clear ho hb hbW hsW P0 P1 P2
  unfold Kep.cs
  go_wp2_with (first
      | (with_reducible refine wpList_load_blk rfl 30 _ rfl w.heap.size rfl (Lib.hid (R0.out.alloc _)) (by simp) Try.underlying30 rfl HI ?_))
  refine at_world _ fun W2 hW => ?_
  have S0 : Hid (Blk W2 w.heap.size 30 [.int .i64 k.term, .int .i64 k.vote, .int .i64 k.snp.idx, .int .i64 k.snp.term, .slice A k.snp.v.length c, .slice B k.snp.l.length d, .string (text k.snp.b), .slice E k.ents.length n]) := Lib.hid (hW ▸ R0.out.alloc _)
  have S1 : Hid (Blk W2 (w.heap.size + 1) 36 [.int .i64 r.kind, .int .i64 r.term, .int .i64 r.vote, .int .i64 r.ent.idx, .int .i64 r.ent.term, .int .i64 r.ent.kind, .slice A1 r.ent.v.length c1, .slice B1 r.ent.l.length d1, .string (text r.ent.b), .int .i64 r.at_, .int .i64 r.snp.idx, .int .i64 r.snp.term, .slice A2 r.snp.v.length c2, .slice B2 r.snp.l.length d2, .string (text r.snp.b)]) := Lib.hid (hW ▸ R1.out.alloc _)
  have S2 : Hid (Blk W2 (w.heap.size + 1 + 1) 30 [.int .i64 0, .int .i64 0, .int .i64 0, .int .i64 0, .slice none 0 0, .slice none 0 0, .string ⟨#[]⟩, .slice none 0 0]) := Lib.hid (hW ▸ R2.out.alloc _)
  have S3 : Hid (Blk W2 w1.heap.size 30 [.int .i64 k.term, .int .i64 k.vote, .int .i64 k.snp.idx, .int .i64 k.snp.term, .slice A' k.snp.v.length c', .slice B' k.snp.l.length d', .string (text k.snp.b), .slice E' k.ents.length n']) := Lib.hid (hW ▸ Blk.new w1 30 [.int .i64 k.term, .int .i64 k.vote, .int .i64 k.snp.idx, .int .i64 k.snp.term, .slice A' k.snp.v.length c', .slice B' k.snp.l.length d', .string (text k.snp.b), .slice E' k.ents.length n'])
  have HO2 : Hid (KepOwn W2 W.heap.size k A' B' E' n') := Lib.hid (by rw [hW]; exact HOw.out.keeps (ts := []) (Keeps.alloc _ _) (by simp) (by simp))
  have HB2 : Hid (Below w.heap.size w W2) := Lib.hid (by rw [hW]; exact HB1.out.alloc (by have := HZ.out; omega) _)
  have HZ2 : Hid (w1.heap.size + 1 = W2.heap.size) := Lib.hid (by rw [hW]; simp)
  clear hW R0 R1 R2 HOw HB1
  refine (rLast_any k A c B d E n W2 HO.out).mono ?_
  rintro e w3 ⟨rfl, hb⟩
  have T0 := Lib.hid (S0.out.below hb S0.out.lt)
  have T1 := Lib.hid (S1.out.below hb S1.out.lt)
  have T2 := Lib.hid (S2.out.below hb S2.out.lt)
  have T3 := Lib.hid (S3.out.below hb S3.out.lt)
  have HO3 : Hid (KepOwn w3 W.heap.size k A' B' E' n') := Lib.hid (HO2.out.keeps (ts := []) (Keeps.of_below hb (Nat.le_refl _)) (by simp) (by simp))
  have HB3 : Hid (Below w.heap.size w w3) := Lib.hid (HB2.out.trans (hb.mono (by have := HZ.out; have := HZ2.out; omega)))
  have HZ3 : Hid (w.heap.size + 1 + 1 < w1.heap.size ∧ w1.heap.size < w3.heap.size ∧ W.heap.size = w.heap.size + 1 + 1 + 1) := Lib.hid (by have := HZ.out; have := HZ2.out; have := HW.out; have := hb.size; omega)
  have HA3 : Hid (RcdAt' w3 (· < w3.heap.size) r A1 B1 A2 B2) := Lib.hid ((HA.out.below HB3.out).more (by have := HZ3.out; omega))
  have HK3 : Hid (KepAt w3 (· < w.heap.size) k A B E) := Lib.hid (HK.out.below HB3.out)
  clear hb HK S0 S1 S2 S3 HO2 HB2 HZ2 HZ HW
  have hg0 : w1.heap.size ≠ w.heap.size := by have := HZ3.out; omega
  have hg1 : w1.heap.size ≠ w.heap.size + 1 := by have := HZ3.out; omega
  have hg2 : w1.heap.size ≠ w.heap.size + 1 + 1 := by have := HZ3.out; omega
  have hG0 : w.heap.size ≠ w1.heap.size := by have := HZ3.out; omega
  have hG1 : w.heap.size + 1 ≠ w1.heap.size := by have := HZ3.out; omega
  have hG2 : w.heap.size + 1 + 1 ≠ w1.heap.size := by have := HZ3.out; omega
  generalize w1.heap.size = g at *
  have e0 : w3.cell? ⟨w.heap.size + 1, 0, none⟩ = some (.int .i64 r.kind) := T1.out.cell 0
  by_cases k1 : r.kind = 1
  · have HQ := Lib.hid k1
    have u1 : (r.kind == 1) = true := by simpa using k1
    clear k1
    have a1 : w3.cell? ⟨w.heap.size + 1, 1, none⟩ = some (.int .i64 r.term) := T1.out.cell 1
    have a2 : w3.cell? ⟨w.heap.size + 1, 2, none⟩ = some (.int .i64 r.vote) := T1.out.cell 2
    have b0 : w3.cell? ⟨w.heap.size, 0, none⟩ = some (.int .i64 k.term) := T0.out.cell 0
    by_cases ht : r.term < k.term
    · have HF := Lib.hid (folded_vote_no HQ.out ht)
      have t1 : decide (r.term < k.term) = true := decide_eq_true ht
      go_wp2_with fail
      refine (rNo_any 140 w3).mono ?_
      rintro e w4 ⟨A4, c4, B4, d4, E4, n4, rfl, hk4, hb⟩
      have V2 := Lib.hid (T2.out.below hb T2.out.lt)
      have HB4 : Hid (Below w.heap.size w w4) := Lib.hid (HB3.out.trans (hb.mono (by have := HZ3.out; omega)))
      clear hb hk4
      go_wp2_with (first
        | ((with_reducible refine wpList_store_blk rfl 30 _ _ rfl (w.heap.size + 1 + 1) (Kep.zero.cs A4 c4 B4 d4 E4 n4) rfl rfl V2 (by simp) (by simp [Kep.cs]) HI (by simp [Kep.cs, Value.oneCell']) ?_)
           intro w9 U))
      refine bodyPost_ret (results_blk_tmp rfl _ _ (w.heap.size + 1 + 1) rfl (Lib.hid U.out.blk) (by simp [Kep.cs]) Try.underlying30 rfl HI) rfl ?_
      unfold FoldsEnd
      rw [HF.out]
      exact ⟨A4, c4, B4, d4, E4, n4, rfl, ⟨RowsAt.nil, RowsAt.nil, RowsAt.nil⟩, U.out.below HB4.out (by omega)⟩
    · have HF := Lib.hid (folded_vote_ok HQ.out ht)
      have t1 : decide (r.term < k.term) = false := decide_eq_false ht
      have c0 : w3.cell? ⟨g, 0, none⟩ = some (.int .i64 k.term) := T3.out.cell 0
      have c1' : w3.cell? ⟨g, 1, none⟩ = some (.int .i64 k.vote) := T3.out.cell 1
      have f0 : w3.frozen? ⟨g, 0, none⟩ = false := T3.out.frozen 0
      have f1 : w3.frozen? ⟨g, 1, none⟩ = false := T3.out.frozen 1
      have V3 : Hid (Blk ((w3.setCell ⟨g, 0, none⟩ (.int .i64 r.term)).setCell ⟨g, 1, none⟩ (.int .i64 r.vote)) g 30 [.int .i64 r.term, .int .i64 r.vote, .int .i64 k.snp.idx, .int .i64 k.snp.term, .slice A' k.snp.v.length c', .slice B' k.snp.l.length d', .string (text k.snp.b), .slice E' k.ents.length n']) := Lib.hid (by have := (T3.out.set_ 0 (.int .i64 r.term)).set_ 1 (.int .i64 r.vote); simpa using this)
      have V2 : Hid (Blk ((w3.setCell ⟨g, 0, none⟩ (.int .i64 r.term)).setCell ⟨g, 1, none⟩ (.int .i64 r.vote)) (w.heap.size + 1 + 1) 30 [.int .i64 0, .int .i64 0, .int .i64 0, .int .i64 0, .slice none 0 0, .slice none 0 0, .string ⟨#[]⟩, .slice none 0 0]) := Lib.hid ((T2.out.far (p := ⟨g, 0, none⟩) hG2 _).far (p := ⟨g, 1, none⟩) hG2 _)
      go_wp2_with (first
        | (with_reducible refine wpList_load_blk rfl 30 _ rfl g rfl V3 (by simp) Try.underlying30 rfl HI ?_)
        | ((with_reducible refine wpList_store_blk rfl 30 _ _ rfl (w.heap.size + 1 + 1) [.int .i64 r.term, .int .i64 r.vote, .int .i64 k.snp.idx, .int .i64 k.snp.term, .slice A' k.snp.v.length c', .slice B' k.snp.l.length d', .string (text k.snp.b), .slice E' k.ents.length n'] rfl rfl V2 (by simp) (by simp) HI (by simp [Value.oneCell']) ?_)
           intro w9 U))
      have KK : Keeps [30] w3 w9 := Keeps.trans (by repeat (first | with_reducible exact Keeps.refl _ _ | (with_reducible refine Keeps.step1 ?_ (by repeat (first | with_reducible exact Blk.typ T3.out | with_reducible refine TypeAt.setCell ?_ _ _))))) U.out.keeps
      refine bodyPost_ret (results_blk_tmp rfl _ _ (w.heap.size + 1 + 1) rfl (Lib.hid U.out.blk) (by simp) Try.underlying30 rfl HI) rfl ?_
      unfold FoldsEnd
      rw [HF.out]
      have hz := HZ3.out
      have hk := (HO3.out.keeps KK (by decide) (by decide)).at_.nw_more (b' := w.heap.size) (by omega)
      exact ⟨A', c', B', d', E', n', rfl, ⟨hk.v, hk.l, hk.e⟩, U.out.below (by repeat (first | with_reducible exact HB3.out | (with_reducible refine Below.setCell ?_ (by dsimp only; (first | omega | (simp; done) | (simp; omega))) _) | (with_reducible refine Below.alloc ?_ (by (first | omega | (simp; done) | (simp; omega))) _) | with_reducible refine Below.drew ?_)) (by omega)⟩
  by_cases k2 : r.kind = 2
  · have HQ := Lib.hid k2
    have u1 : (r.kind == 1) = false := by simpa using k1
    have u2 : (r.kind == 2) = true := by simpa using k2
    clear k1 k2
    have a3 : w3.cell? ⟨w.heap.size + 1, 3, none⟩ = some (.int .i64 r.ent.idx) := T1.out.cell 3
    have b7 : w3.cell? ⟨w.heap.size, 7, none⟩ = some (.slice E k.ents.length n) := T0.out.cell 7
    have s1 : IntKind.i64.wrap (k.last + 1) = k.last + 1 := IntWalk.i64_in _ (by have := okN_i HO.out.idx; have := HO.out.len; unfold Kep.last; omega) 
    by_cases ht : r.ent.idx = k.last + 1
    · have t1 : (r.ent.idx == k.last + 1) = true := by simpa using ht
      have t1' : (r.ent.idx != k.last + 1) = false := by simpa using ht
      by_cases hl : 10000 ≤ k.ents.length
      · have HF := Lib.hid (folded_ent_big HQ.out ht hl)
        clear ht
        have t2 : decide ((10000 : Int) ≤ (k.ents.length : Int)) = true := decide_eq_true (by omega)
        go_wp2_with fail
        refine (rNo_any 2 w3).mono ?_
        rintro e w4 ⟨A4, c4, B4, d4, E4, n4, rfl, hk4, hb⟩
        have V2 := Lib.hid (T2.out.below hb T2.out.lt)
        have HB4 : Hid (Below w.heap.size w w4) := Lib.hid (HB3.out.trans (hb.mono (by have := HZ3.out; omega)))
        clear hb hk4
        go_wp2_with (first
          | ((with_reducible refine wpList_store_blk rfl 30 _ _ rfl (w.heap.size + 1 + 1) (Kep.zero.cs A4 c4 B4 d4 E4 n4) rfl rfl V2 (by simp) (by simp [Kep.cs]) HI (by simp [Kep.cs, Value.oneCell']) ?_)
             intro w9 U))
        refine bodyPost_ret (results_blk_tmp rfl _ _ (w.heap.size + 1 + 1) rfl (Lib.hid U.out.blk) (by simp [Kep.cs]) Try.underlying30 rfl HI) rfl ?_
        unfold FoldsEnd
        rw [HF.out]
        exact ⟨A4, c4, B4, d4, E4, n4, rfl, ⟨RowsAt.nil, RowsAt.nil, RowsAt.nil⟩, U.out.below HB4.out (by omega)⟩
      · have HF := Lib.hid (folded_ent_ok HQ.out ht hl)
        clear ht
        have t2 : decide ((10000 : Int) ≤ (k.ents.length : Int)) = false := decide_eq_false (by omega)
        obtain ⟨xs, ho, hth⟩ := HO3.out.e
        have HOw := Lib.hid ho
        have HTh := Lib.hid hth
        obtain ⟨i0, hi0, hz0, hz1, hz2⟩ := info_parts info_entry
        clear ho hth
        have a4 : w3.cell? ⟨w.heap.size + 1, 4, none⟩ = some (.int .i64 r.ent.term) := T1.out.cell 4
        have a5 : w3.cell? ⟨w.heap.size + 1, 5, none⟩ = some (.int .i64 r.ent.kind) := T1.out.cell 5
        have a6 : w3.cell? ⟨w.heap.size + 1, 6, none⟩ = some (.slice A1 r.ent.v.length c1) := T1.out.cell 6
        have a7 : w3.cell? ⟨w.heap.size + 1, 7, none⟩ = some (.slice B1 r.ent.l.length d1) := T1.out.cell 7
        have a8 : w3.cell? ⟨w.heap.size + 1, 8, none⟩ = some (.string (text r.ent.b)) := T1.out.cell 8
        have c7 : w3.cell? ⟨g, 7, none⟩ = some (.slice E' k.ents.length n') := T3.out.cell 7
        have f7 : w3.frozen? ⟨g, 7, none⟩ = false := T3.out.frozen 7
        have C := Lib.hid (rEntry_any r.ent A1 c1 B1 d1 w3.drew (HA3.out.ev.turn (fun _ h => h) (fun _ _ => rfl)) (HA3.out.el.turn (fun _ h => h) (fun _ _ => rfl)) (by have := HS.out.e.v; omega) (by have := HS.out.e.l; omega))
        unfold Ent.cs at C
        have q4 := T3.out.lt
        have q5 := T1.out.lt
        have q6 := T2.out.lt
        have hl' : k.ents.length < 10000 := by omega
        go_wp2_with fail
        go_region_law (first
          | (go_simp
             go_at_call 13
             refine (unhide C).mono ?_
             rintro e w4 ⟨A4, c4, B4, d4, rfl, hr3, hr4, hbl⟩
             unfold Ent.cs
             have z3 : w3.heap.size ≤ w4.heap.size := hbl.size
             have R3 := Lib.hid (T3.out.drew.below hbl q4)
             have R2 := Lib.hid (T2.out.drew.below hbl q6)
             have R1 := Lib.hid (T1.out.drew.below hbl q5)
             have HO3' := Lib.hid (HOw.out.drew.below_ hbl)
             have HBB := Lib.hid hbl
             have HR3 := Lib.hid hr3
             have HR4 := Lib.hid hr4
             have b8 : w4.cell? ⟨g, 7, none⟩ = some (.slice E' k.ents.length n') := R3.out.cell 7
             have z5 : g < w4.heap.size := by omega
             have z6 : w.heap.size + 1 < w4.heap.size := by omega
             have x3 : w4.cell? ⟨w.heap.size + 1, 3, none⟩ = some (.int .i64 r.ent.idx) := R1.out.cell 3
             have x4 : w4.cell? ⟨w.heap.size + 1, 4, none⟩ = some (.int .i64 r.ent.term) := R1.out.cell 4
             have x5 : w4.cell? ⟨w.heap.size + 1, 5, none⟩ = some (.int .i64 r.ent.kind) := R1.out.cell 5
             have x6 : w4.cell? ⟨w.heap.size + 1, 6, none⟩ = some (.slice A1 r.ent.v.length c1) := R1.out.cell 6
             have x7 : w4.cell? ⟨w.heap.size + 1, 7, none⟩ = some (.slice B1 r.ent.l.length d1) := R1.out.cell 7
             have x8 : w4.cell? ⟨w.heap.size + 1, 8, none⟩ = some (.string (text r.ent.b)) := R1.out.cell 8
             clear hr3 hr4 hbl)
          | (refine step_appN rfl _ _ _ rfl W.heap.size 34 i0 _ 6 88 Try.underlying28 hi0 hz0 hz1 hz2 rfl (by decide) (.slice E' k.ents.length n') k.ents.length xs rfl (HO3'.out.alloc _) ⟨w4.heap.size, 0, none⟩ 1 [.int .i64 r.ent.idx, .int .i64 r.ent.term, .int .i64 r.ent.kind, .slice A4 r.ent.v.length c4, .slice B4 r.ent.l.length d4, .string (text r.ent.b)] rfl rfl (Blk.news (Blk.new w4 34 [.int .i64 r.ent.idx, .int .i64 r.ent.term, .int .i64 r.ent.kind, .slice A4 r.ent.v.length c4, .slice B4 r.ent.l.length d4, .string (text r.ent.b)])) (by simp [Value.oneCell']) (by unfold maxLen; omega) (by omega) (by have := HZ3.out; simp; omega) ?_
             intro A5 c5 w5 HO5 HG5
             have S3 := Lib.hid ((R3.out.alloc (.cells #[.int .i64 r.ent.idx, .int .i64 r.ent.term, .int .i64 r.ent.kind, .slice A4 r.ent.v.length c4, .slice B4 r.ent.l.length d4, .string (text r.ent.b)] 34)).grown HG5.out (blk_own_ne R3.out HO3'.out (by decide)))
             have S2 := Lib.hid ((R2.out.alloc (.cells #[.int .i64 r.ent.idx, .int .i64 r.ent.term, .int .i64 r.ent.kind, .slice A4 r.ent.v.length c4, .slice B4 r.ent.l.length d4, .string (text r.ent.b)] 34)).grown HG5.out (blk_own_ne R2.out HO3'.out (by decide)))
             have b9 : w5.cell? ⟨g, 7, none⟩ = some (.slice E' k.ents.length n') := S3.out.cell 7
             have f9 : w5.frozen? ⟨g, 7, none⟩ = false := S3.out.frozen 7))
        all_goals
          have V3 : Hid (Blk (w5.setCell ⟨g, 7, none⟩ (.slice A5 (k.ents.length + 1) c5)) g 30 [.int .i64 k.term, .int .i64 k.vote, .int .i64 k.snp.idx, .int .i64 k.snp.term, .slice A' k.snp.v.length c', .slice B' k.snp.l.length d', .string (text k.snp.b), .slice A5 (k.ents.length + 1) c5]) := Lib.hid (by have := S3.out.set_ 7 (.slice A5 (k.ents.length + 1) c5); simpa using this)
          have V2 : Hid (Blk (w5.setCell ⟨g, 7, none⟩ (.slice A5 (k.ents.length + 1) c5)) (w.heap.size + 1 + 1) 30 [.int .i64 0, .int .i64 0, .int .i64 0, .int .i64 0, .slice none 0 0, .slice none 0 0, .string ⟨#[]⟩, .slice none 0 0]) := Lib.hid (S2.out.far (p := ⟨g, 7, none⟩) hG2 _)
          go_wp2_with (first
            | (with_reducible refine wpList_load_blk rfl 30 _ rfl g rfl V3 (by simp) Try.underlying30 rfl HI ?_)
            | ((with_reducible refine wpList_store_blk rfl 30 _ _ rfl (w.heap.size + 1 + 1) [.int .i64 k.term, .int .i64 k.vote, .int .i64 k.snp.idx, .int .i64 k.snp.term, .slice A' k.snp.v.length c', .slice B' k.snp.l.length d', .string (text k.snp.b), .slice A5 (k.ents.length + 1) c5] rfl rfl V2 (by simp) (by simp) HI (by simp [Value.oneCell']) ?_)
               intro w9 U))
          have K1 : Keeps [30, 34] w4 w9 :=
            (((Keeps.alloc w4 (.cells #[.int .i64 r.ent.idx, .int .i64 r.ent.term, .int .i64 r.ent.kind, .slice A4 r.ent.v.length c4, .slice B4 r.ent.l.length d4, .string (text r.ent.b)] 34)).trans (Keeps.grown (HO3'.out.alloc (.cells #[.int .i64 r.ent.idx, .int .i64 r.ent.term, .int .i64 r.ent.kind, .slice A4 r.ent.v.length c4, .slice B4 r.ent.l.length d4, .string (text r.ent.b)] 34)) HG5.out (by simp) HG5.out.size)).trans (Keeps.set_ S3.out.typ (by simp) _)).trans (U.out.keeps.more (by simp))
          have KF : Keeps [30] w5 w9 := Keeps.trans (Keeps.set_ S3.out.typ (by simp) _) U.out.keeps
          have K0' : Keeps [30, 34] w3 w9 := (Keeps.trans (Keeps.drew _) (Keeps.of_below HBB.out (Nat.le_refl _))).trans K1
          have hz := HZ3.out
          have g1 := (HR3.out.nw_mono (base' := W.heap.size) (by show W.heap.size ≤ w3.heap.size; omega) fun _ h => h).nw_keeps K1 (by decide)
          have g2 := (HR4.out.nw_mono (base' := W.heap.size) (by show W.heap.size ≤ w3.heap.size; omega) fun _ h => h).nw_keeps K1 (by decide)
          have g3 := (HTh.out.keeps K0' (by decide)).snoc (d := r.ent.da) (by have := HOw.out.1; rw [this, List.length_map]; rfl) (Ent.mk_ r.ent c4 d4 g1 g2)
          have g4 := rowsAt_ownN (HO5.out.keeps KF (by decide)) (by simp) g3
          refine bodyPost_ret (results_blk_tmp rfl _ _ (w.heap.size + 1 + 1) rfl (Lib.hid U.out.blk) (by simp) Try.underlying30 rfl HI) rfl ?_
          unfold FoldsEnd
          rw [HF.out]
          refine ⟨A', c', B', d', A5, c5, by simp [Kep.cs], ⟨?_, ?_, ?_⟩, ?_⟩
          · exact ((HO3.out.v.nw_keeps K0' (by decide)).nw_mono (by omega) (by simp))
          · exact ((HO3.out.l.nw_keeps K0' (by decide)).nw_mono (by omega) (by simp))
          · have := g4.nw_mono (base' := w.heap.size) (by omega) (fun _ h => h)
            simpa using this
          · exact U.out.below (((((HB3.out.drew).trans (HBB.out.mono (by show w.heap.size ≤ w3.heap.size; omega))).alloc (by omega) _).grown HG5.out (by simp; omega) (fun q hq => by have := own_block_ge HO3'.out q hq; omega)).setCell (by dsimp only; omega) _) (by omega)
    · have t1 : (r.ent.idx == k.last + 1) = false := by simpa using ht
      have t1' : (r.ent.idx != k.last + 1) = true := by simpa using ht
      have HF := Lib.hid (folded_ent_no HQ.out ht)
      clear ht
      go_wp2_with fail
      refine (rNo_any 140 w3).mono ?_
      rintro e w4 ⟨A4, c4, B4, d4, E4, n4, rfl, hk4, hb⟩
      have V2 := Lib.hid (T2.out.below hb T2.out.lt)
      have HB4 : Hid (Below w.heap.size w w4) := Lib.hid (HB3.out.trans (hb.mono (by have := HZ3.out; omega)))
      clear hb hk4
      go_wp2_with (first
        | ((with_reducible refine wpList_store_blk rfl 30 _ _ rfl (w.heap.size + 1 + 1) (Kep.zero.cs A4 c4 B4 d4 E4 n4) rfl rfl V2 (by simp) (by simp [Kep.cs]) HI (by simp [Kep.cs, Value.oneCell']) ?_)
           intro w9 U))
      refine bodyPost_ret (results_blk_tmp rfl _ _ (w.heap.size + 1 + 1) rfl (Lib.hid U.out.blk) (by simp [Kep.cs]) Try.underlying30 rfl HI) rfl ?_
      unfold FoldsEnd
      rw [HF.out]
      exact ⟨A4, c4, B4, d4, E4, n4, rfl, ⟨RowsAt.nil, RowsAt.nil, RowsAt.nil⟩, U.out.below HB4.out (by omega)⟩
  by_cases k3 : r.kind = 3
  · have HQ := Lib.hid k3
    have u1 : (r.kind == 1) = false := by simpa using k1
    have u2 : (r.kind == 2) = false := by simpa using k2
    have u3 : (r.kind == 3) = true := by simpa using k3
    clear k1 k2 k3
    have a9 : w3.cell? ⟨w.heap.size + 1, 9, none⟩ = some (.int .i64 r.at_) := T1.out.cell 9
    have b2 : w3.cell? ⟨w.heap.size, 2, none⟩ = some (.int .i64 k.snp.idx) := T0.out.cell 2
    by_cases h1 : r.at_ ≤ k.snp.idx
    · have HF := Lib.hid (folded_cut_no (k := k) HQ.out (.inl h1))
      have t1 : decide (r.at_ ≤ k.snp.idx) = true := decide_eq_true h1
      clear h1
      go_wp2_with fail
      refine (rNo_any 140 w3).mono ?_
      rintro e w4 ⟨A4, c4, B4, d4, E4, n4, rfl, hk4, hb⟩
      have V2 := Lib.hid (T2.out.below hb T2.out.lt)
      have HB4 : Hid (Below w.heap.size w w4) := Lib.hid (HB3.out.trans (hb.mono (by have := HZ3.out; omega)))
      clear hb hk4
      go_wp2_with (first
        | ((with_reducible refine wpList_store_blk rfl 30 _ _ rfl (w.heap.size + 1 + 1) (Kep.zero.cs A4 c4 B4 d4 E4 n4) rfl rfl V2 (by simp) (by simp [Kep.cs]) HI (by simp [Kep.cs, Value.oneCell']) ?_)
           intro w9 U))
      refine bodyPost_ret (results_blk_tmp rfl _ _ (w.heap.size + 1 + 1) rfl (Lib.hid U.out.blk) (by simp [Kep.cs]) Try.underlying30 rfl HI) rfl ?_
      unfold FoldsEnd
      rw [HF.out]
      exact ⟨A4, c4, B4, d4, E4, n4, rfl, ⟨RowsAt.nil, RowsAt.nil, RowsAt.nil⟩, U.out.below HB4.out (by omega)⟩
    · have t1 : decide (r.at_ ≤ k.snp.idx) = false := decide_eq_false h1
      by_cases h2 : k.last < r.at_
      · have HF := Lib.hid (folded_cut_no (k := k) HQ.out (.inr h2))
        have t2 : decide (k.last < r.at_) = true := decide_eq_true h2
        clear h2
        go_wp2_with fail
        refine (rNo_any 140 w3).mono ?_
        rintro e w4 ⟨A4, c4, B4, d4, E4, n4, rfl, hk4, hb⟩
        have V2 := Lib.hid (T2.out.below hb T2.out.lt)
        have HB4 : Hid (Below w.heap.size w w4) := Lib.hid (HB3.out.trans (hb.mono (by have := HZ3.out; omega)))
        clear hb hk4
        go_wp2_with (first
          | ((with_reducible refine wpList_store_blk rfl 30 _ _ rfl (w.heap.size + 1 + 1) (Kep.zero.cs A4 c4 B4 d4 E4 n4) rfl rfl V2 (by simp) (by simp [Kep.cs]) HI (by simp [Kep.cs, Value.oneCell']) ?_)
             intro w9 U))
        refine bodyPost_ret (results_blk_tmp rfl _ _ (w.heap.size + 1 + 1) rfl (Lib.hid U.out.blk) (by simp [Kep.cs]) Try.underlying30 rfl HI) rfl ?_
        unfold FoldsEnd
        rw [HF.out]
        exact ⟨A4, c4, B4, d4, E4, n4, rfl, ⟨RowsAt.nil, RowsAt.nil, RowsAt.nil⟩, U.out.below HB4.out (by omega)⟩
      · have HF := Lib.hid (folded_cut_ok (k := k) HQ.out (by omega))
        have t2 : decide (k.last < r.at_) = false := decide_eq_false h2
        have hkl : k.last = k.snp.idx + (k.ents.length : Int) := rfl
        have q1 := okN_i HO.out.idx
        have q2 := HO.out.len
        obtain ⟨q, hq⟩ : ∃ q : Nat, r.at_ - k.snp.idx - 1 = (q : Int) := ⟨(r.at_ - k.snp.idx - 1).toNat, by omega⟩
        have hq2 : q < k.ents.length := by omega
        rw [hq, Int.toNat_natCast] at HF
        have s1 : IntKind.i64.wrap (r.at_ - k.snp.idx) = r.at_ - k.snp.idx := IntWalk.i64_in _ (by omega)
        have s2 : IntKind.i64.wrap (r.at_ - k.snp.idx - 1) = (q : Int) := by rw [hq]; exact IntWalk.i64_in _ (by omega)
        obtain ⟨xs, ho, hth⟩ := HO3.out.e
        have hcap := own_cap ho
        obtain ⟨ge, cap, hv, _, hlt⟩ := ho.form (by omega)
        have hE : E' = some ⟨ge, 0, none⟩ := by injection hv
        subst hE
        clear ho hth hv
        have HTL : Hid ((k.ents.take q).length = q) := Lib.hid (by rw [List.length_take]; omega)
        have c7 : w3.cell? ⟨g, 7, none⟩ = some (.slice (some ⟨ge, 0, none⟩) k.ents.length n') := T3.out.cell 7
        have f7 : w3.frozen? ⟨g, 7, none⟩ = false := T3.out.frozen 7
        have v1 : (0 : Int) ≤ (q : Int) := Int.natCast_nonneg _
        have v2 : (q : Int) ≤ (n' : Int) := by omega
        clear hq h1 h2 hkl
        have V3 : Hid (Blk (w3.setCell ⟨g, 7, none⟩ (.slice (some ⟨ge, 0, none⟩) q n')) g 30 [.int .i64 k.term, .int .i64 k.vote, .int .i64 k.snp.idx, .int .i64 k.snp.term, .slice A' k.snp.v.length c', .slice B' k.snp.l.length d', .string (text k.snp.b), .slice (some ⟨ge, 0, none⟩) q n']) := Lib.hid (by have := T3.out.set_ 7 (.slice (some ⟨ge, 0, none⟩) q n'); simpa using this)
        have V2 : Hid (Blk (w3.setCell ⟨g, 7, none⟩ (.slice (some ⟨ge, 0, none⟩) q n')) (w.heap.size + 1 + 1) 30 [.int .i64 0, .int .i64 0, .int .i64 0, .int .i64 0, .slice none 0 0, .slice none 0 0, .string ⟨#[]⟩, .slice none 0 0]) := Lib.hid (T2.out.far (p := ⟨g, 7, none⟩) hG2 _)
        go_wp2_with (first
          | (with_reducible refine wpList_load_blk rfl 30 _ rfl g rfl V3 (by simp) Try.underlying30 rfl HI ?_)
          | ((with_reducible refine wpList_store_blk rfl 30 _ _ rfl (w.heap.size + 1 + 1) [.int .i64 k.term, .int .i64 k.vote, .int .i64 k.snp.idx, .int .i64 k.snp.term, .slice A' k.snp.v.length c', .slice B' k.snp.l.length d', .string (text k.snp.b), .slice (some ⟨ge, 0, none⟩) q n'] rfl rfl V2 (by simp) (by simp) HI (by simp [Value.oneCell']) ?_)
             intro w9 U))
        have KK : Keeps [30] w3 w9 := Keeps.trans (by repeat (first | with_reducible exact Keeps.refl _ _ | (with_reducible refine Keeps.step1 ?_ (by repeat (first | with_reducible exact Blk.typ T3.out | with_reducible refine TypeAt.setCell ?_ _ _))))) U.out.keeps
        refine bodyPost_ret (results_blk_tmp rfl _ _ (w.heap.size + 1 + 1) rfl (Lib.hid U.out.blk) (by simp) Try.underlying30 rfl HI) rfl ?_
        unfold FoldsEnd
        rw [HF.out]
        have hz := HZ3.out
        have hk := (HO3.out.keeps KK (by decide) (by decide)).at_.nw_more (b' := w.heap.size) (by omega)
        refine ⟨A', c', B', d', some ⟨ge, 0, none⟩, n', by simp only [Kep.cs, HTL.out]; rfl, ⟨hk.v, hk.l, ?_⟩, U.out.below (by repeat (first | with_reducible exact HB3.out | (with_reducible refine Below.setCell ?_ (by dsimp only; (first | omega | (simp; done) | (simp; omega))) _) | (with_reducible refine Below.alloc ?_ (by (first | omega | (simp; done) | (simp; omega))) _) | with_reducible refine Below.drew ?_)) (by omega)⟩
        have h := hk.e.take q
        rwa [← List.map_take] at h
  have a10 : w3.cell? ⟨w.heap.size + 1, 10, none⟩ = some (.int .i64 r.snp.idx) := T1.out.cell 10
  have b2 : w3.cell? ⟨w.heap.size, 2, none⟩ = some (.int .i64 k.snp.idx) := T0.out.cell 2
  have u1 : (r.kind == 1) = false := by simpa using k1
  have u2 : (r.kind == 2) = false := by simpa using k2
  have u3 : (r.kind == 3) = false := by simpa using k3
  by_cases ht : r.snp.idx ≤ k.snp.idx
  · have HF := Lib.hid (foldedR_no k1 k2 k3 ht)
    have t : decide (r.snp.idx ≤ k.snp.idx) = true := decide_eq_true ht
    clear k1 k2 k3 ht
    go_wp2_with fail
    refine (rNo_any 140 w3).mono ?_
    rintro e w4 ⟨A4, c4, B4, d4, E4, n4, rfl, hk4, hb⟩
    have V2 := Lib.hid (T2.out.below hb T2.out.lt)
    have HB4 : Hid (Below w.heap.size w w4) := Lib.hid (HB3.out.trans (hb.mono (by have := HZ3.out; omega)))
    clear hb hk4
    go_wp2_with (first
      | ((with_reducible refine wpList_store_blk rfl 30 _ _ rfl (w.heap.size + 1 + 1) (Kep.zero.cs A4 c4 B4 d4 E4 n4) rfl rfl V2 (by simp) (by simp [Kep.cs]) HI (by simp [Kep.cs, Value.oneCell']) ?_)
         intro w9 U))
    refine bodyPost_ret (results_blk_tmp rfl _ _ (w.heap.size + 1 + 1) rfl (Lib.hid U.out.blk) (by simp [Kep.cs]) Try.underlying30 rfl HI) rfl ?_
    unfold FoldsEnd
    rw [HF.out]
    exact ⟨A4, c4, B4, d4, E4, n4, rfl, ⟨RowsAt.nil, RowsAt.nil, RowsAt.nil⟩, U.out.below HB4.out (by omega)⟩
  · have t : decide (r.snp.idx ≤ k.snp.idx) = false := decide_eq_false ht
    have HT : Hid (k.snp.idx < r.snp.idx) := Lib.hid (by omega)
    obtain ⟨q, hq⟩ : ∃ q : Nat, r.snp.idx - k.snp.idx - 1 = (q : Int) := ⟨(r.snp.idx - k.snp.idx - 1).toNat, by omega⟩
    have HQ := Lib.hid hq
    have q1 := okN_i HO.out.idx
    have q2 := HO.out.len
    have q4 := okN_i HP.out.2.2.2.2.2.idx
    have s1 : IntKind.i64.wrap (r.snp.idx - k.snp.idx) = r.snp.idx - k.snp.idx := IntWalk.i64_in _ (by omega)
    have s2 : IntKind.i64.wrap (r.snp.idx - k.snp.idx - 1) = (q : Int) := by rw [HQ.out]; exact IntWalk.i64_in _ (by omega)
    have HK123 : Hid (¬ r.kind = 1 ∧ ¬ r.kind = 2 ∧ ¬ r.kind = 3) := Lib.hid ⟨k1, k2, k3⟩
    clear hq ht k1 k2 k3
    have b7 : w3.cell? ⟨w.heap.size, 7, none⟩ = some (.slice E k.ents.length n) := T0.out.cell 7
    have a11 : w3.cell? ⟨w.heap.size + 1, 11, none⟩ = some (.int .i64 r.snp.term) := T1.out.cell 11
    by_cases hl : q < k.ents.length
    · obtain ⟨ad, A5, c5, B5, d5, rfl, _, _, _, hcell⟩ := ents_at HK3.out.e hl
      unfold Ent.cs at hcell
      have cx : w3.cell? ⟨(ad.add (q * 6)).block, (ad.add (q * 6)).off + 1, none⟩ = some (.int .i64 (k.ents[q]).term) := by rw [← add_field ad (q * 6) 1 (by decide)]; exact hcell 1 _ rfl
      have HX : Hid ((k.ents[q]).term = r.snp.term → foldedP k r = ({ k with snp := r.snp, ents := k.ents.drop (q + 1) }, 0)) := Lib.hid (fun h => foldedR_in HK123.out HT.out HQ.out hl h)
      have HY : Hid ((k.ents[q]).term ≠ r.snp.term → foldedP k r = ({ k with snp := r.snp, ents := [] }, 0)) := Lib.hid (fun h => foldedR_out HK123.out HT.out HQ.out (.inr ⟨hl, h⟩))
      generalize (k.ents[q]).term = tx at *
      have t1 : decide ((q : Int) < (k.ents.length : Int)) = true := decide_eq_true (by omega)
      have t' : decide (q < k.ents.length) = true := decide_eq_true hl
      have v0 : (0 : Int) ≤ (q : Int) := Int.natCast_nonneg _
      have v1 : (q : Int) < (k.ents.length : Int) := by omega
      clear hcell
      by_cases htx : tx = r.snp.term
      · have HF := Lib.hid (HX.out htx)
        have t2 : (tx == r.snp.term) = true := by simpa using htx
        clear htx HX HY
        obtain ⟨xs, ho, hth⟩ := HO3.out.e
        have hcap := own_cap ho
        obtain ⟨ge, cap, hv, _, hlt⟩ := ho.form (by omega)
        have hE : E' = some ⟨ge, 0, none⟩ := by injection hv
        subst hE
        clear ho hth hv
        go_wp2_with fail
        go_quiet (fail)
        clear t t1 t' t2 cx s1 s2
        have D1 : Hid (Blk (w3.drewN nq) (w.heap.size + 1) 36 [.int .i64 r.kind, .int .i64 r.term, .int .i64 r.vote, .int .i64 r.ent.idx, .int .i64 r.ent.term, .int .i64 r.ent.kind, .slice A1 r.ent.v.length c1, .slice B1 r.ent.l.length d1, .string (text r.ent.b), .int .i64 r.at_, .int .i64 r.snp.idx, .int .i64 r.snp.term, .slice A2 r.snp.v.length c2, .slice B2 r.snp.l.length d2, .string (text r.snp.b)]) := Lib.hid T1.out
        have D2 : Hid (Blk (w3.drewN nq) (w.heap.size + 1 + 1) 30 [.int .i64 0, .int .i64 0, .int .i64 0, .int .i64 0, .slice none 0 0, .slice none 0 0, .string ⟨#[]⟩, .slice none 0 0]) := Lib.hid T2.out
        have D3 : Hid (Blk (w3.drewN nq) g 30 [.int .i64 k.term, .int .i64 k.vote, .int .i64 k.snp.idx, .int .i64 k.snp.term, .slice A' k.snp.v.length c', .slice B' k.snp.l.length d', .string (text k.snp.b), .slice (some ⟨ge, 0, none⟩) k.ents.length n']) := Lib.hid T3.out
        have HOd : Hid (KepAt (w3.drewN nq) (Nw (w3.drewN nq) W.heap.size [34, 3]) k A' B' (some ⟨ge, 0, none⟩)) := Lib.hid (HO3.out.keeps (ts := []) (w' := w3.drewN nq) ⟨Nat.le_refl _, fun _ _ _ _ => rfl⟩ (by simp) (by simp)).at_
        have HBd : Hid (Below w.heap.size w (w3.drewN nq)) := Lib.hid (HB3.out.dn nq)
        have HAd : Hid (RcdAt' (w3.drewN nq) (· < (w3.drewN nq).heap.size) r A1 B1 A2 B2) := Lib.hid (by exact HA3.out.below ((Below.refl _ _).dn nq))
        have HZd : Hid (w.heap.size + 1 + 1 < g ∧ g < (w3.drewN nq).heap.size ∧ W.heap.size = w.heap.size + 1 + 1 + 1) := Lib.hid HZ3.out
        clear T0 T1 T2 T3 HO3 HB3 HA3 HK3 HZ3 a10 a11 b2 b7 e0
        generalize (w3.drewN nq) = V at *
        by_cases hc : n' = q + 1
        · have hm : k.ents.length = q + 1 := by omega
          have u6 : ((q : Int) + 1) ≤ (k.ents.length : Int) := by omega
          have u7 : (k.ents.length : Int) ≤ (n' : Int) := by omega
          have hz : k.ents.drop (q + 1) = [] := List.drop_eq_nil_of_le (by omega)
          rw [hz] at HF
          have c7 : V.cell? ⟨g, 7, none⟩ = some (.slice (some ⟨ge, 0, none⟩) k.ents.length n') := D3.out.cell 7
          have f7 : V.frozen? ⟨g, 7, none⟩ = false := D3.out.frozen 7
          have x10 : V.cell? ⟨w.heap.size + 1, 10, none⟩ = some (.int .i64 r.snp.idx) := D1.out.cell 10
          have x11 : V.cell? ⟨w.heap.size + 1, 11, none⟩ = some (.int .i64 r.snp.term) := D1.out.cell 11
          have x12 : V.cell? ⟨w.heap.size + 1, 12, none⟩ = some (.slice A2 r.snp.v.length c2) := D1.out.cell 12
          have x13 : V.cell? ⟨w.heap.size + 1, 13, none⟩ = some (.slice B2 r.snp.l.length d2) := D1.out.cell 13
          have x14 : V.cell? ⟨w.heap.size + 1, 14, none⟩ = some (.string (text r.snp.b)) := D1.out.cell 14
          go_wp2_with fail
          clear c7 f7 x10 x11 x12 x13 x14
          have HBk : Hid (Blk (V.setCell ⟨g, 7, none⟩ (.slice (some ⟨ge, 0, none⟩) 0 0)) g 30 [.int .i64 k.term, .int .i64 k.vote, .int .i64 k.snp.idx, .int .i64 k.snp.term, .slice A' k.snp.v.length c', .slice B' k.snp.l.length d', .string (text k.snp.b), .slice (some ⟨ge, 0, none⟩) 0 0]) := Lib.hid (by have := D3.out.set_ 7 (.slice (some ⟨ge, 0, none⟩) 0 0); simpa using this)
          have HB2k : Hid (Blk (V.setCell ⟨g, 7, none⟩ (.slice (some ⟨ge, 0, none⟩) 0 0)) (w.heap.size + 1 + 1) 30 [.int .i64 0, .int .i64 0, .int .i64 0, .int .i64 0, .slice none 0 0, .slice none 0 0, .string ⟨#[]⟩, .slice none 0 0]) := Lib.hid (D2.out.far (p := ⟨g, 7, none⟩) hG2 _)
          have HBb : Hid (Below w.heap.size w (V.setCell ⟨g, 7, none⟩ (.slice (some ⟨ge, 0, none⟩) 0 0))) := Lib.hid (HBd.out.setCell (by have := HZd.out; dsimp only; omega) _)
          have KF : Keeps [30] V (V.setCell ⟨g, 7, none⟩ (.slice (some ⟨ge, 0, none⟩) 0 0)) := Keeps.set_ D3.out.typ (by simp) _
          have HE : Hid (RowsAt (V.setCell ⟨g, 7, none⟩ (.slice (some ⟨ge, 0, none⟩) 0 0)) (Nw (V.setCell ⟨g, 7, none⟩ (.slice (some ⟨ge, 0, none⟩) 0 0)) W.heap.size [34, 3]) shEntry ((([] : List Ent)).map Ent.da) (some ⟨ge, 0, none⟩)) := Lib.hid (RowsAt.nil)
          have HAb : Hid (RcdAt' (V.setCell ⟨g, 7, none⟩ (.slice (some ⟨ge, 0, none⟩) 0 0)) (· < w.heap.size) r A1 B1 A2 B2) := Lib.hid (HA.out.below HBb.out)
          have HZb : Hid (w.heap.size + 1 + 1 < g ∧ g < (V.setCell ⟨g, 7, none⟩ (.slice (some ⟨ge, 0, none⟩) 0 0)).heap.size ∧ W.heap.size = w.heap.size + 1 + 1 + 1) := Lib.hid (by have := HZd.out; simpa using this)
          clear D1 D2 D3 HBd KF HOd HAd HZd
          generalize V.setCell ⟨g, 7, none⟩ (.slice (some ⟨ge, 0, none⟩) 0 0) = Y at *
          refine (rSnap_lit r.snp A2 c2 B2 d2 Y (HAb.out.sv.more (by have := HZb.out; omega)) (HAb.out.sl.more (by have := HZb.out; omega)) (by have := HS.out.s.v; omega) (by have := HS.out.s.l; omega)).mono ?_
          rintro e w5 ⟨A4, c4, B4, d4, rfl, hr3, hr4, hbl⟩
          unfold Snp.cs
          have R0 := Lib.hid (HBk.out.below hbl HBk.out.lt)
          have R2 := Lib.hid (HB2k.out.below hbl HB2k.out.lt)
          have HB5 : Hid (Below w.heap.size w w5) := Lib.hid (HBb.out.trans (hbl.mono (by have := HZb.out; omega)))
          have HE5 := Lib.hid (HE.out.nw_below hbl)
          have HR3 := Lib.hid (hr3.nw_mono (base' := w.heap.size) (by have := HZb.out; omega) fun _ h => h)
          have HR4 := Lib.hid (hr4.nw_mono (base' := w.heap.size) (by have := HZb.out; omega) fun _ h => h)
          clear hr3 hr4 hbl HBk HB2k HBb HE HAb
          have c2' : w5.cell? ⟨g, 2, none⟩ = some (.int .i64 k.snp.idx) := R0.out.cell 2
          have c3' : w5.cell? ⟨g, 3, none⟩ = some (.int .i64 k.snp.term) := R0.out.cell 3
          have c4' : w5.cell? ⟨g, 4, none⟩ = some (.slice A' k.snp.v.length c') := R0.out.cell 4
          have c5' : w5.cell? ⟨g, 5, none⟩ = some (.slice B' k.snp.l.length d') := R0.out.cell 5
          have c6' : w5.cell? ⟨g, 6, none⟩ = some (.string (text k.snp.b)) := R0.out.cell 6
          have f2' : w5.frozen? ⟨g, 2, none⟩ = false := R0.out.frozen 2
          have f3' : w5.frozen? ⟨g, 3, none⟩ = false := R0.out.frozen 3
          have f4' : w5.frozen? ⟨g, 4, none⟩ = false := R0.out.frozen 4
          have f5' : w5.frozen? ⟨g, 5, none⟩ = false := R0.out.frozen 5
          have f6' : w5.frozen? ⟨g, 6, none⟩ = false := R0.out.frozen 6
          have V3 : Hid (Blk (((((w5.setCell ⟨g, 2, none⟩ (.int .i64 r.snp.idx)).setCell ⟨g, 3, none⟩ (.int .i64 r.snp.term)).setCell ⟨g, 4, none⟩ (.slice A4 r.snp.v.length c4)).setCell ⟨g, 5, none⟩ (.slice B4 r.snp.l.length d4)).setCell ⟨g, 6, none⟩ (.string (text r.snp.b))) g 30 [.int .i64 k.term, .int .i64 k.vote, .int .i64 r.snp.idx, .int .i64 r.snp.term, .slice A4 r.snp.v.length c4, .slice B4 r.snp.l.length d4, .string (text r.snp.b), .slice (some ⟨ge, 0, none⟩) 0 0]) := Lib.hid (by have := R0.out.set_ 2 (.int .i64 r.snp.idx) |>.set_ 3 (.int .i64 r.snp.term) |>.set_ 4 (.slice A4 r.snp.v.length c4) |>.set_ 5 (.slice B4 r.snp.l.length d4) |>.set_ 6 (.string (text r.snp.b)); simpa using this)
          have V2 : Hid (Blk (((((w5.setCell ⟨g, 2, none⟩ (.int .i64 r.snp.idx)).setCell ⟨g, 3, none⟩ (.int .i64 r.snp.term)).setCell ⟨g, 4, none⟩ (.slice A4 r.snp.v.length c4)).setCell ⟨g, 5, none⟩ (.slice B4 r.snp.l.length d4)).setCell ⟨g, 6, none⟩ (.string (text r.snp.b))) (w.heap.size + 1 + 1) 30 [.int .i64 0, .int .i64 0, .int .i64 0, .int .i64 0, .slice none 0 0, .slice none 0 0, .string ⟨#[]⟩, .slice none 0 0]) := Lib.hid (((((R2.out.far (p := ⟨g, 2, none⟩) hG2 _).far (p := ⟨g, 3, none⟩) hG2 _).far (p := ⟨g, 4, none⟩) hG2 _).far (p := ⟨g, 5, none⟩) hG2 _).far (p := ⟨g, 6, none⟩) hG2 _)
          go_wp2_with (first
            | (with_reducible refine wpList_load_blk rfl 30 _ rfl g rfl V3 (by simp) Try.underlying30 rfl HI ?_)
            | ((with_reducible refine wpList_store_blk rfl 30 _ _ rfl (w.heap.size + 1 + 1) [.int .i64 k.term, .int .i64 k.vote, .int .i64 r.snp.idx, .int .i64 r.snp.term, .slice A4 r.snp.v.length c4, .slice B4 r.snp.l.length d4, .string (text r.snp.b), .slice (some ⟨ge, 0, none⟩) 0 0] rfl rfl V2 (by simp) (by simp) HI (by simp [Value.oneCell']) ?_)
               intro w9 U))
          have KZ : Keeps [30] w5 w9 := Keeps.trans (by repeat (first | with_reducible exact Keeps.refl _ _ | (with_reducible refine Keeps.step1 ?_ (by repeat (first | with_reducible exact Blk.typ R0.out | with_reducible refine TypeAt.setCell ?_ _ _))))) U.out.keeps
          refine bodyPost_ret (results_blk_tmp rfl _ _ (w.heap.size + 1 + 1) rfl (Lib.hid U.out.blk) (by simp) Try.underlying30 rfl HI) rfl ?_
          unfold FoldsEnd
          rw [HF.out]
          have hz := HZb.out
          refine ⟨A4, c4, B4, d4, some ⟨ge, 0, none⟩, 0, rfl, ⟨?_, ?_, ?_⟩, U.out.below (by repeat (first | with_reducible exact HB5.out | (with_reducible refine Below.setCell ?_ (by dsimp only; (first | omega | (simp; done) | (simp; omega))) _) | (with_reducible refine Below.alloc ?_ (by (first | omega | (simp; done) | (simp; omega))) _) | with_reducible refine Below.drew ?_)) (by omega)⟩
          · exact (HR3.out.nw_keeps KZ (by decide)).nw_mono (Nat.le_refl _) (by simp)
          · exact (HR4.out.nw_keeps KZ (by decide)).nw_mono (Nat.le_refl _) (by simp)
          · exact (HE5.out.nw_keeps KZ (by decide)).nw_mono (by omega) (fun _ h => h)
        · have u6 : ((q : Int) + 1) ≤ (k.ents.length : Int) := by omega
          have u7 : (k.ents.length : Int) ≤ (n' : Int) := by omega
          have c7 : V.cell? ⟨g, 7, none⟩ = some (.slice (some ⟨ge, 0, none⟩) k.ents.length n') := D3.out.cell 7
          have f7 : V.frozen? ⟨g, 7, none⟩ = false := D3.out.frozen 7
          have x10 : V.cell? ⟨w.heap.size + 1, 10, none⟩ = some (.int .i64 r.snp.idx) := D1.out.cell 10
          have x11 : V.cell? ⟨w.heap.size + 1, 11, none⟩ = some (.int .i64 r.snp.term) := D1.out.cell 11
          have x12 : V.cell? ⟨w.heap.size + 1, 12, none⟩ = some (.slice A2 r.snp.v.length c2) := D1.out.cell 12
          have x13 : V.cell? ⟨w.heap.size + 1, 13, none⟩ = some (.slice B2 r.snp.l.length d2) := D1.out.cell 13
          have x14 : V.cell? ⟨w.heap.size + 1, 14, none⟩ = some (.string (text r.snp.b)) := D1.out.cell 14
          go_wp2_with fail
          clear c7 f7 x10 x11 x12 x13 x14
          have HBk : Hid (Blk (V.setCell ⟨g, 7, none⟩ (.slice (some ⟨ge, (q + 1) * 6, none⟩) (k.ents.length - (q + 1)) (n' - (q + 1)))) g 30 [.int .i64 k.term, .int .i64 k.vote, .int .i64 k.snp.idx, .int .i64 k.snp.term, .slice A' k.snp.v.length c', .slice B' k.snp.l.length d', .string (text k.snp.b), .slice (some ⟨ge, (q + 1) * 6, none⟩) (k.ents.length - (q + 1)) (n' - (q + 1))]) := Lib.hid (by have := D3.out.set_ 7 (.slice (some ⟨ge, (q + 1) * 6, none⟩) (k.ents.length - (q + 1)) (n' - (q + 1))); simpa using this)
          have HB2k : Hid (Blk (V.setCell ⟨g, 7, none⟩ (.slice (some ⟨ge, (q + 1) * 6, none⟩) (k.ents.length - (q + 1)) (n' - (q + 1)))) (w.heap.size + 1 + 1) 30 [.int .i64 0, .int .i64 0, .int .i64 0, .int .i64 0, .slice none 0 0, .slice none 0 0, .string ⟨#[]⟩, .slice none 0 0]) := Lib.hid (D2.out.far (p := ⟨g, 7, none⟩) hG2 _)
          have HBb : Hid (Below w.heap.size w (V.setCell ⟨g, 7, none⟩ (.slice (some ⟨ge, (q + 1) * 6, none⟩) (k.ents.length - (q + 1)) (n' - (q + 1))))) := Lib.hid (HBd.out.setCell (by have := HZd.out; dsimp only; omega) _)
          have KF : Keeps [30] V (V.setCell ⟨g, 7, none⟩ (.slice (some ⟨ge, (q + 1) * 6, none⟩) (k.ents.length - (q + 1)) (n' - (q + 1)))) := Keeps.set_ D3.out.typ (by simp) _
          have HE : Hid (RowsAt (V.setCell ⟨g, 7, none⟩ (.slice (some ⟨ge, (q + 1) * 6, none⟩) (k.ents.length - (q + 1)) (n' - (q + 1)))) (Nw (V.setCell ⟨g, 7, none⟩ (.slice (some ⟨ge, (q + 1) * 6, none⟩) (k.ents.length - (q + 1)) (n' - (q + 1)))) W.heap.size [34, 3]) shEntry ((k.ents.drop (q + 1)).map Ent.da) (some ⟨ge, (q + 1) * 6, none⟩)) := Lib.hid (by have := (HOd.out.e.drop_ (q + 1)).nw_keeps KF (by decide); rw [List.map_drop]; exact this)
          have HAb : Hid (RcdAt' (V.setCell ⟨g, 7, none⟩ (.slice (some ⟨ge, (q + 1) * 6, none⟩) (k.ents.length - (q + 1)) (n' - (q + 1)))) (· < w.heap.size) r A1 B1 A2 B2) := Lib.hid (HA.out.below HBb.out)
          have HZb : Hid (w.heap.size + 1 + 1 < g ∧ g < (V.setCell ⟨g, 7, none⟩ (.slice (some ⟨ge, (q + 1) * 6, none⟩) (k.ents.length - (q + 1)) (n' - (q + 1)))).heap.size ∧ W.heap.size = w.heap.size + 1 + 1 + 1) := Lib.hid (by have := HZd.out; simpa using this)
          clear D1 D2 D3 HBd KF HOd HAd HZd
          generalize V.setCell ⟨g, 7, none⟩ (.slice (some ⟨ge, (q + 1) * 6, none⟩) (k.ents.length - (q + 1)) (n' - (q + 1))) = Y at *
          refine (rSnap_lit r.snp A2 c2 B2 d2 Y (HAb.out.sv.more (by have := HZb.out; omega)) (HAb.out.sl.more (by have := HZb.out; omega)) (by have := HS.out.s.v; omega) (by have := HS.out.s.l; omega)).mono ?_
          rintro e w5 ⟨A4, c4, B4, d4, rfl, hr3, hr4, hbl⟩
          unfold Snp.cs
          have R0 := Lib.hid (HBk.out.below hbl HBk.out.lt)
          have R2 := Lib.hid (HB2k.out.below hbl HB2k.out.lt)
          have HB5 : Hid (Below w.heap.size w w5) := Lib.hid (HBb.out.trans (hbl.mono (by have := HZb.out; omega)))
          have HE5 := Lib.hid (HE.out.nw_below hbl)
          have HR3 := Lib.hid (hr3.nw_mono (base' := w.heap.size) (by have := HZb.out; omega) fun _ h => h)
          have HR4 := Lib.hid (hr4.nw_mono (base' := w.heap.size) (by have := HZb.out; omega) fun _ h => h)
          clear hr3 hr4 hbl HBk HB2k HBb HE HAb
          have c2' : w5.cell? ⟨g, 2, none⟩ = some (.int .i64 k.snp.idx) := R0.out.cell 2
          have c3' : w5.cell? ⟨g, 3, none⟩ = some (.int .i64 k.snp.term) := R0.out.cell 3
          have c4' : w5.cell? ⟨g, 4, none⟩ = some (.slice A' k.snp.v.length c') := R0.out.cell 4
          have c5' : w5.cell? ⟨g, 5, none⟩ = some (.slice B' k.snp.l.length d') := R0.out.cell 5
          have c6' : w5.cell? ⟨g, 6, none⟩ = some (.string (text k.snp.b)) := R0.out.cell 6
          have f2' : w5.frozen? ⟨g, 2, none⟩ = false := R0.out.frozen 2
          have f3' : w5.frozen? ⟨g, 3, none⟩ = false := R0.out.frozen 3
          have f4' : w5.frozen? ⟨g, 4, none⟩ = false := R0.out.frozen 4
          have f5' : w5.frozen? ⟨g, 5, none⟩ = false := R0.out.frozen 5
          have f6' : w5.frozen? ⟨g, 6, none⟩ = false := R0.out.frozen 6
          have V3 : Hid (Blk (((((w5.setCell ⟨g, 2, none⟩ (.int .i64 r.snp.idx)).setCell ⟨g, 3, none⟩ (.int .i64 r.snp.term)).setCell ⟨g, 4, none⟩ (.slice A4 r.snp.v.length c4)).setCell ⟨g, 5, none⟩ (.slice B4 r.snp.l.length d4)).setCell ⟨g, 6, none⟩ (.string (text r.snp.b))) g 30 [.int .i64 k.term, .int .i64 k.vote, .int .i64 r.snp.idx, .int .i64 r.snp.term, .slice A4 r.snp.v.length c4, .slice B4 r.snp.l.length d4, .string (text r.snp.b), .slice (some ⟨ge, (q + 1) * 6, none⟩) (k.ents.length - (q + 1)) (n' - (q + 1))]) := Lib.hid (by have := R0.out.set_ 2 (.int .i64 r.snp.idx) |>.set_ 3 (.int .i64 r.snp.term) |>.set_ 4 (.slice A4 r.snp.v.length c4) |>.set_ 5 (.slice B4 r.snp.l.length d4) |>.set_ 6 (.string (text r.snp.b)); simpa using this)
          have V2 : Hid (Blk (((((w5.setCell ⟨g, 2, none⟩ (.int .i64 r.snp.idx)).setCell ⟨g, 3, none⟩ (.int .i64 r.snp.term)).setCell ⟨g, 4, none⟩ (.slice A4 r.snp.v.length c4)).setCell ⟨g, 5, none⟩ (.slice B4 r.snp.l.length d4)).setCell ⟨g, 6, none⟩ (.string (text r.snp.b))) (w.heap.size + 1 + 1) 30 [.int .i64 0, .int .i64 0, .int .i64 0, .int .i64 0, .slice none 0 0, .slice none 0 0, .string ⟨#[]⟩, .slice none 0 0]) := Lib.hid (((((R2.out.far (p := ⟨g, 2, none⟩) hG2 _).far (p := ⟨g, 3, none⟩) hG2 _).far (p := ⟨g, 4, none⟩) hG2 _).far (p := ⟨g, 5, none⟩) hG2 _).far (p := ⟨g, 6, none⟩) hG2 _)
          go_wp2_with (first
            | (with_reducible refine wpList_load_blk rfl 30 _ rfl g rfl V3 (by simp) Try.underlying30 rfl HI ?_)
            | ((with_reducible refine wpList_store_blk rfl 30 _ _ rfl (w.heap.size + 1 + 1) [.int .i64 k.term, .int .i64 k.vote, .int .i64 r.snp.idx, .int .i64 r.snp.term, .slice A4 r.snp.v.length c4, .slice B4 r.snp.l.length d4, .string (text r.snp.b), .slice (some ⟨ge, (q + 1) * 6, none⟩) (k.ents.length - (q + 1)) (n' - (q + 1))] rfl rfl V2 (by simp) (by simp) HI (by simp [Value.oneCell']) ?_)
               intro w9 U))
          have KZ : Keeps [30] w5 w9 := Keeps.trans (by repeat (first | with_reducible exact Keeps.refl _ _ | (with_reducible refine Keeps.step1 ?_ (by repeat (first | with_reducible exact Blk.typ R0.out | with_reducible refine TypeAt.setCell ?_ _ _))))) U.out.keeps
          refine bodyPost_ret (results_blk_tmp rfl _ _ (w.heap.size + 1 + 1) rfl (Lib.hid U.out.blk) (by simp) Try.underlying30 rfl HI) rfl ?_
          unfold FoldsEnd
          rw [HF.out]
          have hz := HZb.out
          refine ⟨A4, c4, B4, d4, some ⟨ge, (q + 1) * 6, none⟩, n' - (q + 1), by simp only [Kep.cs, List.length_drop]; rfl, ⟨?_, ?_, ?_⟩, U.out.below (by repeat (first | with_reducible exact HB5.out | (with_reducible refine Below.setCell ?_ (by dsimp only; (first | omega | (simp; done) | (simp; omega))) _) | (with_reducible refine Below.alloc ?_ (by (first | omega | (simp; done) | (simp; omega))) _) | with_reducible refine Below.drew ?_)) (by omega)⟩
          · exact (HR3.out.nw_keeps KZ (by decide)).nw_mono (Nat.le_refl _) (by simp)
          · exact (HR4.out.nw_keeps KZ (by decide)).nw_mono (Nat.le_refl _) (by simp)
          · exact (HE5.out.nw_keeps KZ (by decide)).nw_mono (by omega) (fun _ h => h)
      · have HF := Lib.hid (HY.out htx)
        have t2 : (tx == r.snp.term) = false := by simpa using htx
        clear htx HX HY
        go_wp2_with fail
        go_quiet (fail)
        clear t t1 t' t2 cx s1 s2
        have D1 : Hid (Blk (w3.drewN nq) (w.heap.size + 1) 36 [.int .i64 r.kind, .int .i64 r.term, .int .i64 r.vote, .int .i64 r.ent.idx, .int .i64 r.ent.term, .int .i64 r.ent.kind, .slice A1 r.ent.v.length c1, .slice B1 r.ent.l.length d1, .string (text r.ent.b), .int .i64 r.at_, .int .i64 r.snp.idx, .int .i64 r.snp.term, .slice A2 r.snp.v.length c2, .slice B2 r.snp.l.length d2, .string (text r.snp.b)]) := Lib.hid T1.out
        have D2 : Hid (Blk (w3.drewN nq) (w.heap.size + 1 + 1) 30 [.int .i64 0, .int .i64 0, .int .i64 0, .int .i64 0, .slice none 0 0, .slice none 0 0, .string ⟨#[]⟩, .slice none 0 0]) := Lib.hid T2.out
        have D3 : Hid (Blk (w3.drewN nq) g 30 [.int .i64 k.term, .int .i64 k.vote, .int .i64 k.snp.idx, .int .i64 k.snp.term, .slice A' k.snp.v.length c', .slice B' k.snp.l.length d', .string (text k.snp.b), .slice E' k.ents.length n']) := Lib.hid T3.out
        have HOd : Hid (KepAt (w3.drewN nq) (Nw (w3.drewN nq) W.heap.size [34, 3]) k A' B' E') := Lib.hid (HO3.out.keeps (ts := []) (w' := w3.drewN nq) ⟨Nat.le_refl _, fun _ _ _ _ => rfl⟩ (by simp) (by simp)).at_
        have HBd : Hid (Below w.heap.size w (w3.drewN nq)) := Lib.hid (HB3.out.dn nq)
        have HAd : Hid (RcdAt' (w3.drewN nq) (· < (w3.drewN nq).heap.size) r A1 B1 A2 B2) := Lib.hid (by exact HA3.out.below ((Below.refl _ _).dn nq))
        have HZd : Hid (w.heap.size + 1 + 1 < g ∧ g < (w3.drewN nq).heap.size ∧ W.heap.size = w.heap.size + 1 + 1 + 1) := Lib.hid HZ3.out
        clear T0 T1 T2 T3 HO3 HB3 HA3 HK3 HZ3 a10 a11 b2 b7 e0
        generalize (w3.drewN nq) = V at *
        have c7 : V.cell? ⟨g, 7, none⟩ = some (.slice E' k.ents.length n') := D3.out.cell 7
        have f7 : V.frozen? ⟨g, 7, none⟩ = false := D3.out.frozen 7
        have x10 : V.cell? ⟨w.heap.size + 1, 10, none⟩ = some (.int .i64 r.snp.idx) := D1.out.cell 10
        have x11 : V.cell? ⟨w.heap.size + 1, 11, none⟩ = some (.int .i64 r.snp.term) := D1.out.cell 11
        have x12 : V.cell? ⟨w.heap.size + 1, 12, none⟩ = some (.slice A2 r.snp.v.length c2) := D1.out.cell 12
        have x13 : V.cell? ⟨w.heap.size + 1, 13, none⟩ = some (.slice B2 r.snp.l.length d2) := D1.out.cell 13
        have x14 : V.cell? ⟨w.heap.size + 1, 14, none⟩ = some (.string (text r.snp.b)) := D1.out.cell 14
        go_wp2_with fail
        clear c7 f7 x10 x11 x12 x13 x14
        have HBk : Hid (Blk (V.setCell ⟨g, 7, none⟩ (.slice none 0 0)) g 30 [.int .i64 k.term, .int .i64 k.vote, .int .i64 k.snp.idx, .int .i64 k.snp.term, .slice A' k.snp.v.length c', .slice B' k.snp.l.length d', .string (text k.snp.b), .slice none 0 0]) := Lib.hid (by have := D3.out.set_ 7 (.slice none 0 0); simpa using this)
        have HB2k : Hid (Blk (V.setCell ⟨g, 7, none⟩ (.slice none 0 0)) (w.heap.size + 1 + 1) 30 [.int .i64 0, .int .i64 0, .int .i64 0, .int .i64 0, .slice none 0 0, .slice none 0 0, .string ⟨#[]⟩, .slice none 0 0]) := Lib.hid (D2.out.far (p := ⟨g, 7, none⟩) hG2 _)
        have HBb : Hid (Below w.heap.size w (V.setCell ⟨g, 7, none⟩ (.slice none 0 0))) := Lib.hid (HBd.out.setCell (by have := HZd.out; dsimp only; omega) _)
        have KF : Keeps [30] V (V.setCell ⟨g, 7, none⟩ (.slice none 0 0)) := Keeps.set_ D3.out.typ (by simp) _
        have HE : Hid (RowsAt (V.setCell ⟨g, 7, none⟩ (.slice none 0 0)) (Nw (V.setCell ⟨g, 7, none⟩ (.slice none 0 0)) W.heap.size [34, 3]) shEntry ((([] : List Ent)).map Ent.da) (none)) := Lib.hid (RowsAt.nil)
        have HAb : Hid (RcdAt' (V.setCell ⟨g, 7, none⟩ (.slice none 0 0)) (· < w.heap.size) r A1 B1 A2 B2) := Lib.hid (HA.out.below HBb.out)
        have HZb : Hid (w.heap.size + 1 + 1 < g ∧ g < (V.setCell ⟨g, 7, none⟩ (.slice none 0 0)).heap.size ∧ W.heap.size = w.heap.size + 1 + 1 + 1) := Lib.hid (by have := HZd.out; simpa using this)
        clear D1 D2 D3 HBd KF HOd HAd HZd
        generalize V.setCell ⟨g, 7, none⟩ (.slice none 0 0) = Y at *
        refine (rSnap_lit r.snp A2 c2 B2 d2 Y (HAb.out.sv.more (by have := HZb.out; omega)) (HAb.out.sl.more (by have := HZb.out; omega)) (by have := HS.out.s.v; omega) (by have := HS.out.s.l; omega)).mono ?_
        rintro e w5 ⟨A4, c4, B4, d4, rfl, hr3, hr4, hbl⟩
        unfold Snp.cs
        have R0 := Lib.hid (HBk.out.below hbl HBk.out.lt)
        have R2 := Lib.hid (HB2k.out.below hbl HB2k.out.lt)
        have HB5 : Hid (Below w.heap.size w w5) := Lib.hid (HBb.out.trans (hbl.mono (by have := HZb.out; omega)))
        have HE5 := Lib.hid (HE.out.nw_below hbl)
        have HR3 := Lib.hid (hr3.nw_mono (base' := w.heap.size) (by have := HZb.out; omega) fun _ h => h)
        have HR4 := Lib.hid (hr4.nw_mono (base' := w.heap.size) (by have := HZb.out; omega) fun _ h => h)
        clear hr3 hr4 hbl HBk HB2k HBb HE HAb
        have c2' : w5.cell? ⟨g, 2, none⟩ = some (.int .i64 k.snp.idx) := R0.out.cell 2
        have c3' : w5.cell? ⟨g, 3, none⟩ = some (.int .i64 k.snp.term) := R0.out.cell 3
        have c4' : w5.cell? ⟨g, 4, none⟩ = some (.slice A' k.snp.v.length c') := R0.out.cell 4
        have c5' : w5.cell? ⟨g, 5, none⟩ = some (.slice B' k.snp.l.length d') := R0.out.cell 5
        have c6' : w5.cell? ⟨g, 6, none⟩ = some (.string (text k.snp.b)) := R0.out.cell 6
        have f2' : w5.frozen? ⟨g, 2, none⟩ = false := R0.out.frozen 2
        have f3' : w5.frozen? ⟨g, 3, none⟩ = false := R0.out.frozen 3
        have f4' : w5.frozen? ⟨g, 4, none⟩ = false := R0.out.frozen 4
        have f5' : w5.frozen? ⟨g, 5, none⟩ = false := R0.out.frozen 5
        have f6' : w5.frozen? ⟨g, 6, none⟩ = false := R0.out.frozen 6
        have V3 : Hid (Blk (((((w5.setCell ⟨g, 2, none⟩ (.int .i64 r.snp.idx)).setCell ⟨g, 3, none⟩ (.int .i64 r.snp.term)).setCell ⟨g, 4, none⟩ (.slice A4 r.snp.v.length c4)).setCell ⟨g, 5, none⟩ (.slice B4 r.snp.l.length d4)).setCell ⟨g, 6, none⟩ (.string (text r.snp.b))) g 30 [.int .i64 k.term, .int .i64 k.vote, .int .i64 r.snp.idx, .int .i64 r.snp.term, .slice A4 r.snp.v.length c4, .slice B4 r.snp.l.length d4, .string (text r.snp.b), .slice none 0 0]) := Lib.hid (by have := R0.out.set_ 2 (.int .i64 r.snp.idx) |>.set_ 3 (.int .i64 r.snp.term) |>.set_ 4 (.slice A4 r.snp.v.length c4) |>.set_ 5 (.slice B4 r.snp.l.length d4) |>.set_ 6 (.string (text r.snp.b)); simpa using this)
        have V2 : Hid (Blk (((((w5.setCell ⟨g, 2, none⟩ (.int .i64 r.snp.idx)).setCell ⟨g, 3, none⟩ (.int .i64 r.snp.term)).setCell ⟨g, 4, none⟩ (.slice A4 r.snp.v.length c4)).setCell ⟨g, 5, none⟩ (.slice B4 r.snp.l.length d4)).setCell ⟨g, 6, none⟩ (.string (text r.snp.b))) (w.heap.size + 1 + 1) 30 [.int .i64 0, .int .i64 0, .int .i64 0, .int .i64 0, .slice none 0 0, .slice none 0 0, .string ⟨#[]⟩, .slice none 0 0]) := Lib.hid (((((R2.out.far (p := ⟨g, 2, none⟩) hG2 _).far (p := ⟨g, 3, none⟩) hG2 _).far (p := ⟨g, 4, none⟩) hG2 _).far (p := ⟨g, 5, none⟩) hG2 _).far (p := ⟨g, 6, none⟩) hG2 _)
        go_wp2_with (first
          | (with_reducible refine wpList_load_blk rfl 30 _ rfl g rfl V3 (by simp) Try.underlying30 rfl HI ?_)
          | ((with_reducible refine wpList_store_blk rfl 30 _ _ rfl (w.heap.size + 1 + 1) [.int .i64 k.term, .int .i64 k.vote, .int .i64 r.snp.idx, .int .i64 r.snp.term, .slice A4 r.snp.v.length c4, .slice B4 r.snp.l.length d4, .string (text r.snp.b), .slice none 0 0] rfl rfl V2 (by simp) (by simp) HI (by simp [Value.oneCell']) ?_)
             intro w9 U))
        have KZ : Keeps [30] w5 w9 := Keeps.trans (by repeat (first | with_reducible exact Keeps.refl _ _ | (with_reducible refine Keeps.step1 ?_ (by repeat (first | with_reducible exact Blk.typ R0.out | with_reducible refine TypeAt.setCell ?_ _ _))))) U.out.keeps
        refine bodyPost_ret (results_blk_tmp rfl _ _ (w.heap.size + 1 + 1) rfl (Lib.hid U.out.blk) (by simp) Try.underlying30 rfl HI) rfl ?_
        unfold FoldsEnd
        rw [HF.out]
        have hz := HZb.out
        refine ⟨A4, c4, B4, d4, none, 0, rfl, ⟨?_, ?_, ?_⟩, U.out.below (by repeat (first | with_reducible exact HB5.out | (with_reducible refine Below.setCell ?_ (by dsimp only; (first | omega | (simp; done) | (simp; omega))) _) | (with_reducible refine Below.alloc ?_ (by (first | omega | (simp; done) | (simp; omega))) _) | with_reducible refine Below.drew ?_)) (by omega)⟩
        · exact (HR3.out.nw_keeps KZ (by decide)).nw_mono (Nat.le_refl _) (by simp)
        · exact (HR4.out.nw_keeps KZ (by decide)).nw_mono (Nat.le_refl _) (by simp)
        · exact (HE5.out.nw_keeps KZ (by decide)).nw_mono (by omega) (fun _ h => h)
    · have HF := Lib.hid (foldedR_out (k := k) HK123.out HT.out HQ.out (.inl hl))
      have t1 : decide ((q : Int) < (k.ents.length : Int)) = false := decide_eq_false (by omega)
      have t' : decide (q < k.ents.length) = false := decide_eq_false hl
      clear hl
      go_wp2_with fail
      go_quiet (fail)
      clear t t1 t' s1 s2
      have D1 : Hid (Blk (w3.drewN nq) (w.heap.size + 1) 36 [.int .i64 r.kind, .int .i64 r.term, .int .i64 r.vote, .int .i64 r.ent.idx, .int .i64 r.ent.term, .int .i64 r.ent.kind, .slice A1 r.ent.v.length c1, .slice B1 r.ent.l.length d1, .string (text r.ent.b), .int .i64 r.at_, .int .i64 r.snp.idx, .int .i64 r.snp.term, .slice A2 r.snp.v.length c2, .slice B2 r.snp.l.length d2, .string (text r.snp.b)]) := Lib.hid T1.out
      have D2 : Hid (Blk (w3.drewN nq) (w.heap.size + 1 + 1) 30 [.int .i64 0, .int .i64 0, .int .i64 0, .int .i64 0, .slice none 0 0, .slice none 0 0, .string ⟨#[]⟩, .slice none 0 0]) := Lib.hid T2.out
      have D3 : Hid (Blk (w3.drewN nq) g 30 [.int .i64 k.term, .int .i64 k.vote, .int .i64 k.snp.idx, .int .i64 k.snp.term, .slice A' k.snp.v.length c', .slice B' k.snp.l.length d', .string (text k.snp.b), .slice E' k.ents.length n']) := Lib.hid T3.out
      have HOd : Hid (KepAt (w3.drewN nq) (Nw (w3.drewN nq) W.heap.size [34, 3]) k A' B' E') := Lib.hid (HO3.out.keeps (ts := []) (w' := w3.drewN nq) ⟨Nat.le_refl _, fun _ _ _ _ => rfl⟩ (by simp) (by simp)).at_
      have HBd : Hid (Below w.heap.size w (w3.drewN nq)) := Lib.hid (HB3.out.dn nq)
      have HAd : Hid (RcdAt' (w3.drewN nq) (· < (w3.drewN nq).heap.size) r A1 B1 A2 B2) := Lib.hid (by exact HA3.out.below ((Below.refl _ _).dn nq))
      have HZd : Hid (w.heap.size + 1 + 1 < g ∧ g < (w3.drewN nq).heap.size ∧ W.heap.size = w.heap.size + 1 + 1 + 1) := Lib.hid HZ3.out
      clear T0 T1 T2 T3 HO3 HB3 HA3 HK3 HZ3 a10 a11 b2 b7 e0
      generalize (w3.drewN nq) = V at *
      have c7 : V.cell? ⟨g, 7, none⟩ = some (.slice E' k.ents.length n') := D3.out.cell 7
      have f7 : V.frozen? ⟨g, 7, none⟩ = false := D3.out.frozen 7
      have x10 : V.cell? ⟨w.heap.size + 1, 10, none⟩ = some (.int .i64 r.snp.idx) := D1.out.cell 10
      have x11 : V.cell? ⟨w.heap.size + 1, 11, none⟩ = some (.int .i64 r.snp.term) := D1.out.cell 11
      have x12 : V.cell? ⟨w.heap.size + 1, 12, none⟩ = some (.slice A2 r.snp.v.length c2) := D1.out.cell 12
      have x13 : V.cell? ⟨w.heap.size + 1, 13, none⟩ = some (.slice B2 r.snp.l.length d2) := D1.out.cell 13
      have x14 : V.cell? ⟨w.heap.size + 1, 14, none⟩ = some (.string (text r.snp.b)) := D1.out.cell 14
      go_wp2_with fail
      clear c7 f7 x10 x11 x12 x13 x14
      have HBk : Hid (Blk (V.setCell ⟨g, 7, none⟩ (.slice none 0 0)) g 30 [.int .i64 k.term, .int .i64 k.vote, .int .i64 k.snp.idx, .int .i64 k.snp.term, .slice A' k.snp.v.length c', .slice B' k.snp.l.length d', .string (text k.snp.b), .slice none 0 0]) := Lib.hid (by have := D3.out.set_ 7 (.slice none 0 0); simpa using this)
      have HB2k : Hid (Blk (V.setCell ⟨g, 7, none⟩ (.slice none 0 0)) (w.heap.size + 1 + 1) 30 [.int .i64 0, .int .i64 0, .int .i64 0, .int .i64 0, .slice none 0 0, .slice none 0 0, .string ⟨#[]⟩, .slice none 0 0]) := Lib.hid (D2.out.far (p := ⟨g, 7, none⟩) hG2 _)
      have HBb : Hid (Below w.heap.size w (V.setCell ⟨g, 7, none⟩ (.slice none 0 0))) := Lib.hid (HBd.out.setCell (by have := HZd.out; dsimp only; omega) _)
      have KF : Keeps [30] V (V.setCell ⟨g, 7, none⟩ (.slice none 0 0)) := Keeps.set_ D3.out.typ (by simp) _
      have HE : Hid (RowsAt (V.setCell ⟨g, 7, none⟩ (.slice none 0 0)) (Nw (V.setCell ⟨g, 7, none⟩ (.slice none 0 0)) W.heap.size [34, 3]) shEntry ((([] : List Ent)).map Ent.da) (none)) := Lib.hid (RowsAt.nil)
      have HAb : Hid (RcdAt' (V.setCell ⟨g, 7, none⟩ (.slice none 0 0)) (· < w.heap.size) r A1 B1 A2 B2) := Lib.hid (HA.out.below HBb.out)
      have HZb : Hid (w.heap.size + 1 + 1 < g ∧ g < (V.setCell ⟨g, 7, none⟩ (.slice none 0 0)).heap.size ∧ W.heap.size = w.heap.size + 1 + 1 + 1) := Lib.hid (by have := HZd.out; simpa using this)
      clear D1 D2 D3 HBd KF HOd HAd HZd
      generalize V.setCell ⟨g, 7, none⟩ (.slice none 0 0) = Y at *
      refine (rSnap_lit r.snp A2 c2 B2 d2 Y (HAb.out.sv.more (by have := HZb.out; omega)) (HAb.out.sl.more (by have := HZb.out; omega)) (by have := HS.out.s.v; omega) (by have := HS.out.s.l; omega)).mono ?_
      rintro e w5 ⟨A4, c4, B4, d4, rfl, hr3, hr4, hbl⟩
      unfold Snp.cs
      have R0 := Lib.hid (HBk.out.below hbl HBk.out.lt)
      have R2 := Lib.hid (HB2k.out.below hbl HB2k.out.lt)
      have HB5 : Hid (Below w.heap.size w w5) := Lib.hid (HBb.out.trans (hbl.mono (by have := HZb.out; omega)))
      have HE5 := Lib.hid (HE.out.nw_below hbl)
      have HR3 := Lib.hid (hr3.nw_mono (base' := w.heap.size) (by have := HZb.out; omega) fun _ h => h)
      have HR4 := Lib.hid (hr4.nw_mono (base' := w.heap.size) (by have := HZb.out; omega) fun _ h => h)
      clear hr3 hr4 hbl HBk HB2k HBb HE HAb
      have c2' : w5.cell? ⟨g, 2, none⟩ = some (.int .i64 k.snp.idx) := R0.out.cell 2
      have c3' : w5.cell? ⟨g, 3, none⟩ = some (.int .i64 k.snp.term) := R0.out.cell 3
      have c4' : w5.cell? ⟨g, 4, none⟩ = some (.slice A' k.snp.v.length c') := R0.out.cell 4
      have c5' : w5.cell? ⟨g, 5, none⟩ = some (.slice B' k.snp.l.length d') := R0.out.cell 5
      have c6' : w5.cell? ⟨g, 6, none⟩ = some (.string (text k.snp.b)) := R0.out.cell 6
      have f2' : w5.frozen? ⟨g, 2, none⟩ = false := R0.out.frozen 2
      have f3' : w5.frozen? ⟨g, 3, none⟩ = false := R0.out.frozen 3
      have f4' : w5.frozen? ⟨g, 4, none⟩ = false := R0.out.frozen 4
      have f5' : w5.frozen? ⟨g, 5, none⟩ = false := R0.out.frozen 5
      have f6' : w5.frozen? ⟨g, 6, none⟩ = false := R0.out.frozen 6
      have V3 : Hid (Blk (((((w5.setCell ⟨g, 2, none⟩ (.int .i64 r.snp.idx)).setCell ⟨g, 3, none⟩ (.int .i64 r.snp.term)).setCell ⟨g, 4, none⟩ (.slice A4 r.snp.v.length c4)).setCell ⟨g, 5, none⟩ (.slice B4 r.snp.l.length d4)).setCell ⟨g, 6, none⟩ (.string (text r.snp.b))) g 30 [.int .i64 k.term, .int .i64 k.vote, .int .i64 r.snp.idx, .int .i64 r.snp.term, .slice A4 r.snp.v.length c4, .slice B4 r.snp.l.length d4, .string (text r.snp.b), .slice none 0 0]) := Lib.hid (by have := R0.out.set_ 2 (.int .i64 r.snp.idx) |>.set_ 3 (.int .i64 r.snp.term) |>.set_ 4 (.slice A4 r.snp.v.length c4) |>.set_ 5 (.slice B4 r.snp.l.length d4) |>.set_ 6 (.string (text r.snp.b)); simpa using this)
      have V2 : Hid (Blk (((((w5.setCell ⟨g, 2, none⟩ (.int .i64 r.snp.idx)).setCell ⟨g, 3, none⟩ (.int .i64 r.snp.term)).setCell ⟨g, 4, none⟩ (.slice A4 r.snp.v.length c4)).setCell ⟨g, 5, none⟩ (.slice B4 r.snp.l.length d4)).setCell ⟨g, 6, none⟩ (.string (text r.snp.b))) (w.heap.size + 1 + 1) 30 [.int .i64 0, .int .i64 0, .int .i64 0, .int .i64 0, .slice none 0 0, .slice none 0 0, .string ⟨#[]⟩, .slice none 0 0]) := Lib.hid (((((R2.out.far (p := ⟨g, 2, none⟩) hG2 _).far (p := ⟨g, 3, none⟩) hG2 _).far (p := ⟨g, 4, none⟩) hG2 _).far (p := ⟨g, 5, none⟩) hG2 _).far (p := ⟨g, 6, none⟩) hG2 _)
      go_wp2_with (first
        | (with_reducible refine wpList_load_blk rfl 30 _ rfl g rfl V3 (by simp) Try.underlying30 rfl HI ?_)
        | ((with_reducible refine wpList_store_blk rfl 30 _ _ rfl (w.heap.size + 1 + 1) [.int .i64 k.term, .int .i64 k.vote, .int .i64 r.snp.idx, .int .i64 r.snp.term, .slice A4 r.snp.v.length c4, .slice B4 r.snp.l.length d4, .string (text r.snp.b), .slice none 0 0] rfl rfl V2 (by simp) (by simp) HI (by simp [Value.oneCell']) ?_)
           intro w9 U))
      have KZ : Keeps [30] w5 w9 := Keeps.trans (by repeat (first | with_reducible exact Keeps.refl _ _ | (with_reducible refine Keeps.step1 ?_ (by repeat (first | with_reducible exact Blk.typ R0.out | with_reducible refine TypeAt.setCell ?_ _ _))))) U.out.keeps
      refine bodyPost_ret (results_blk_tmp rfl _ _ (w.heap.size + 1 + 1) rfl (Lib.hid U.out.blk) (by simp) Try.underlying30 rfl HI) rfl ?_
      unfold FoldsEnd
      rw [HF.out]
      have hz := HZb.out
      refine ⟨A4, c4, B4, d4, none, 0, rfl, ⟨?_, ?_, ?_⟩, U.out.below (by repeat (first | with_reducible exact HB5.out | (with_reducible refine Below.setCell ?_ (by dsimp only; (first | omega | (simp; done) | (simp; omega))) _) | (with_reducible refine Below.alloc ?_ (by (first | omega | (simp; done) | (simp; omega))) _) | with_reducible refine Below.drew ?_)) (by omega)⟩
      · exact (HR3.out.nw_keeps KZ (by decide)).nw_mono (Nat.le_refl _) (by simp)
      · exact (HR4.out.nw_keeps KZ (by decide)).nw_mono (Nat.le_refl _) (by simp)
      · exact (HE5.out.nw_keeps KZ (by decide)).nw_mono (by omega) (fun _ h => h)
end Go.Proofs.Ytkdmfjpfanmgmaa
