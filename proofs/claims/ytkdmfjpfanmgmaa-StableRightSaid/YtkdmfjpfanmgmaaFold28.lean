/- The walk of the law StableRight. Printed by mkfold28.py. -/
import Derived.Test.YtkdmfjpfanmgmaaFold26
import Derived.Deep.RegionLaw
namespace Go.Proofs.Ytkdmfjpfanmgmaa
open Go.RowKit Le
set_option maxRecDepth 100000
set_option linter.unusedSimpArgs false
set_option linter.unusedVariables false

theorem foldP_small {k k' : Kep} {r : Rcd} {x : Nat} (hk : k.Small) (hr : r.Small) (h : foldP k r = (k', x)) : k'.Small := by
  have hz : Kep.zero.Small := ⟨⟨by simp [Kep.zero, Snp.zero], by simp [Kep.zero, Snp.zero]⟩, by simp [Kep.zero], by simp [Kep.zero]⟩
  have he : k' = (foldP k r).1 := by rw [h]
  rw [he]
  unfold foldP
  split
  · rename_i hR
    have hl := ((rightP_iff k).1 hR).len
    split
    · unfold foldedP
      split
      · split
        · exact hz
        · exact ⟨hk.s, hk.n, hk.e⟩
      · split
        · split
          · exact hz
          · split
            · exact hz
            · refine ⟨hk.s, by simp; omega, fun x hx => ?_⟩
              rcases List.mem_append.1 hx with hx | hx
              · exact hk.e x hx
              · obtain rfl := List.mem_singleton.1 hx
                exact hr.e
        · split
          · split
            · exact hz
            · exact ⟨hk.s, by simp [List.length_take]; omega, fun x hx => hk.e x (List.mem_of_mem_take hx)⟩
          · split
            · exact hz
            · refine ⟨hr.s, ?_, fun x hx => ?_⟩
              · dsimp only
                split
                · simp [List.length_drop]; have := hk.n; omega
                · simp
              · dsimp only at hx
                split at hx
                · exact hk.e x (List.mem_of_mem_drop hx)
                · simp at hx
    · exact hz
  · exact hz
theorem ofVote_bare (t v : Int) : bareB (Rcd.ofVote t v).kind (decide ((Rcd.ofVote t v).term = 0 ∧ (Rcd.ofVote t v).vote = 0)) (decide ((Rcd.ofVote t v).ent = .zero)) ((Rcd.ofVote t v).at_ == 0) (decide ((Rcd.ofVote t v).snp = .zero)) = true := by
  show bareB 1 (decide (t = 0 ∧ v = 0)) (decide (Ent.zero = Ent.zero)) ((0 : Int) == 0) (decide (Snp.zero = Snp.zero)) = true
  rw [bareB_1 rfl]
  simp
/-- What is right takes one more vote of its own term. -/
theorem vote_again {k : Kep} (h : Right k) : foldP k (.ofVote k.term k.vote) = (k, 0) := by
  unfold foldP
  rw [if_pos ((rightP_iff k).2 h), if_pos]
  · unfold foldedP
    rw [if_pos (show (Rcd.ofVote k.term k.vote).kind = 1 from rfl), if_neg (by show ¬ k.term < k.term; omega)]
    rfl
  · rw [mayP_eq, (ofVote_ok _ _).2 ⟨h.term, h.vote⟩, ofVote_bare]
    rfl
theorem mayP_kind {r : Rcd} (h : mayP r = true) : r.kind = 1 ∨ r.kind = 2 ∨ r.kind = 3 ∨ r.kind = 4 := by
  rw [mayP_eq] at h
  simp only [Bool.and_eq_true] at h
  by_cases h1 : r.kind = 1
  · exact .inl h1
  by_cases h2 : r.kind = 2
  · exact .inr (.inl h2)
  by_cases h3 : r.kind = 3
  · exact .inr (.inr (.inl h3))
  by_cases h4 : r.kind = 4
  · exact .inr (.inr (.inr h4))
  have := h.2
  rw [bareB_none h1 h2 h3 h4] at this
  cases this
/-- What the last number is. -/
def RightLaw (k x : Kep) (r : Rcd) : Prop :=
  (r.kind = 1 ∧ x.last = k.last ∧ x.term = r.term) ∨ (r.kind = 2 ∧ x.last = k.last + 1) ∨ (r.kind = 3 ∧ x.last = r.at_ - 1) ∨ (r.kind = 4 ∧ x.snp.idx = r.snp.idx ∧ (x.last = k.last ∨ x.last = r.snp.idx))
theorem right_law {k x : Kep} {r : Rcd} (h : foldP k r = (x, 0)) : Right k ∧ Right x ∧ RightLaw k x r := by
  obtain ⟨hR, hp, hm, hf⟩ := foldP_right h
  refine ⟨hR, ?_⟩
  have hq := (putE_ok r).1 hp
  have hi := hR.snp.idx
  have hl := hR.len
  unfold RightLaw
  unfold foldedP at hf
  rcases mayP_kind hm with k1 | k1 | k1 | k1
  · rw [if_pos k1] at hf
    split at hf
    · cases hf
    · injection hf with hf
      subst hf
      exact ⟨⟨hR.len, hq.2.1, hq.2.2.1, hR.snp, hR.one, hR.ents, hR.row⟩, .inl ⟨k1, rfl, rfl⟩⟩
  · rw [if_neg (by omega), if_pos k1] at hf
    split at hf
    · cases hf
    · rename_i h1
      split at hf
      · cases hf
      · rename_i h2
        injection hf with hf
        subst hf
        have h1' : r.ent.idx = k.last + 1 := by simpa using h1
        refine ⟨⟨by simp; omega, hR.term, hR.vote, hR.snp, hR.one, fun e he => ?_, fun i e he => ?_⟩, .inr (.inl ⟨k1, by simp [Kep.last]; omega⟩)⟩
        · rcases List.mem_append.1 he with he | he
          · exact hR.ents e he
          · obtain rfl := List.mem_singleton.1 he
            exact hq.2.2.2.1
        · by_cases hlt : i < k.ents.length
          · rw [List.getElem?_append_left hlt] at he
            exact hR.row i e he
          · rw [List.getElem?_append_right (by omega)] at he
            have hie : i = k.ents.length := by
              rcases Nat.eq_zero_or_pos (i - k.ents.length) with h0 | h0
              · omega
              · rw [List.getElem?_eq_none (by simp; omega)] at he; cases he
            subst hie
            rw [Nat.sub_self] at he
            simp only [List.getElem?_cons_zero, Option.some.injEq] at he
            subst he
            rw [h1']
            show k.snp.idx + (k.ents.length : Int) + 1 = k.snp.idx + 1 + (k.ents.length : Int)
            omega
  · rw [if_neg (by omega), if_neg (by omega), if_pos k1] at hf
    split at hf
    · cases hf
    · rename_i h1
      injection hf with hf
      subst hf
      have h1' : ¬ (r.at_ ≤ k.snp.idx ∨ k.snp.idx + (k.ents.length : Int) < r.at_) := h1
      refine ⟨⟨by simp [List.length_take]; omega, hR.term, hR.vote, hR.snp, hR.one, fun e he => hR.ents e (List.mem_of_mem_take he), fun i e he => ?_⟩, .inr (.inr (.inl ⟨k1, ?_⟩))⟩
      · rw [List.getElem?_take] at he
        split at he
        · exact hR.row i e he
        · cases he
      · simp only [Kep.last, List.length_take]
        omega
  · rw [if_neg (by omega), if_neg (by omega), if_neg (by omega)] at hf
    split at hf
    · cases hf
    · rename_i h1
      obtain ⟨q, hq'⟩ : ∃ q : Nat, r.snp.idx - k.snp.idx - 1 = (q : Int) := ⟨(r.snp.idx - k.snp.idx - 1).toNat, by omega⟩
      rw [hq', Int.toNat_natCast] at hf
      have hone : r.snp = .zero ∨ 1 ≤ r.snp.idx := .inr (by have := hi.1; omega)
      split at hf
      · rename_i h2
        injection hf with hf
        subst hf
        have hlt : q < k.ents.length := by
          rcases Nat.lt_or_ge q k.ents.length with h | h
          · exact h
          · rw [List.getElem?_eq_none h] at h2; cases h2
        refine ⟨⟨by simp [List.length_drop]; omega, hR.term, hR.vote, hq.2.2.2.2.2, hone, fun e he => hR.ents e (List.mem_of_mem_drop he), fun i e he => ?_⟩, .inr (.inr (.inr ⟨k1, rfl, .inl ?_⟩))⟩
        · rw [List.getElem?_drop] at he
          rw [hR.row _ e he]
          dsimp only
          omega
        · simp only [Kep.last, List.length_drop]
          omega
      · injection hf with hf
        subst hf
        refine ⟨⟨by simp, hR.term, hR.vote, hq.2.2.2.2.2, hone, fun e he => by simp at he, fun i e he => by simp at he⟩, .inr (.inr (.inr ⟨k1, rfl, .inr ?_⟩))⟩
        simp [Kep.last]
theorem foldP_err {k x : Kep} {r : Rcd} {E : Nat} (h : foldP k r = (x, E)) (h0 : E ≠ 0) : x = .zero := by
  unfold foldP at h
  split at h
  · split at h
    · unfold foldedP at h
      repeat' split at h
      all_goals
        first
          | (injection h with h1 h2; exact h1.symm)
          | (injection h with h1 h2; exact absurd h2.symm h0)
    · injection h with h1 h2
      exact h1.symm
  · injection h with h1 h2
    exact h1.symm

set_option maxHeartbeats 6400000 in
theorem stableRight_any (k : Kep) (r : Rcd) (A : Option Addr) (c : Nat) (B : Option Addr) (d : Nat) (E : Option Addr) (n : Nat) (A1 : Option Addr) (c1 : Nat) (B1 : Option Addr) (d1 : Nat) (A2 : Option Addr) (c2 : Nat) (B2 : Option Addr) (d2 : Nat) (w : World) (hK : KepAt w (· < w.heap.size) k A B E) (hA : RcdAt' w (· < w.heap.size) r A1 B1 A2 B2) (htk : k.Tame) (htr : r.Tame) :
    Calls Try.prog 4 #[.agg #[.int .i64 k.term, .int .i64 k.vote, .int .i64 k.snp.idx, .int .i64 k.snp.term, .slice A k.snp.v.length c, .slice B k.snp.l.length d, .string (text k.snp.b), .slice E k.ents.length n], .agg #[.int .i64 r.kind, .int .i64 r.term, .int .i64 r.vote, .int .i64 r.ent.idx, .int .i64 r.ent.term, .int .i64 r.ent.kind, .slice A1 r.ent.v.length c1, .slice B1 r.ent.l.length d1, .string (text r.ent.b), .int .i64 r.at_, .int .i64 r.snp.idx, .int .i64 r.snp.term, .slice A2 r.snp.v.length c2, .slice B2 r.snp.l.length d2, .string (text r.snp.b)]] w fun e w' => e = .returned (.bool true) ∧ Below w.heap.size w w' := by
  have HK := Lib.hid hK
  have HA := Lib.hid hA
  have HT := Lib.hid htk
  have HR := Lib.hid htr
  clear hK hA htk htr
  have HI : Hid ((Try.prog.info? 30).map (·.size) = some 8) := Lib.hid (by kernel_rfl)
  have HI2 : Hid ((Try.prog.info? 36).map (·.size) = some 15) := Lib.hid (by kernel_rfl)
  go_enter Try.func4, Try.ntmps4
  go_wp2_with fail
  refine at_world _ fun W hW => ?_
  obtain ⟨P0, P1, hbW, hsW⟩ := blk2x w 30 36 [.int .i64 k.term, .int .i64 k.vote, .int .i64 k.snp.idx, .int .i64 k.snp.term, .slice A k.snp.v.length c, .slice B k.snp.l.length d, .string (text k.snp.b), .slice E k.ents.length n] [.int .i64 r.kind, .int .i64 r.term, .int .i64 r.vote, .int .i64 r.ent.idx, .int .i64 r.ent.term, .int .i64 r.ent.kind, .slice A1 r.ent.v.length c1, .slice B1 r.ent.l.length d1, .string (text r.ent.b), .int .i64 r.at_, .int .i64 r.snp.idx, .int .i64 r.snp.term, .slice A2 r.snp.v.length c2, .slice B2 r.snp.l.length d2, .string (text r.snp.b)] W hW
  clear hW
  refine (large_any k r A c B d E n A1 c1 B1 d1 A2 c2 B2 d2 W ((HK.out.below hbW).more (by omega)) HT.out HR.out).mono ?_
  rintro e w1 ⟨b, rfl, hb0, hb⟩
  have R0 := Lib.hid (P0.below hb P0.lt)
  have R1 := Lib.hid (P1.below hb P1.lt)
  have HB1 : Hid (Below w.heap.size w w1) := Lib.hid (hbW.trans (hb.mono (by omega)))
  have HZ : Hid (w.heap.size + 1 + 1 ≤ w1.heap.size) := Lib.hid (by have := hb.size; omega)
  clear hb hbW hsW P0 P1
  cases b
  · obtain ⟨hn, hr, hs, he⟩ := hb0 rfl
    have HKS : Hid k.Small := Lib.hid ⟨⟨by unfold Snp.size at hs; omega, by unfold Snp.size at hs; omega⟩, by omega, fun x hx => by have := he x hx; unfold Ent.size at this; exact ⟨by omega, by omega⟩⟩
    have HS : Hid r.Small := Lib.hid (by unfold Rcd.size at hr; exact ⟨⟨by omega, by omega⟩, ⟨by omega, by omega⟩⟩)
    clear hb0 hn hr hs he HT HR
    obtain ⟨k', x, hf⟩ : ∃ k' x, foldP k r = (k', x) := ⟨_, _, rfl⟩
    have HF := Lib.hid hf
    clear hf
    go_wp2_with (first
      | (with_reducible refine wpList_load_blk rfl 30 _ rfl w.heap.size rfl R0 (by simp) Try.underlying30 rfl HI ?_)
      | (with_reducible refine wpList_load_blk rfl 36 _ rfl (w.heap.size + 1) rfl R1 (by simp) Try.underlying36 rfl HI2 ?_))
    refine (Fold_at k r k' x HF.out A c B d E n A1 c1 B1 d1 A2 c2 B2 d2 w1 ((HK.out.below HB1.out).more (by have := HZ.out; omega)) ((HA.out.below HB1.out).more (by have := HZ.out; omega)) HKS.out HS.out).mono ?_
    rintro e w4 ⟨A4, c4, B4, d4, E4, n4, rfl, hk, hb⟩
    have U0 := Lib.hid (R0.out.below hb R0.out.lt)
    have U1 := Lib.hid (R1.out.below hb R1.out.lt)
    have HB4 : Hid (Below w.heap.size w w4) := Lib.hid (HB1.out.trans (hb.mono (by have := HZ.out; omega)))
    have HX4 := Lib.hid hk.nw_lt
    have HKX : Hid k'.Small := Lib.hid (foldP_small HKS.out HS.out HF.out)
    have HZ4 : Hid (w.heap.size + 1 + 1 ≤ w4.heap.size) := Lib.hid (by have := HZ.out; have := hb.size; omega)
    clear hb hk R0 R1 HB1 HZ HA HK HKS HS
    by_cases hx : x = 0
    · subst hx
      obtain ⟨hRk, hRx, hL⟩ := right_law HF.out
      have t0 : (((0 : Nat) : Int) != 0) = false := rfl
      have hi1 := okN_i hRk.snp.idx
      have hi2 := hRk.len
      have hi3 := okN_i hRx.snp.idx
      have hi4 := hRx.len
      have HL := Lib.hid hL
      have HRX := Lib.hid hRx
      clear hRk hRx hL
      have s1 : IntKind.i64.wrap (k'.snp.idx + (k'.ents.length : Int)) = k'.snp.idx + (k'.ents.length : Int) := IntWalk.i64_in _ (by omega)
      have s2 : IntKind.i64.wrap (k.snp.idx + (k.ents.length : Int)) = k.snp.idx + (k.ents.length : Int) := IntWalk.i64_in _ (by omega)
      go_wp2_with fail
      refine at_world _ fun W5 hW => ?_
      have V0 : Hid (Blk W5 w.heap.size 30 [.int .i64 k.term, .int .i64 k.vote, .int .i64 k.snp.idx, .int .i64 k.snp.term, .slice A k.snp.v.length c, .slice B k.snp.l.length d, .string (text k.snp.b), .slice E k.ents.length n]) := Lib.hid (hW ▸ U0.out.alloc _)
      have V1 : Hid (Blk W5 (w.heap.size + 1) 36 [.int .i64 r.kind, .int .i64 r.term, .int .i64 r.vote, .int .i64 r.ent.idx, .int .i64 r.ent.term, .int .i64 r.ent.kind, .slice A1 r.ent.v.length c1, .slice B1 r.ent.l.length d1, .string (text r.ent.b), .int .i64 r.at_, .int .i64 r.snp.idx, .int .i64 r.snp.term, .slice A2 r.snp.v.length c2, .slice B2 r.snp.l.length d2, .string (text r.snp.b)]) := Lib.hid (hW ▸ U1.out.alloc _)
      have VX : Hid (Blk W5 w4.heap.size 30 [.int .i64 k'.term, .int .i64 k'.vote, .int .i64 k'.snp.idx, .int .i64 k'.snp.term, .slice A4 k'.snp.v.length c4, .slice B4 k'.snp.l.length d4, .string (text k'.snp.b), .slice E4 k'.ents.length n4]) := Lib.hid (hW ▸ Blk.new w4 30 [.int .i64 k'.term, .int .i64 k'.vote, .int .i64 k'.snp.idx, .int .i64 k'.snp.term, .slice A4 k'.snp.v.length c4, .slice B4 k'.snp.l.length d4, .string (text k'.snp.b), .slice E4 k'.ents.length n4])
      have HX5 : Hid (KepAt W5 (· < W5.heap.size) k' A4 B4 E4) := Lib.hid (by rw [hW]; exact ⟨(HX4.out.v.below ((Below.refl _ _).alloc (Nat.le_refl _) _)).more (by simp), (HX4.out.l.below ((Below.refl _ _).alloc (Nat.le_refl _) _)).more (by simp), (HX4.out.e.below ((Below.refl _ _).alloc (Nat.le_refl _) _)).more (by simp)⟩)
      have HB5 : Hid (Below w.heap.size w W5) := Lib.hid (by rw [hW]; exact HB4.out.alloc (by have := HZ4.out; omega) _)
      clear hW U0 U1 HX4 HB4
      generalize w4.heap.size = gx at *
      refine (Fold_at k' (.ofVote k'.term k'.vote) k' 0 (vote_again HRX.out) A4 c4 B4 d4 E4 n4 none 0 none 0 none 0 none 0 W5 HX5.out ⟨RowsAt.nil, RowsAt.nil, RowsAt.nil, RowsAt.nil⟩ HKX.out small_vote).mono ?_
      rintro e w6 ⟨A6, c6, B6, d6, E6, n6, rfl, hk, hb⟩
      have S0 := Lib.hid (V0.out.below hb V0.out.lt)
      have S1 := Lib.hid (V1.out.below hb V1.out.lt)
      have SX := Lib.hid (VX.out.below hb VX.out.lt)
      have HB6 : Hid (Below w.heap.size w w6) := Lib.hid (HB5.out.trans (hb.mono HB5.out.size))
      clear hk hb V0 V1 VX HX5 HB5 HKX HRX
      have hgx : gx < w6.heap.size := SX.out.lt
      have hg0 : w.heap.size < w6.heap.size := S0.out.lt
      have hg1 : w.heap.size + 1 < w6.heap.size := S1.out.lt
      have y2 : w6.cell? ⟨gx, 2, none⟩ = some (.int .i64 k'.snp.idx) := SX.out.cell 2
      have y0 : w6.cell? ⟨gx, 0, none⟩ = some (.int .i64 k'.term) := SX.out.cell 0
      have y7 : w6.cell? ⟨gx, 7, none⟩ = some (.slice E4 k'.ents.length n4) := SX.out.cell 7
      have z2 : w6.cell? ⟨w.heap.size, 2, none⟩ = some (.int .i64 k.snp.idx) := S0.out.cell 2
      have z7 : w6.cell? ⟨w.heap.size, 7, none⟩ = some (.slice E k.ents.length n) := S0.out.cell 7
      have e0 : w6.cell? ⟨w.heap.size + 1, 0, none⟩ = some (.int .i64 r.kind) := S1.out.cell 0
      have e1 : w6.cell? ⟨w.heap.size + 1, 1, none⟩ = some (.int .i64 r.term) := S1.out.cell 1
      have e9 : w6.cell? ⟨w.heap.size + 1, 9, none⟩ = some (.int .i64 r.at_) := S1.out.cell 9
      have e10 : w6.cell? ⟨w.heap.size + 1, 10, none⟩ = some (.int .i64 r.snp.idx) := S1.out.cell 10
      rcases HL.out with ⟨hk, h1, h2⟩ | ⟨hk, h1⟩ | ⟨hk, h1⟩ | ⟨hk, h1, h2⟩
      · have u1 : (r.kind == 1) = true := by simpa using hk
        have v1 : (k'.snp.idx + (k'.ents.length : Int) == k.snp.idx + (k.ents.length : Int)) = true := by unfold Kep.last at h1; simpa using h1
        have v2 : (k'.term == r.term) = true := by simpa using h2
        clear hk h1 h2 HL
        go_wp2_with fail
        refine at_below w6 _ (by repeat (first | with_reducible exact Below.refl _ _ | with_reducible assumption | (with_reducible refine Below.setCell ?_ (by dsimp only; (first | omega | (simp; done) | (simp; omega))) _) | (with_reducible refine Below.alloc ?_ (by (first | omega | (simp; done) | (simp; omega))) _) | with_reducible refine Below.drew ?_)) fun HBx => ?_
        refine (folds_any _).mono ?_
        rintro e w9 ⟨rfl, hb⟩
        go_wp2_with fail
        go_ret
        exact ⟨by simp, (HB6.out.trans (HBx.mono HB6.out.size)).trans (hb.mono (Nat.le_trans HB6.out.size HBx.size))⟩
      · have u1 : (r.kind == 1) = false := by rw [hk]; rfl
        have u2 : (r.kind == 2) = true := by simpa using hk
        have s3 : IntKind.i64.wrap (k.snp.idx + (k.ents.length : Int) + 1) = k.snp.idx + (k.ents.length : Int) + 1 := IntWalk.i64_in _ (by omega)
        have v1 : (k'.snp.idx + (k'.ents.length : Int) == k.snp.idx + (k.ents.length : Int) + 1) = true := by unfold Kep.last at h1; simpa using h1
        clear hk h1 HL
        go_wp2_with fail
        refine at_below w6 _ (by repeat (first | with_reducible exact Below.refl _ _ | with_reducible assumption | (with_reducible refine Below.setCell ?_ (by dsimp only; (first | omega | (simp; done) | (simp; omega))) _) | (with_reducible refine Below.alloc ?_ (by (first | omega | (simp; done) | (simp; omega))) _) | with_reducible refine Below.drew ?_)) fun HBx => ?_
        refine (folds_any _).mono ?_
        rintro e w9 ⟨rfl, hb⟩
        go_wp2_with fail
        go_ret
        exact ⟨by simp, (HB6.out.trans (HBx.mono HB6.out.size)).trans (hb.mono (Nat.le_trans HB6.out.size HBx.size))⟩
      · have u1 : (r.kind == 1) = false := by rw [hk]; rfl
        have u2 : (r.kind == 2) = false := by rw [hk]; rfl
        have u3 : (r.kind == 3) = true := by simpa using hk
        have s3 : IntKind.i64.wrap (r.at_ - 1) = r.at_ - 1 := IntWalk.i64_in _ (by unfold Kep.last at h1; omega)
        have v1 : (k'.snp.idx + (k'.ents.length : Int) == r.at_ - 1) = true := by unfold Kep.last at h1; simpa using h1
        clear hk h1 HL
        go_wp2_with fail
        refine at_below w6 _ (by repeat (first | with_reducible exact Below.refl _ _ | with_reducible assumption | (with_reducible refine Below.setCell ?_ (by dsimp only; (first | omega | (simp; done) | (simp; omega))) _) | (with_reducible refine Below.alloc ?_ (by (first | omega | (simp; done) | (simp; omega))) _) | with_reducible refine Below.drew ?_)) fun HBx => ?_
        refine (folds_any _).mono ?_
        rintro e w9 ⟨rfl, hb⟩
        go_wp2_with fail
        go_ret
        exact ⟨by simp, (HB6.out.trans (HBx.mono HB6.out.size)).trans (hb.mono (Nat.le_trans HB6.out.size HBx.size))⟩
      · have u1 : (r.kind == 1) = false := by rw [hk]; rfl
        have u2 : (r.kind == 2) = false := by rw [hk]; rfl
        have u3 : (r.kind == 3) = false := by rw [hk]; rfl
        have u4 : (r.kind == 4) = true := by simpa using hk
        have v0 : (k'.snp.idx == r.snp.idx) = true := by simpa using h1
        by_cases h3 : k'.last = k.last
        · have v1 : (k'.snp.idx + (k'.ents.length : Int) == k.snp.idx + (k.ents.length : Int)) = true := by unfold Kep.last at h3; simpa using h3
          clear hk h1 h2 h3 HL
          go_wp2_with fail
          refine at_below w6 _ (by repeat (first | with_reducible exact Below.refl _ _ | with_reducible assumption | (with_reducible refine Below.setCell ?_ (by dsimp only; (first | omega | (simp; done) | (simp; omega))) _) | (with_reducible refine Below.alloc ?_ (by (first | omega | (simp; done) | (simp; omega))) _) | with_reducible refine Below.drew ?_)) fun HBx => ?_
          refine (folds_any _).mono ?_
          rintro e w9 ⟨rfl, hb⟩
          go_wp2_with fail
          go_ret
          exact ⟨by simp, (HB6.out.trans (HBx.mono HB6.out.size)).trans (hb.mono (Nat.le_trans HB6.out.size HBx.size))⟩
        · have h4 := h2.resolve_left h3
          have v1 : (k'.snp.idx + (k'.ents.length : Int) == k.snp.idx + (k.ents.length : Int)) = false := by unfold Kep.last at h3; simpa using h3
          have v2 : (k'.snp.idx + (k'.ents.length : Int) == r.snp.idx) = true := by unfold Kep.last at h4; simpa using h4
          clear hk h1 h2 h3 h4 HL
          go_wp2_with fail
          refine at_below w6 _ (by repeat (first | with_reducible exact Below.refl _ _ | with_reducible assumption | (with_reducible refine Below.setCell ?_ (by dsimp only; (first | omega | (simp; done) | (simp; omega))) _) | (with_reducible refine Below.alloc ?_ (by (first | omega | (simp; done) | (simp; omega))) _) | with_reducible refine Below.drew ?_)) fun HBx => ?_
          refine (folds_any _).mono ?_
          rintro e w9 ⟨rfl, hb⟩
          go_wp2_with fail
          go_ret
          exact ⟨by simp, (HB6.out.trans (HBx.mono HB6.out.size)).trans (hb.mono (Nat.le_trans HB6.out.size HBx.size))⟩
    · have t0 : ((x : Int) != 0) = true := by simpa using hx
      have HX0 := Lib.hid (foldP_err HF.out hx)
      go_wp2_with fail
      refine at_world _ fun W5 hW => ?_
      have VX : Hid (Blk W5 w4.heap.size 30 [.int .i64 k'.term, .int .i64 k'.vote, .int .i64 k'.snp.idx, .int .i64 k'.snp.term, .slice A4 k'.snp.v.length c4, .slice B4 k'.snp.l.length d4, .string (text k'.snp.b), .slice E4 k'.ents.length n4]) := Lib.hid (hW ▸ Blk.new w4 30 [.int .i64 k'.term, .int .i64 k'.vote, .int .i64 k'.snp.idx, .int .i64 k'.snp.term, .slice A4 k'.snp.v.length c4, .slice B4 k'.snp.l.length d4, .string (text k'.snp.b), .slice E4 k'.ents.length n4])
      have HB5 : Hid (Below w.heap.size w W5) := Lib.hid (by rw [hW]; exact HB4.out.alloc (by have := HZ4.out; omega) _)
      clear hW U0 U1 HX4 HB4 HKX
      generalize w4.heap.size = gx at *
      refine (folds_any W5).mono ?_
      rintro e w9 ⟨rfl, hb⟩
      have SX := Lib.hid (VX.out.below hb VX.out.lt)
      have HB9 : Hid (Below w.heap.size w w9) := Lib.hid (HB5.out.trans (hb.mono HB5.out.size))
      clear hb HB5 VX HF
      have y0 : w9.cell? ⟨gx, 0, none⟩ = some (.int .i64 0) := by have h := SX.out.cell 0; rw [HX0.out] at h; exact h
      have y7 : w9.cell? ⟨gx, 7, none⟩ = some (.slice E4 0 n4) := by have h := SX.out.cell 7; rw [HX0.out] at h; exact h
      clear SX HX0
      go_wp2_with fail
      go_ret
      exact ⟨by simp, HB9.out⟩
  · go_wp2
    go_ret
    exact ⟨rfl, HB1.out⟩
end Go.Proofs.Ytkdmfjpfanmgmaa
