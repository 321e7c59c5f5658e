/- The walk of the reference's Right. Printed by mkfold13.py. -/
import Derived.Test.YtkdmfjpfanmgmaaFold11
import Derived.Test.YtkdmfjpfanmgmaaFold12
import Derived.IntWalk
import Derived.BigQuiet
import Derived.Deep.QuietTactic
namespace Go.Proofs.Ytkdmfjpfanmgmaa
open Go.RowKit Le
set_option maxRecDepth 100000
set_option linter.unusedSimpArgs false
set_option linter.unusedVariables false

theorem _root_.Go.RowKit.Below.drewN_ {w w' : World} {B : Nat} (h : Below B w w') (m : Nat) : Below B w (w'.drewN m) := by
  induction m with
  | zero => exact h
  | succ m ih => exact ih.drew

set_option maxHeartbeats 3200000 in
theorem rRight_any (k : Kep) (A : Option Addr) (c : Nat) (B : Option Addr) (d : Nat) (E : Option Addr) (n : Nat) (w : World) (h : KepAt w (· < w.heap.size) k A B E) (hs : k.Small) :
    Calls Try.prog 17 #[.agg (k.cs A c B d E n).toArray] w (TestEnd w (rightP k)) := by
  unfold Kep.cs
  have P0 := Lib.hid (Blk.new w 30 [.int .i64 k.term, .int .i64 k.vote, .int .i64 k.snp.idx, .int .i64 k.snp.term, .slice A k.snp.v.length c, .slice B k.snp.l.length d, .string (text k.snp.b), .slice E k.ents.length n])
  have HA := Lib.hid h
  have HS := Lib.hid hs
  have hn := hs.n
  clear h hs
  obtain ⟨r, hr⟩ : ∃ r, rightP k = r := ⟨_, rfl⟩
  rw [hr]
  have HR := Lib.hid hr
  clear hr
  by_cases h1 : 10000 < k.ents.length
  · have HF : Hid (r = false) := Lib.hid (by rw [← HR.out]; exact rightP_big h1)
    go_enter Try.func17, Try.ntmps17
    go_wp2
    go_ret
    exact ⟨by rw [HF.out]; rfl, (by repeat (first | with_reducible exact Below.refl _ _ | with_reducible assumption | (with_reducible refine Below.setCell ?_ (by dsimp only; (first | omega | (simp; done) | (simp; omega))) _) | (with_reducible refine Below.alloc ?_ (by (first | omega | (simp; done) | (simp; omega))) _) | with_reducible refine Below.drew ?_))⟩
  by_cases h2 : k.snp.idx < 1
  · by_cases hz : k.snp = .zero
    · have HD : Hid (decide (k.snp = .zero) = true) := Lib.hid (decide_eq_true hz)
      have H2 : Hid (k.snp = .zero ∨ 1 ≤ k.snp.idx) := Lib.hid (.inl hz)
      clear hz
      go_enter Try.func17, Try.ntmps17
      go_wp2_with fail
      refine at_below w _ (by repeat (first | with_reducible exact Below.refl _ _ | with_reducible assumption | (with_reducible refine Below.setCell ?_ (by dsimp only; (first | omega | (simp; done) | (simp; omega))) _) | (with_reducible refine Below.alloc ?_ (by (first | omega | (simp; done) | (simp; omega))) _) | with_reducible refine Below.drew ?_)) fun HBx => ?_
      refine (Snaps_any k.snp .zero A c B d none 0 none 0 _ ((HA.out.v.below HBx).more (by (first | omega | (simp; done) | (simp; omega)))) ((HA.out.l.below HBx).more (by (first | omega | (simp; done) | (simp; omega)))) RowsAt.nil RowsAt.nil HS.out.s ⟨by simp [Snp.zero], by simp [Snp.zero]⟩).mono ?_
      rw [HD.out]
      rintro e w1 ⟨rfl, hb⟩
      have R0 := Lib.hid (P0.out.below hb P0.out.lt)
      have HBw := Lib.hid (HBx.trans (hb.mono (by (first | omega | (simp; done) | (simp; omega)))))
      clear hb HBx P0 HD
      go_wp2
      go_loopw [3] (fun i wr => ∃ j : Nat, j ≤ k.ents.length ∧ i = .int .i64 j ∧ Hid (Blk wr w.heap.size 30 [.int .i64 k.term, .int .i64 k.vote, .int .i64 k.snp.idx, .int .i64 k.snp.term, .slice A k.snp.v.length c, .slice B k.snp.l.length d, .string (text k.snp.b), .slice E k.ents.length n]) ∧ Hid (Below w.heap.size w wr) ∧ Hid (okRow k.snp.idx k.ents j)) (fun i _ => k.ents.length - (intOf i).toNat)
      case atStart => exact ⟨0, Nat.zero_le _, rfl, R0, HBw, Lib.hid (okRow_zero _ _)⟩
      case round =>
        clear R0 HBw
        obtain ⟨j, hj, rfl, R0, HBw, HE⟩ := hrel
        have l0 := HBw.out.size
        have l1 := R0.out.lt
        have p7 : wr.cell? ⟨w.heap.size, 7, none⟩ = some (.slice E k.ents.length n) := R0.out.cell 7
        by_cases hlt : j < k.ents.length
        · obtain ⟨ad, A3, c3, B3, d3, rfl, _, e1, e2, hcell⟩ := ents_at (HA.out.e.below HBw.out) hlt
          have HX : Hid (∀ x, x = k.ents[j] → x.idx = wrap64 (wrap64 (k.snp.idx + 1) + j) → okRow k.snp.idx k.ents (j + 1)) := Lib.hid (fun x e h => okRow_succ HE.out hlt (by rw [← e]; exact h))
          have HY : Hid (∀ x, x = k.ents[j] → x.idx ≠ wrap64 (wrap64 (k.snp.idx + 1) + j) → r = false) := Lib.hid (fun x e h => by rw [← HR.out]; exact rightP_row hlt (by rw [← e]; exact h))
          obtain ⟨x, hx⟩ : ∃ x, x = k.ents[j] := ⟨_, rfl⟩
          rw [← hx] at hcell
          have HX2 := Lib.hid (HX.out x hx)
          have HY2 := Lib.hid (HY.out x hx)
          unfold Ent.cs at hcell
          have hc0 : wr.cell? (ad.add (j * 6)) = some (.int .i64 x.idx) := hcell 0 _ rfl
          have p2 : wr.cell? ⟨w.heap.size, 2, none⟩ = some (.int .i64 k.snp.idx) := R0.out.cell 2
          clear hcell e1 e2 HX HY hx
          obtain ⟨V1, hV1⟩ : ∃ V, wrap64 (k.snp.idx + 1) = V := ⟨_, rfl⟩
          obtain ⟨V2, hV2⟩ : ∃ V, wrap64 (V1 + j) = V := ⟨_, rfl⟩
          rw [hV1, hV2] at HX2 HY2
          have s1 : IntKind.i64.wrap (k.snp.idx + 1) = V1 := by rw [IntWalk.i64_left]; exact hV1
          have s2 : IntKind.i64.wrap (V1 + (j : Int)) = V2 := by rw [IntWalk.i64_left]; exact hV2
          have q1 : (j : Int) < (k.ents.length : Int) := by omega
          by_cases hq : x.idx = V2
          · have HX3 := Lib.hid (HX2.out hq)
            have t : (x.idx != V2) = false := by simpa using hq
            clear hq HX2 HY2 hV1 hV2
            go_wp2
            go_quiet (fail)
            clear s1 s2
            go_wp2
            go_roundw
            case rel => exact ⟨j + 1, by omega, by go_num, Lib.hid (R0.out.drewN _), Lib.hid (HBw.out.drewN_ _), HX3⟩
            case measure => simp [intOf]; omega
          · have HF := Lib.hid (HY2.out hq)
            have t : (x.idx != V2) = true := by simpa using hq
            clear hq HX2 HY2 hV1 hV2
            go_wp2
            go_quiet (fail)
            clear s1 s2
            go_wp2
            go_ret
            exact ⟨by rw [HF.out]; rfl, HBw.out.drewN_ _⟩
        · obtain rfl : j = k.ents.length := by omega
          have HF : Hid (r = !((recs k).any fun r => decide (putE r ≠ 0))) := Lib.hid (by rw [← HR.out]; exact rightP_end h1 H2.out HE.out)
          have HI : Hid ((Try.prog.info? 30).map (·.size) = some 8) := Lib.hid (by kernel_rfl)
          go_wp2_with (with_reducible refine wpList_load_blk rfl 30 _ rfl w.heap.size rfl R0 (by simp) Try.underlying30 rfl HI ?_)
          refine (rRecords_any k A c B d E n _ ((HA.out.below HBw.out).more l0) HS.out).mono ?_
          rintro e w2 ⟨A5, c5, rfl, hr, h0, hb⟩
          have HB2 := Lib.hid (HBw.out.trans (hb.mono l0))
          have HRR := Lib.hid hr
          have H0 := Lib.hid h0
          have hlen := recs_len k
          generalize recs k = l at *
          clear hb hr h0 p7
          go_wp2
          go_loopw [5] (fun i wr => ∃ j : Nat, j ≤ l.length ∧ i = .int .i64 j ∧ Hid (Below w2.heap.size w2 wr) ∧ Hid ((l.take j).any (fun r => decide (putE r ≠ 0)) = false)) (fun i _ => l.length - (intOf i).toNat)
          case atStart => exact ⟨0, Nat.zero_le _, rfl, Lib.hid (Below.refl _ _), Lib.hid rfl⟩
          case round =>
            obtain ⟨i, hi, rfl, HBq, HQ⟩ := hrel
            by_cases hlt : i < l.length
            · obtain ⟨ad, vs, rfl, hS, hC, hcell⟩ := recs_at (HRR.out.below HBq.out) hlt
              obtain ⟨g, rfl⟩ := H0.out _ rfl
              have HT : Hid ((l.take (i + 1)).any (fun r => decide (putE r ≠ 0)) = ((l.take i).any (fun r => decide (putE r ≠ 0)) || decide (putE l[i] ≠ 0))) := Lib.hid (by rw [List.take_succ_eq_append_getElem hlt, List.any_append]; simp)
              have HN : Hid (decide (putE l[i] ≠ 0) = true → (l.any fun r => decide (putE r ≠ 0)) = true) := Lib.hid (fun h => List.any_eq_true.2 ⟨_, List.getElem_mem hlt, h⟩)
              generalize l[i] = y at *
              have hi : (Try.prog.info? 36).map (·.size) = some vs.length := by rw [hC.len.2]; kernel_rfl
              replace hi := Lib.hid hi
              have HC := Lib.hid hC
              have HG : Hid (wr.rangeAt g (i * 15) vs) := Lib.hid (fun q u hu => by have := hcell q u hu; rwa [Addr.add_mid, Nat.zero_add] at this)
              have hlt2 := HBq.out.size
              clear hC hcell
              go_wp2_with (first | (with_reducible refine wpList_load_mid rfl 36 _ rfl g (i * 15) rfl vs _ HG.out Try.underlying36 rfl hi.out ?_) | fail)
              refine (rput_Record y.da vs _ (HC.out.more hlt2) (record_le _)).mono ?_
              rintro e w3 ⟨⟨A6, n6, c6, rfl, _⟩, hb⟩
              have HB3 := Lib.hid (HBq.out.trans (hb.mono hlt2))
              have HB4 := Lib.hid (HB2.out.trans (HB3.out.mono HB2.out.size))
              clear hb
              have HE0 : Hid (((lays shRecord y.da ([], 0)).2 : Nat) = putE y) := Lib.hid rfl
              rw [HE0.out]
              have t := nat_ne0 (putE y)
              clear HE0
              generalize putE y = Er at *
              by_cases hEr : Er = 0
              · have HT1 : Hid ((l.take (i + 1)).any (fun r => decide (putE r ≠ 0)) = false) := Lib.hid (by rw [HT.out, HQ.out, hEr]; rfl)
                rw [hEr] at t
                subst hEr
                clear t HN
                go_wp2
                go_roundw
                case rel => exact ⟨i + 1, by omega, by go_num, HB3, HT1⟩
                case measure => simp [intOf]; omega
              · have HF2 : Hid (r = false) := Lib.hid (by rw [HF.out, HN.out (decide_eq_true hEr)]; rfl)
                rw [decide_eq_true hEr] at t
                clear hEr HN
                go_wp2
                go_ret
                exact ⟨by rw [HF2.out]; rfl, HB4.out⟩
            · obtain rfl : i = l.length := by omega
              rw [List.take_length] at HQ
              have HF2 : Hid (r = true) := Lib.hid (by rw [HF.out, HQ.out]; rfl)
              have HB4 := Lib.hid (HB2.out.trans (HBq.out.mono HB2.out.size))
              go_wp2
              go_ret
              exact ⟨by rw [HF2.out]; rfl, HB4.out⟩
    · have HD : Hid (decide (k.snp = .zero) = false) := Lib.hid (decide_eq_false hz)
      have HF : Hid (r = false) := Lib.hid (by rw [← HR.out]; exact rightP_one h2 hz)
      clear hz
      go_enter Try.func17, Try.ntmps17
      go_wp2_with fail
      refine at_below w _ (by repeat (first | with_reducible exact Below.refl _ _ | with_reducible assumption | (with_reducible refine Below.setCell ?_ (by dsimp only; (first | omega | (simp; done) | (simp; omega))) _) | (with_reducible refine Below.alloc ?_ (by (first | omega | (simp; done) | (simp; omega))) _) | with_reducible refine Below.drew ?_)) fun HBx => ?_
      refine (Snaps_any k.snp .zero A c B d none 0 none 0 _ ((HA.out.v.below HBx).more (by (first | omega | (simp; done) | (simp; omega)))) ((HA.out.l.below HBx).more (by (first | omega | (simp; done) | (simp; omega)))) RowsAt.nil RowsAt.nil HS.out.s ⟨by simp [Snp.zero], by simp [Snp.zero]⟩).mono ?_
      rw [HD.out]
      rintro e w1 ⟨rfl, hb⟩
      have HBw := Lib.hid (HBx.trans (hb.mono (by (first | omega | (simp; done) | (simp; omega)))))
      clear hb HBx P0 HD
      go_wp2
      go_ret
      exact ⟨by rw [HF.out]; rfl, HBw.out⟩
  · have H2 : Hid (k.snp = .zero ∨ 1 ≤ k.snp.idx) := Lib.hid (.inr (by omega))
    have R0 := P0
    have HBw : Hid (Below w.heap.size w (w.alloc (.cells #[.int .i64 k.term, .int .i64 k.vote, .int .i64 k.snp.idx, .int .i64 k.snp.term, .slice A k.snp.v.length c, .slice B k.snp.l.length d, .string (text k.snp.b), .slice E k.ents.length n] 30))) := Lib.hid (by repeat (first | with_reducible exact Below.refl _ _ | with_reducible assumption | (with_reducible refine Below.setCell ?_ (by dsimp only; (first | omega | (simp; done) | (simp; omega))) _) | (with_reducible refine Below.alloc ?_ (by (first | omega | (simp; done) | (simp; omega))) _) | with_reducible refine Below.drew ?_))
    clear P0
    go_enter Try.func17, Try.ntmps17
    go_wp2
    go_loopw [3] (fun i wr => ∃ j : Nat, j ≤ k.ents.length ∧ i = .int .i64 j ∧ Hid (Blk wr w.heap.size 30 [.int .i64 k.term, .int .i64 k.vote, .int .i64 k.snp.idx, .int .i64 k.snp.term, .slice A k.snp.v.length c, .slice B k.snp.l.length d, .string (text k.snp.b), .slice E k.ents.length n]) ∧ Hid (Below w.heap.size w wr) ∧ Hid (okRow k.snp.idx k.ents j)) (fun i _ => k.ents.length - (intOf i).toNat)
    case atStart => exact ⟨0, Nat.zero_le _, rfl, R0, HBw, Lib.hid (okRow_zero _ _)⟩
    case round =>
      clear R0 HBw
      obtain ⟨j, hj, rfl, R0, HBw, HE⟩ := hrel
      have l0 := HBw.out.size
      have l1 := R0.out.lt
      have p7 : wr.cell? ⟨w.heap.size, 7, none⟩ = some (.slice E k.ents.length n) := R0.out.cell 7
      by_cases hlt : j < k.ents.length
      · obtain ⟨ad, A3, c3, B3, d3, rfl, _, e1, e2, hcell⟩ := ents_at (HA.out.e.below HBw.out) hlt
        have HX : Hid (∀ x, x = k.ents[j] → x.idx = wrap64 (wrap64 (k.snp.idx + 1) + j) → okRow k.snp.idx k.ents (j + 1)) := Lib.hid (fun x e h => okRow_succ HE.out hlt (by rw [← e]; exact h))
        have HY : Hid (∀ x, x = k.ents[j] → x.idx ≠ wrap64 (wrap64 (k.snp.idx + 1) + j) → r = false) := Lib.hid (fun x e h => by rw [← HR.out]; exact rightP_row hlt (by rw [← e]; exact h))
        obtain ⟨x, hx⟩ : ∃ x, x = k.ents[j] := ⟨_, rfl⟩
        rw [← hx] at hcell
        have HX2 := Lib.hid (HX.out x hx)
        have HY2 := Lib.hid (HY.out x hx)
        unfold Ent.cs at hcell
        have hc0 : wr.cell? (ad.add (j * 6)) = some (.int .i64 x.idx) := hcell 0 _ rfl
        have p2 : wr.cell? ⟨w.heap.size, 2, none⟩ = some (.int .i64 k.snp.idx) := R0.out.cell 2
        clear hcell e1 e2 HX HY hx
        obtain ⟨V1, hV1⟩ : ∃ V, wrap64 (k.snp.idx + 1) = V := ⟨_, rfl⟩
        obtain ⟨V2, hV2⟩ : ∃ V, wrap64 (V1 + j) = V := ⟨_, rfl⟩
        rw [hV1, hV2] at HX2 HY2
        have s1 : IntKind.i64.wrap (k.snp.idx + 1) = V1 := by rw [IntWalk.i64_left]; exact hV1
        have s2 : IntKind.i64.wrap (V1 + (j : Int)) = V2 := by rw [IntWalk.i64_left]; exact hV2
        have q1 : (j : Int) < (k.ents.length : Int) := by omega
        by_cases hq : x.idx = V2
        · have HX3 := Lib.hid (HX2.out hq)
          have t : (x.idx != V2) = false := by simpa using hq
          clear hq HX2 HY2 hV1 hV2
          go_wp2
          go_quiet (fail)
          clear s1 s2
          go_wp2
          go_roundw
          case rel => exact ⟨j + 1, by omega, by go_num, Lib.hid (R0.out.drewN _), Lib.hid (HBw.out.drewN_ _), HX3⟩
          case measure => simp [intOf]; omega
        · have HF := Lib.hid (HY2.out hq)
          have t : (x.idx != V2) = true := by simpa using hq
          clear hq HX2 HY2 hV1 hV2
          go_wp2
          go_quiet (fail)
          clear s1 s2
          go_wp2
          go_ret
          exact ⟨by rw [HF.out]; rfl, HBw.out.drewN_ _⟩
      · obtain rfl : j = k.ents.length := by omega
        have HF : Hid (r = !((recs k).any fun r => decide (putE r ≠ 0))) := Lib.hid (by rw [← HR.out]; exact rightP_end h1 H2.out HE.out)
        have HI : Hid ((Try.prog.info? 30).map (·.size) = some 8) := Lib.hid (by kernel_rfl)
        go_wp2_with (with_reducible refine wpList_load_blk rfl 30 _ rfl w.heap.size rfl R0 (by simp) Try.underlying30 rfl HI ?_)
        refine (rRecords_any k A c B d E n _ ((HA.out.below HBw.out).more l0) HS.out).mono ?_
        rintro e w2 ⟨A5, c5, rfl, hr, h0, hb⟩
        have HB2 := Lib.hid (HBw.out.trans (hb.mono l0))
        have HRR := Lib.hid hr
        have H0 := Lib.hid h0
        have hlen := recs_len k
        generalize recs k = l at *
        clear hb hr h0 p7
        go_wp2
        go_loopw [5] (fun i wr => ∃ j : Nat, j ≤ l.length ∧ i = .int .i64 j ∧ Hid (Below w2.heap.size w2 wr) ∧ Hid ((l.take j).any (fun r => decide (putE r ≠ 0)) = false)) (fun i _ => l.length - (intOf i).toNat)
        case atStart => exact ⟨0, Nat.zero_le _, rfl, Lib.hid (Below.refl _ _), Lib.hid rfl⟩
        case round =>
          obtain ⟨i, hi, rfl, HBq, HQ⟩ := hrel
          by_cases hlt : i < l.length
          · obtain ⟨ad, vs, rfl, hS, hC, hcell⟩ := recs_at (HRR.out.below HBq.out) hlt
            obtain ⟨g, rfl⟩ := H0.out _ rfl
            have HT : Hid ((l.take (i + 1)).any (fun r => decide (putE r ≠ 0)) = ((l.take i).any (fun r => decide (putE r ≠ 0)) || decide (putE l[i] ≠ 0))) := Lib.hid (by rw [List.take_succ_eq_append_getElem hlt, List.any_append]; simp)
            have HN : Hid (decide (putE l[i] ≠ 0) = true → (l.any fun r => decide (putE r ≠ 0)) = true) := Lib.hid (fun h => List.any_eq_true.2 ⟨_, List.getElem_mem hlt, h⟩)
            generalize l[i] = y at *
            have hi : (Try.prog.info? 36).map (·.size) = some vs.length := by rw [hC.len.2]; kernel_rfl
            replace hi := Lib.hid hi
            have HC := Lib.hid hC
            have HG : Hid (wr.rangeAt g (i * 15) vs) := Lib.hid (fun q u hu => by have := hcell q u hu; rwa [Addr.add_mid, Nat.zero_add] at this)
            have hlt2 := HBq.out.size
            clear hC hcell
            go_wp2_with (first | (with_reducible refine wpList_load_mid rfl 36 _ rfl g (i * 15) rfl vs _ HG.out Try.underlying36 rfl hi.out ?_) | fail)
            refine (rput_Record y.da vs _ (HC.out.more hlt2) (record_le _)).mono ?_
            rintro e w3 ⟨⟨A6, n6, c6, rfl, _⟩, hb⟩
            have HB3 := Lib.hid (HBq.out.trans (hb.mono hlt2))
            have HB4 := Lib.hid (HB2.out.trans (HB3.out.mono HB2.out.size))
            clear hb
            have HE0 : Hid (((lays shRecord y.da ([], 0)).2 : Nat) = putE y) := Lib.hid rfl
            rw [HE0.out]
            have t := nat_ne0 (putE y)
            clear HE0
            generalize putE y = Er at *
            by_cases hEr : Er = 0
            · have HT1 : Hid ((l.take (i + 1)).any (fun r => decide (putE r ≠ 0)) = false) := Lib.hid (by rw [HT.out, HQ.out, hEr]; rfl)
              rw [hEr] at t
              subst hEr
              clear t HN
              go_wp2
              go_roundw
              case rel => exact ⟨i + 1, by omega, by go_num, HB3, HT1⟩
              case measure => simp [intOf]; omega
            · have HF2 : Hid (r = false) := Lib.hid (by rw [HF.out, HN.out (decide_eq_true hEr)]; rfl)
              rw [decide_eq_true hEr] at t
              clear hEr HN
              go_wp2
              go_ret
              exact ⟨by rw [HF2.out]; rfl, HB4.out⟩
          · obtain rfl : i = l.length := by omega
            rw [List.take_length] at HQ
            have HF2 : Hid (r = true) := Lib.hid (by rw [HF.out, HQ.out]; rfl)
            have HB4 := Lib.hid (HB2.out.trans (HBq.out.mono HB2.out.size))
            go_wp2
            go_ret
            exact ⟨by rw [HF2.out]; rfl, HB4.out⟩
end Go.Proofs.Ytkdmfjpfanmgmaa
