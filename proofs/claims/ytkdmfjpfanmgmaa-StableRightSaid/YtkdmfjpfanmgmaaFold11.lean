/- The walk of the reference's Records. Printed by mkfold11.py. -/
import Derived.Test.YtkdmfjpfanmgmaaFold10
namespace Go.Proofs.Ytkdmfjpfanmgmaa
open Go.RowKit Le
set_option maxRecDepth 100000
set_option linter.unusedSimpArgs false
set_option linter.unusedVariables false

set_option maxHeartbeats 3200000 in
theorem rRecords_any (k : Kep) (A : Option Addr) (c : Nat) (B : Option Addr) (d : Nat) (E : Option Addr) (n : Nat) (w : World) (h : KepAt w (· < w.heap.size) k A B E) (hs : k.Small) :
    Calls Try.prog 41 #[.agg (k.cs A c B d E n).toArray] w (RecsEnd w (recs k)) := by
  obtain ⟨i0, hi0, hz0, hz1, hz2⟩ := info_parts info_record
  unfold Kep.cs
  have P0 := Lib.hid (Blk.new w 30 [.int .i64 k.term, .int .i64 k.vote, .int .i64 k.snp.idx, .int .i64 k.snp.term, .slice A k.snp.v.length c, .slice B k.snp.l.length d, .string (text k.snp.b), .slice E k.ents.length n])
  have HA := Lib.hid h
  have HS := Lib.hid hs
  have hn := hs.n
  clear h hs
  have O1 := Lib.hid (own_new1 (w.alloc (.cells #[.int .i64 k.term, .int .i64 k.vote, .int .i64 k.snp.idx, .int .i64 k.snp.term, .slice A k.snp.v.length c, .slice B k.snp.l.length d, .string (text k.snp.b), .slice E k.ents.length n] 30)) 36 [.int .i64 1, .int .i64 k.term, .int .i64 k.vote, .int .i64 0, .int .i64 0, .int .i64 0, .slice none 0 0, .slice none 0 0, .string ⟨#[]⟩, .int .i64 0, .int .i64 0, .int .i64 0, .slice none 0 0, .slice none 0 0, .string ⟨#[]⟩] w.heap.size (by (first | omega | (simp; done) | (simp; omega))))
  have HT1 : Hid (ThingsN ((w.alloc (.cells #[.int .i64 k.term, .int .i64 k.vote, .int .i64 k.snp.idx, .int .i64 k.snp.term, .slice A k.snp.v.length c, .slice B k.snp.l.length d, .string (text k.snp.b), .slice E k.ents.length n] 30)).alloc (.cells #[.int .i64 1, .int .i64 k.term, .int .i64 k.vote, .int .i64 0, .int .i64 0, .int .i64 0, .slice none 0 0, .slice none 0 0, .string ⟨#[]⟩, .int .i64 0, .int .i64 0, .int .i64 0, .slice none 0 0, .slice none 0 0, .string ⟨#[]⟩] 36)) w.heap.size [3] shRecord ([Rcd.ofVote k.term k.vote].map Rcd.da) [.int .i64 1, .int .i64 k.term, .int .i64 k.vote, .int .i64 0, .int .i64 0, .int .i64 0, .slice none 0 0, .slice none 0 0, .string ⟨#[]⟩, .int .i64 0, .int .i64 0, .int .i64 0, .slice none 0 0, .slice none 0 0, .string ⟨#[]⟩]) := Lib.hid (by have h := ThingsN.snoc (w := (w.alloc (.cells #[.int .i64 k.term, .int .i64 k.vote, .int .i64 k.snp.idx, .int .i64 k.snp.term, .slice A k.snp.v.length c, .slice B k.snp.l.length d, .string (text k.snp.b), .slice E k.ents.length n] 30)).alloc (.cells #[.int .i64 1, .int .i64 k.term, .int .i64 k.vote, .int .i64 0, .int .i64 0, .int .i64 0, .slice none 0 0, .slice none 0 0, .string ⟨#[]⟩, .int .i64 0, .int .i64 0, .int .i64 0, .slice none 0 0, .slice none 0 0, .string ⟨#[]⟩] 36)) (base := w.heap.size) (us := [3]) (xs := []) (ds := []) ThingsN.nil (by simp) (cels_vote k.term k.vote); simpa using h)
  by_cases hz : k.snp = .zero
  · have HE : Hid (recs k = [Rcd.ofVote k.term k.vote] ++ k.ents.map Rcd.ofEnt) := Lib.hid (by simp [recs, hz])
    have HL : Hid ((recs k).length = 1 + k.ents.length) := Lib.hid (by rw [HE.out]; simp; omega)
    have HD : Hid (decide (k.snp = .zero) = true) := Lib.hid (decide_eq_true hz)
    clear hz
    go_enter Try.func41, Try.ntmps41
    go_wp2_with fail
    refine at_below w _ (by repeat (first | with_reducible exact Below.refl _ _ | with_reducible assumption | (with_reducible refine Below.setCell ?_ (by dsimp only; (first | omega | (simp; done) | (simp; omega))) _) | (with_reducible refine Below.alloc ?_ (by (first | omega | (simp; done) | (simp; omega))) _) | with_reducible refine Below.drew ?_)) fun HBx => ?_
    refine (Snaps_any k.snp .zero A c B d none 0 none 0 _ ((HA.out.v.below HBx).more (by (first | omega | (simp; done) | (simp; omega)))) ((HA.out.l.below HBx).more (by (first | omega | (simp; done) | (simp; omega)))) RowsAt.nil RowsAt.nil HS.out.s ⟨by simp [Snp.zero], by simp [Snp.zero]⟩).mono ?_
    rw [HD.out]
    rintro e w1 ⟨rfl, hb⟩
    have z1 : w.heap.size + 1 + 1 ≤ w1.heap.size := by have := hb.size; simpa using this
    have R0 := Lib.hid ((P0.out.alloc (.cells #[.int .i64 1, .int .i64 k.term, .int .i64 k.vote, .int .i64 0, .int .i64 0, .int .i64 0, .slice none 0 0, .slice none 0 0, .string ⟨#[]⟩, .int .i64 0, .int .i64 0, .int .i64 0, .slice none 0 0, .slice none 0 0, .string ⟨#[]⟩] 36)).below hb (by (first | omega | (simp; done) | (simp; omega))))
    have O2 : Hid (w1.ownsRow w.heap.size 36 15 (.slice (some ⟨w.heap.size + 1, 0, none⟩) 1 1) 1 [.int .i64 1, .int .i64 k.term, .int .i64 k.vote, .int .i64 0, .int .i64 0, .int .i64 0, .slice none 0 0, .slice none 0 0, .string ⟨#[]⟩, .int .i64 0, .int .i64 0, .int .i64 0, .slice none 0 0, .slice none 0 0, .string ⟨#[]⟩]) := Lib.hid (by have h := O1.out.below_ hb; simpa using h)
    have HT2 := Lib.hid (HT1.out.keeps (ts := []) (Keeps.of_below hb (Nat.le_refl _)) (by simp))
    have HBw := Lib.hid (HBx.trans (hb.mono (by (first | omega | (simp; done) | (simp; omega)))))
    clear hb HBx O1 HT1 P0
    have HO : Hid (w1.ownsRow w.heap.size 36 15 (.slice (some ⟨w.heap.size + 1, 0, none⟩) 1 1) 1 [.int .i64 1, .int .i64 k.term, .int .i64 k.vote, .int .i64 0, .int .i64 0, .int .i64 0, .slice none 0 0, .slice none 0 0, .string ⟨#[]⟩, .int .i64 0, .int .i64 0, .int .i64 0, .slice none 0 0, .slice none 0 0, .string ⟨#[]⟩]) := O2
    have HT : Hid (ThingsN w1 w.heap.size [3] shRecord ([Rcd.ofVote k.term k.vote].map Rcd.da) [.int .i64 1, .int .i64 k.term, .int .i64 k.vote, .int .i64 0, .int .i64 0, .int .i64 0, .slice none 0 0, .slice none 0 0, .string ⟨#[]⟩, .int .i64 0, .int .i64 0, .int .i64 0, .slice none 0 0, .slice none 0 0, .string ⟨#[]⟩]) := HT2
    clear O2 HT2 HD
    go_wp2
    go_loopw [3, 4] (fun v i wr => ∃ (j : Nat) (A1 : Option Addr) (c1 : Nat) (xs : List Value), j ≤ k.ents.length ∧ i = .int .i64 j ∧ v = .slice A1 (1 + j) c1 ∧ Hid (Blk wr w.heap.size 30 [.int .i64 k.term, .int .i64 k.vote, .int .i64 k.snp.idx, .int .i64 k.snp.term, .slice A k.snp.v.length c, .slice B k.snp.l.length d, .string (text k.snp.b), .slice E k.ents.length n]) ∧ Hid (wr.ownsRow w.heap.size 36 15 (.slice A1 (1 + j) c1) (1 + j) xs) ∧ Hid (ThingsN wr w.heap.size [3] shRecord (([Rcd.ofVote k.term k.vote] ++ (k.ents.take j).map Rcd.ofEnt).map Rcd.da) xs) ∧ Hid (Below w.heap.size w wr)) (fun _ i _ => k.ents.length - (intOf i).toNat)
    case atStart => exact ⟨0, some ⟨w.heap.size + 1, 0, none⟩, 1, _, Nat.zero_le _, rfl, rfl, R0, HO, HT, HBw⟩
    case round =>
      obtain ⟨j, A1, c1, xs, hj, rfl, rfl, R0, HO, HT, HBw⟩ := hrel
      have p7 : wr.cell? ⟨w.heap.size, 7, none⟩ = some (.slice E k.ents.length n) := R0.out.cell 7
      by_cases hlt : j < k.ents.length
      · have HT1 : Hid (([Rcd.ofVote k.term k.vote] ++ (k.ents.take (j + 1)).map Rcd.ofEnt).map Rcd.da = ([Rcd.ofVote k.term k.vote] ++ (k.ents.take j).map Rcd.ofEnt).map Rcd.da ++ [(Rcd.ofEnt (k.ents[j])).da]) := Lib.hid (by rw [List.take_succ_eq_append_getElem hlt]; simp only [List.map_append, List.append_assoc, List.map_cons, List.map_nil])
        obtain ⟨ad, A3, c3, B3, d3, rfl, _, e1, e2, hcell⟩ := ents_at (HA.out.e.below HBw.out) hlt
        have hsm := HS.out.e _ (List.getElem_mem hlt)
        generalize k.ents[j] = x at *
        have HC3 := Lib.hid e1
        have HC4 := Lib.hid e2
        have HSM := Lib.hid hsm
        unfold Ent.cs at hcell
        have hc0 : wr.cell? (ad.add (j * 6)) = some (.int .i64 x.idx) := hcell 0 _ rfl
        have hc1 : wr.cell? ⟨(ad.add (j * 6)).block, (ad.add (j * 6)).off + 1, none⟩ = some (.int .i64 x.term) := by rw [← add_field ad (j * 6) 1 (by decide)]; exact hcell 1 _ rfl
        have hc2 : wr.cell? ⟨(ad.add (j * 6)).block, (ad.add (j * 6)).off + 2, none⟩ = some (.int .i64 x.kind) := by rw [← add_field ad (j * 6) 2 (by decide)]; exact hcell 2 _ rfl
        have hc3 : wr.cell? ⟨(ad.add (j * 6)).block, (ad.add (j * 6)).off + 3, none⟩ = some (.slice A3 x.v.length c3) := by rw [← add_field ad (j * 6) 3 (by decide)]; exact hcell 3 _ rfl
        have hc4 : wr.cell? ⟨(ad.add (j * 6)).block, (ad.add (j * 6)).off + 4, none⟩ = some (.slice B3 x.l.length d3) := by rw [← add_field ad (j * 6) 4 (by decide)]; exact hcell 4 _ rfl
        have hc5 : wr.cell? ⟨(ad.add (j * 6)).block, (ad.add (j * 6)).off + 5, none⟩ = some (.string (text x.b)) := by rw [← add_field ad (j * 6) 5 (by decide)]; exact hcell 5 _ rfl
        clear hcell e1 e2 hsm
        have l0 := HBw.out.size
        have l1 := R0.out.lt
        go_wp2_with fail
        refine (rEntry_any x A3 c3 B3 d3 _ (HC3.out.more (by (first | omega | (simp; done) | (simp; omega)))) (HC4.out.more (by (first | omega | (simp; done) | (simp; omega)))) (by have := HSM.out.v; omega) (by have := HSM.out.l; omega)).mono ?_
        rintro e w3 ⟨A4, c4, B4, d4, rfl, hr3, hr4, hb⟩
        unfold Ent.cs
        have z3 := hb.size
        have HO3 := Lib.hid (HO.out.below_ hb)
        have R3 := Lib.hid (R0.out.below hb l1)
        have HB3 := Lib.hid (HBw.out.trans (hb.mono l0))
        have HR3 := Lib.hid hr3
        have HR4 := Lib.hid hr4
        have HBB := Lib.hid hb
        clear hr3 hr4 hb hc0 hc1 hc2 hc3 hc4 hc5 p7
        go_wp2_with (first
          | (at_builtin
             refine wpList_appN (o := ⟨some 39, _, _, _, _, _⟩) rfl _ _ _ rfl w.heap.size 36 i0 _ 15 200 Try.underlying57 hi0 hz0 hz1 hz2 rfl (by decide) (.slice A1 (1 + j) c1) (1 + j) xs rfl (HO3.out.alloc _) ⟨w3.heap.size, 0, none⟩ 1 [.int .i64 2, .int .i64 0, .int .i64 0, .int .i64 x.idx, .int .i64 x.term, .int .i64 x.kind, .slice A4 x.v.length c4, .slice B4 x.l.length d4, .string (text x.b), .int .i64 0, .int .i64 0, .int .i64 0, .slice none 0 0, .slice none 0 0, .string ⟨#[]⟩] rfl rfl ?_ ?_ ?_ ?_ ?_ ?_
             · exact Blk.news (Blk.new w3 36 [.int .i64 2, .int .i64 0, .int .i64 0, .int .i64 x.idx, .int .i64 x.term, .int .i64 x.kind, .slice A4 x.v.length c4, .slice B4 x.l.length d4, .string (text x.b), .int .i64 0, .int .i64 0, .int .i64 0, .slice none 0 0, .slice none 0 0, .string ⟨#[]⟩])
             · simp [Value.oneCell']
             · unfold maxLen; omega
             · omega
             · simp; omega
             intro A5 c5 w5 HO5 HG5))
        have B6 := Lib.hid ((HB3.out.alloc (by omega) (.cells #[.int .i64 2, .int .i64 0, .int .i64 0, .int .i64 x.idx, .int .i64 x.term, .int .i64 x.kind, .slice A4 x.v.length c4, .slice B4 x.l.length d4, .string (text x.b), .int .i64 0, .int .i64 0, .int .i64 0, .slice none 0 0, .slice none 0 0, .string ⟨#[]⟩] 36)).grown HG5.out (by simp; omega) (own_block_ge HO3.out))
        have R5 := Lib.hid ((R3.out.alloc (.cells #[.int .i64 2, .int .i64 0, .int .i64 0, .int .i64 x.idx, .int .i64 x.term, .int .i64 x.kind, .slice A4 x.v.length c4, .slice B4 x.l.length d4, .string (text x.b), .int .i64 0, .int .i64 0, .int .i64 0, .slice none 0 0, .slice none 0 0, .string ⟨#[]⟩] 36)).grown HG5.out (blk_own_ne R3.out HO3.out (by decide)))
        have K1 : Hid (Keeps [36] w3 w5) := Lib.hid ((Keeps.alloc w3 (.cells #[.int .i64 2, .int .i64 0, .int .i64 0, .int .i64 x.idx, .int .i64 x.term, .int .i64 x.kind, .slice A4 x.v.length c4, .slice B4 x.l.length d4, .string (text x.b), .int .i64 0, .int .i64 0, .int .i64 0, .slice none 0 0, .slice none 0 0, .string ⟨#[]⟩] 36)).trans (Keeps.grown (HO3.out.alloc (.cells #[.int .i64 2, .int .i64 0, .int .i64 0, .int .i64 x.idx, .int .i64 x.term, .int .i64 x.kind, .slice A4 x.v.length c4, .slice B4 x.l.length d4, .string (text x.b), .int .i64 0, .int .i64 0, .int .i64 0, .slice none 0 0, .slice none 0 0, .string ⟨#[]⟩] 36)) HG5.out (by simp) HG5.out.size))
        have KK : Hid (Keeps [36] wr w5) := Lib.hid ((Keeps.of_below HBB.out (Nat.le_refl _)).trans K1.out)
        have T6 : Hid (ThingsN w5 w.heap.size [3] shRecord (([Rcd.ofVote k.term k.vote] ++ (k.ents.take (j + 1)).map Rcd.ofEnt).map Rcd.da) (xs ++ [.int .i64 2, .int .i64 0, .int .i64 0, .int .i64 x.idx, .int .i64 x.term, .int .i64 x.kind, .slice A4 x.v.length c4, .slice B4 x.l.length d4, .string (text x.b), .int .i64 0, .int .i64 0, .int .i64 0, .slice none 0 0, .slice none 0 0, .string ⟨#[]⟩])) := by
          have g1 := (HR3.out.nw_mono (base' := w.heap.size) l0 fun _ h => h).nw_keeps K1.out (by decide)
          have g2 := (HR4.out.nw_mono (base' := w.heap.size) l0 fun _ h => h).nw_keeps K1.out (by decide)
          rw [HT1.out]
          exact Lib.hid ((HT.out.keeps KK.out (by decide)).snoc (by have := HO.out.1; rw [this, List.length_map, List.length_append, List.length_map, List.length_take, Nat.min_eq_left hj]; rfl) (cels_ent x c4 d4 g1 g2))
        go_wp2
        go_roundw
        case rel => exact ⟨j + 1, A5, c5, _, by omega, by go_num, by rw [Nat.add_assoc], R5, by simpa [Nat.add_assoc] using HO5, T6, B6⟩
        case measure => simp [intOf]; omega
      · obtain rfl : j = k.ents.length := by omega
        rw [List.take_length] at HT
        go_wp2
        go_ret
        refine ⟨A1, c1, by rw [HL.out]; rfl, ?_, own_at0 HO.out, HBw.out⟩
        rw [HE.out]
        exact (rowsAt_ownN HO.out (by rw [← HE.out, List.length_map, HL.out]) HT.out).nw_lt
  · have HE : Hid (recs k = [Rcd.ofVote k.term k.vote, Rcd.ofSnp k.snp] ++ k.ents.map Rcd.ofEnt) := Lib.hid (by simp [recs, hz])
    have HL : Hid ((recs k).length = 2 + k.ents.length) := Lib.hid (by rw [HE.out]; simp; omega)
    have HD : Hid (decide (k.snp = .zero) = false) := Lib.hid (decide_eq_false hz)
    clear hz
    go_enter Try.func41, Try.ntmps41
    go_wp2_with fail
    refine at_below w _ (by repeat (first | with_reducible exact Below.refl _ _ | with_reducible assumption | (with_reducible refine Below.setCell ?_ (by dsimp only; (first | omega | (simp; done) | (simp; omega))) _) | (with_reducible refine Below.alloc ?_ (by (first | omega | (simp; done) | (simp; omega))) _) | with_reducible refine Below.drew ?_)) fun HBx => ?_
    refine (Snaps_any k.snp .zero A c B d none 0 none 0 _ ((HA.out.v.below HBx).more (by (first | omega | (simp; done) | (simp; omega)))) ((HA.out.l.below HBx).more (by (first | omega | (simp; done) | (simp; omega)))) RowsAt.nil RowsAt.nil HS.out.s ⟨by simp [Snp.zero], by simp [Snp.zero]⟩).mono ?_
    rw [HD.out]
    rintro e w1 ⟨rfl, hb⟩
    have z1 : w.heap.size + 1 + 1 ≤ w1.heap.size := by have := hb.size; simpa using this
    have R0 := Lib.hid ((P0.out.alloc (.cells #[.int .i64 1, .int .i64 k.term, .int .i64 k.vote, .int .i64 0, .int .i64 0, .int .i64 0, .slice none 0 0, .slice none 0 0, .string ⟨#[]⟩, .int .i64 0, .int .i64 0, .int .i64 0, .slice none 0 0, .slice none 0 0, .string ⟨#[]⟩] 36)).below hb (by (first | omega | (simp; done) | (simp; omega))))
    have O2 : Hid (w1.ownsRow w.heap.size 36 15 (.slice (some ⟨w.heap.size + 1, 0, none⟩) 1 1) 1 [.int .i64 1, .int .i64 k.term, .int .i64 k.vote, .int .i64 0, .int .i64 0, .int .i64 0, .slice none 0 0, .slice none 0 0, .string ⟨#[]⟩, .int .i64 0, .int .i64 0, .int .i64 0, .slice none 0 0, .slice none 0 0, .string ⟨#[]⟩]) := Lib.hid (by have h := O1.out.below_ hb; simpa using h)
    have HT2 := Lib.hid (HT1.out.keeps (ts := []) (Keeps.of_below hb (Nat.le_refl _)) (by simp))
    have HBw := Lib.hid (HBx.trans (hb.mono (by (first | omega | (simp; done) | (simp; omega)))))
    clear hb HBx O1 HT1 P0
    have a2 : w1.cell? ⟨w.heap.size, 2, none⟩ = some (.int .i64 k.snp.idx) := R0.out.cell 2
    have a3 : w1.cell? ⟨w.heap.size, 3, none⟩ = some (.int .i64 k.snp.term) := R0.out.cell 3
    have a4 : w1.cell? ⟨w.heap.size, 4, none⟩ = some (.slice A k.snp.v.length c) := R0.out.cell 4
    have a5 : w1.cell? ⟨w.heap.size, 5, none⟩ = some (.slice B k.snp.l.length d) := R0.out.cell 5
    have a6 : w1.cell? ⟨w.heap.size, 6, none⟩ = some (.string (text k.snp.b)) := R0.out.cell 6
    have a7 : w1.cell? ⟨w.heap.size, 7, none⟩ = some (.slice E k.ents.length n) := R0.out.cell 7
    go_wp2_with fail
    refine (rSnap_any k.snp A c B d _ ((HA.out.v.below HBw.out).more (by (first | omega | (simp; done) | (simp; omega)))) ((HA.out.l.below HBw.out).more (by (first | omega | (simp; done) | (simp; omega)))) (by have := HS.out.s.v; omega) (by have := HS.out.s.l; omega)).mono ?_
    rintro e w3 ⟨A2, c2, B2, d2, rfl, hr1, hr2, hb⟩
    unfold Snp.cs
    have z3 := hb.size
    have HO3 := Lib.hid (O2.out.below_ hb)
    have R3 := Lib.hid (R0.out.below hb (by (first | omega | (simp; done) | (simp; omega))))
    have HB3 := Lib.hid (HBw.out.trans (hb.mono (by (first | omega | (simp; done) | (simp; omega)))))
    have HT3 := Lib.hid (HT2.out.keeps (ts := []) (Keeps.of_below hb (Nat.le_refl _)) (by simp))
    have HR3 := Lib.hid hr1
    have HR4 := Lib.hid hr2
    clear hr1 hr2 hb a2 a3 a4 a5 a6 a7 R0 O2 HT2 HBw
    go_wp2_with (first
      | (at_builtin
         refine wpList_appN (o := ⟨some 22, _, _, _, _, _⟩) rfl _ _ _ rfl w.heap.size 36 i0 _ 15 200 Try.underlying57 hi0 hz0 hz1 hz2 rfl (by decide) (.slice (some ⟨w.heap.size + 1, 0, none⟩) 1 1) 1 [.int .i64 1, .int .i64 k.term, .int .i64 k.vote, .int .i64 0, .int .i64 0, .int .i64 0, .slice none 0 0, .slice none 0 0, .string ⟨#[]⟩, .int .i64 0, .int .i64 0, .int .i64 0, .slice none 0 0, .slice none 0 0, .string ⟨#[]⟩] rfl (HO3.out.alloc _) ⟨w3.heap.size, 0, none⟩ 1 [.int .i64 4, .int .i64 0, .int .i64 0, .int .i64 0, .int .i64 0, .int .i64 0, .slice none 0 0, .slice none 0 0, .string ⟨#[]⟩, .int .i64 0, .int .i64 k.snp.idx, .int .i64 k.snp.term, .slice A2 k.snp.v.length c2, .slice B2 k.snp.l.length d2, .string (text k.snp.b)] rfl rfl ?_ ?_ ?_ ?_ ?_ ?_
         · exact Blk.news (Blk.new w3 36 [.int .i64 4, .int .i64 0, .int .i64 0, .int .i64 0, .int .i64 0, .int .i64 0, .slice none 0 0, .slice none 0 0, .string ⟨#[]⟩, .int .i64 0, .int .i64 k.snp.idx, .int .i64 k.snp.term, .slice A2 k.snp.v.length c2, .slice B2 k.snp.l.length d2, .string (text k.snp.b)])
         · simp [Value.oneCell']
         · unfold maxLen; omega
         · omega
         · simp; omega
         intro A5 c5 w5 HO HG5
         have HBw := Lib.hid ((HB3.out.alloc (by omega) (.cells #[.int .i64 4, .int .i64 0, .int .i64 0, .int .i64 0, .int .i64 0, .int .i64 0, .slice none 0 0, .slice none 0 0, .string ⟨#[]⟩, .int .i64 0, .int .i64 k.snp.idx, .int .i64 k.snp.term, .slice A2 k.snp.v.length c2, .slice B2 k.snp.l.length d2, .string (text k.snp.b)] 36)).grown HG5.out (by simp; omega) (own_block_ge HO3.out))
         have R0 := Lib.hid ((R3.out.alloc (.cells #[.int .i64 4, .int .i64 0, .int .i64 0, .int .i64 0, .int .i64 0, .int .i64 0, .slice none 0 0, .slice none 0 0, .string ⟨#[]⟩, .int .i64 0, .int .i64 k.snp.idx, .int .i64 k.snp.term, .slice A2 k.snp.v.length c2, .slice B2 k.snp.l.length d2, .string (text k.snp.b)] 36)).grown HG5.out (blk_own_ne R3.out HO3.out (by decide)))
         have K1 : Hid (Keeps [36] w3 w5) := Lib.hid ((Keeps.alloc w3 (.cells #[.int .i64 4, .int .i64 0, .int .i64 0, .int .i64 0, .int .i64 0, .int .i64 0, .slice none 0 0, .slice none 0 0, .string ⟨#[]⟩, .int .i64 0, .int .i64 k.snp.idx, .int .i64 k.snp.term, .slice A2 k.snp.v.length c2, .slice B2 k.snp.l.length d2, .string (text k.snp.b)] 36)).trans (Keeps.grown (HO3.out.alloc (.cells #[.int .i64 4, .int .i64 0, .int .i64 0, .int .i64 0, .int .i64 0, .int .i64 0, .slice none 0 0, .slice none 0 0, .string ⟨#[]⟩, .int .i64 0, .int .i64 k.snp.idx, .int .i64 k.snp.term, .slice A2 k.snp.v.length c2, .slice B2 k.snp.l.length d2, .string (text k.snp.b)] 36)) HG5.out (by simp) HG5.out.size))
         have HT : Hid (ThingsN w5 w.heap.size [3] shRecord ([Rcd.ofVote k.term k.vote, Rcd.ofSnp k.snp].map Rcd.da) ([.int .i64 1, .int .i64 k.term, .int .i64 k.vote, .int .i64 0, .int .i64 0, .int .i64 0, .slice none 0 0, .slice none 0 0, .string ⟨#[]⟩, .int .i64 0, .int .i64 0, .int .i64 0, .slice none 0 0, .slice none 0 0, .string ⟨#[]⟩] ++ [.int .i64 4, .int .i64 0, .int .i64 0, .int .i64 0, .int .i64 0, .int .i64 0, .slice none 0 0, .slice none 0 0, .string ⟨#[]⟩, .int .i64 0, .int .i64 k.snp.idx, .int .i64 k.snp.term, .slice A2 k.snp.v.length c2, .slice B2 k.snp.l.length d2, .string (text k.snp.b)])) := by
           have g1 := (HR3.out.nw_mono (base' := w.heap.size) (by omega) fun _ h => h).nw_keeps K1.out (by decide)
           have g2 := (HR4.out.nw_mono (base' := w.heap.size) (by omega) fun _ h => h).nw_keeps K1.out (by decide)
           exact Lib.hid ((HT3.out.keeps K1.out (by decide)).snoc (by simp [shRecord]) (cels_snap k.snp c2 d2 g1 g2))
         clear HO3 R3 HB3 HT3 HR3 HR4 K1 HG5))
    go_wp2
    go_loopw [3, 4] (fun v i wr => ∃ (j : Nat) (A1 : Option Addr) (c1 : Nat) (xs : List Value), j ≤ k.ents.length ∧ i = .int .i64 j ∧ v = .slice A1 (2 + j) c1 ∧ Hid (Blk wr w.heap.size 30 [.int .i64 k.term, .int .i64 k.vote, .int .i64 k.snp.idx, .int .i64 k.snp.term, .slice A k.snp.v.length c, .slice B k.snp.l.length d, .string (text k.snp.b), .slice E k.ents.length n]) ∧ Hid (wr.ownsRow w.heap.size 36 15 (.slice A1 (2 + j) c1) (2 + j) xs) ∧ Hid (ThingsN wr w.heap.size [3] shRecord (([Rcd.ofVote k.term k.vote, Rcd.ofSnp k.snp] ++ (k.ents.take j).map Rcd.ofEnt).map Rcd.da) xs) ∧ Hid (Below w.heap.size w wr)) (fun _ i _ => k.ents.length - (intOf i).toNat)
    case atStart => exact ⟨0, A5, c5, _, Nat.zero_le _, rfl, rfl, R0, HO, HT, HBw⟩
    case round =>
      obtain ⟨j, A1, c1, xs, hj, rfl, rfl, R0, HO, HT, HBw⟩ := hrel
      have p7 : wr.cell? ⟨w.heap.size, 7, none⟩ = some (.slice E k.ents.length n) := R0.out.cell 7
      by_cases hlt : j < k.ents.length
      · have HT1 : Hid (([Rcd.ofVote k.term k.vote, Rcd.ofSnp k.snp] ++ (k.ents.take (j + 1)).map Rcd.ofEnt).map Rcd.da = ([Rcd.ofVote k.term k.vote, Rcd.ofSnp k.snp] ++ (k.ents.take j).map Rcd.ofEnt).map Rcd.da ++ [(Rcd.ofEnt (k.ents[j])).da]) := Lib.hid (by rw [List.take_succ_eq_append_getElem hlt]; simp only [List.map_append, List.append_assoc, List.map_cons, List.map_nil])
        obtain ⟨ad, A3, c3, B3, d3, rfl, _, e1, e2, hcell⟩ := ents_at (HA.out.e.below HBw.out) hlt
        have hsm := HS.out.e _ (List.getElem_mem hlt)
        generalize k.ents[j] = x at *
        have HC3 := Lib.hid e1
        have HC4 := Lib.hid e2
        have HSM := Lib.hid hsm
        unfold Ent.cs at hcell
        have hc0 : wr.cell? (ad.add (j * 6)) = some (.int .i64 x.idx) := hcell 0 _ rfl
        have hc1 : wr.cell? ⟨(ad.add (j * 6)).block, (ad.add (j * 6)).off + 1, none⟩ = some (.int .i64 x.term) := by rw [← add_field ad (j * 6) 1 (by decide)]; exact hcell 1 _ rfl
        have hc2 : wr.cell? ⟨(ad.add (j * 6)).block, (ad.add (j * 6)).off + 2, none⟩ = some (.int .i64 x.kind) := by rw [← add_field ad (j * 6) 2 (by decide)]; exact hcell 2 _ rfl
        have hc3 : wr.cell? ⟨(ad.add (j * 6)).block, (ad.add (j * 6)).off + 3, none⟩ = some (.slice A3 x.v.length c3) := by rw [← add_field ad (j * 6) 3 (by decide)]; exact hcell 3 _ rfl
        have hc4 : wr.cell? ⟨(ad.add (j * 6)).block, (ad.add (j * 6)).off + 4, none⟩ = some (.slice B3 x.l.length d3) := by rw [← add_field ad (j * 6) 4 (by decide)]; exact hcell 4 _ rfl
        have hc5 : wr.cell? ⟨(ad.add (j * 6)).block, (ad.add (j * 6)).off + 5, none⟩ = some (.string (text x.b)) := by rw [← add_field ad (j * 6) 5 (by decide)]; exact hcell 5 _ rfl
        clear hcell e1 e2 hsm
        have l0 := HBw.out.size
        have l1 := R0.out.lt
        go_wp2_with fail
        refine (rEntry_any x A3 c3 B3 d3 _ (HC3.out.more (by (first | omega | (simp; done) | (simp; omega)))) (HC4.out.more (by (first | omega | (simp; done) | (simp; omega)))) (by have := HSM.out.v; omega) (by have := HSM.out.l; omega)).mono ?_
        rintro e w3 ⟨A4, c4, B4, d4, rfl, hr3, hr4, hb⟩
        unfold Ent.cs
        have z3 := hb.size
        have HO3 := Lib.hid (HO.out.below_ hb)
        have R3 := Lib.hid (R0.out.below hb l1)
        have HB3 := Lib.hid (HBw.out.trans (hb.mono l0))
        have HR3 := Lib.hid hr3
        have HR4 := Lib.hid hr4
        have HBB := Lib.hid hb
        clear hr3 hr4 hb hc0 hc1 hc2 hc3 hc4 hc5 p7
        go_wp2_with (first
          | (at_builtin
             refine wpList_appN (o := ⟨some 39, _, _, _, _, _⟩) rfl _ _ _ rfl w.heap.size 36 i0 _ 15 200 Try.underlying57 hi0 hz0 hz1 hz2 rfl (by decide) (.slice A1 (2 + j) c1) (2 + j) xs rfl (HO3.out.alloc _) ⟨w3.heap.size, 0, none⟩ 1 [.int .i64 2, .int .i64 0, .int .i64 0, .int .i64 x.idx, .int .i64 x.term, .int .i64 x.kind, .slice A4 x.v.length c4, .slice B4 x.l.length d4, .string (text x.b), .int .i64 0, .int .i64 0, .int .i64 0, .slice none 0 0, .slice none 0 0, .string ⟨#[]⟩] rfl rfl ?_ ?_ ?_ ?_ ?_ ?_
             · exact Blk.news (Blk.new w3 36 [.int .i64 2, .int .i64 0, .int .i64 0, .int .i64 x.idx, .int .i64 x.term, .int .i64 x.kind, .slice A4 x.v.length c4, .slice B4 x.l.length d4, .string (text x.b), .int .i64 0, .int .i64 0, .int .i64 0, .slice none 0 0, .slice none 0 0, .string ⟨#[]⟩])
             · simp [Value.oneCell']
             · unfold maxLen; omega
             · omega
             · simp; omega
             intro A5 c5 w5 HO5 HG5))
        have B6 := Lib.hid ((HB3.out.alloc (by omega) (.cells #[.int .i64 2, .int .i64 0, .int .i64 0, .int .i64 x.idx, .int .i64 x.term, .int .i64 x.kind, .slice A4 x.v.length c4, .slice B4 x.l.length d4, .string (text x.b), .int .i64 0, .int .i64 0, .int .i64 0, .slice none 0 0, .slice none 0 0, .string ⟨#[]⟩] 36)).grown HG5.out (by simp; omega) (own_block_ge HO3.out))
        have R5 := Lib.hid ((R3.out.alloc (.cells #[.int .i64 2, .int .i64 0, .int .i64 0, .int .i64 x.idx, .int .i64 x.term, .int .i64 x.kind, .slice A4 x.v.length c4, .slice B4 x.l.length d4, .string (text x.b), .int .i64 0, .int .i64 0, .int .i64 0, .slice none 0 0, .slice none 0 0, .string ⟨#[]⟩] 36)).grown HG5.out (blk_own_ne R3.out HO3.out (by decide)))
        have K1 : Hid (Keeps [36] w3 w5) := Lib.hid ((Keeps.alloc w3 (.cells #[.int .i64 2, .int .i64 0, .int .i64 0, .int .i64 x.idx, .int .i64 x.term, .int .i64 x.kind, .slice A4 x.v.length c4, .slice B4 x.l.length d4, .string (text x.b), .int .i64 0, .int .i64 0, .int .i64 0, .slice none 0 0, .slice none 0 0, .string ⟨#[]⟩] 36)).trans (Keeps.grown (HO3.out.alloc (.cells #[.int .i64 2, .int .i64 0, .int .i64 0, .int .i64 x.idx, .int .i64 x.term, .int .i64 x.kind, .slice A4 x.v.length c4, .slice B4 x.l.length d4, .string (text x.b), .int .i64 0, .int .i64 0, .int .i64 0, .slice none 0 0, .slice none 0 0, .string ⟨#[]⟩] 36)) HG5.out (by simp) HG5.out.size))
        have KK : Hid (Keeps [36] wr w5) := Lib.hid ((Keeps.of_below HBB.out (Nat.le_refl _)).trans K1.out)
        have T6 : Hid (ThingsN w5 w.heap.size [3] shRecord (([Rcd.ofVote k.term k.vote, Rcd.ofSnp k.snp] ++ (k.ents.take (j + 1)).map Rcd.ofEnt).map Rcd.da) (xs ++ [.int .i64 2, .int .i64 0, .int .i64 0, .int .i64 x.idx, .int .i64 x.term, .int .i64 x.kind, .slice A4 x.v.length c4, .slice B4 x.l.length d4, .string (text x.b), .int .i64 0, .int .i64 0, .int .i64 0, .slice none 0 0, .slice none 0 0, .string ⟨#[]⟩])) := by
          have g1 := (HR3.out.nw_mono (base' := w.heap.size) l0 fun _ h => h).nw_keeps K1.out (by decide)
          have g2 := (HR4.out.nw_mono (base' := w.heap.size) l0 fun _ h => h).nw_keeps K1.out (by decide)
          rw [HT1.out]
          exact Lib.hid ((HT.out.keeps KK.out (by decide)).snoc (by have := HO.out.1; rw [this, List.length_map, List.length_append, List.length_map, List.length_take, Nat.min_eq_left hj]; rfl) (cels_ent x c4 d4 g1 g2))
        go_wp2
        go_roundw
        case rel => exact ⟨j + 1, A5, c5, _, by omega, by go_num, by rw [Nat.add_assoc], R5, by simpa [Nat.add_assoc] using HO5, T6, B6⟩
        case measure => simp [intOf]; omega
      · obtain rfl : j = k.ents.length := by omega
        rw [List.take_length] at HT
        go_wp2
        go_ret
        refine ⟨A1, c1, by rw [HL.out]; rfl, ?_, own_at0 HO.out, HBw.out⟩
        rw [HE.out]
        exact (rowsAt_ownN HO.out (by rw [← HE.out, List.length_map, HL.out]) HT.out).nw_lt
end Go.Proofs.Ytkdmfjpfanmgmaa
