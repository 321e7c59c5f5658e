/- Joined by mkmerge.py from the proof's texts Fold30. Conditions: each theorem's own hypotheses. -/
import Derived.Test.YtkdmfjpfanmgmaaGreatDoorM19
namespace Go.Proofs.YtkdmfjpfanmgmaaGreatDoor
open Go.RowKit Le
set_option maxRecDepth 100000
set_option linter.unusedSimpArgs false
set_option linter.unusedVariables false
def RecsOwn (w : World) (l : List Rcd) (e : Ending) (w' : World) : Prop :=
  ∃ A c xs, e = .returned (.slice A l.length c) ∧ w'.ownsRow w.heap.size 33 15 (.slice A l.length c) l.length xs ∧ ThingsO w' w.heap.size shRecord (l.map Rcd.da) xs ∧ Below w.heap.size w w'
set_option maxHeartbeats 3200000 in
theorem records_own (k : Kep) (A : Option Addr) (c : Nat) (B : Option Addr) (d : Nat) (E : Option Addr) (n : Nat) (w : World) (h : KepAt w (· < w.heap.size) k A B E) (hs : k.Small) :
    Calls Tryz.prog 35 #[.agg (k.cs A c B d E n).toArray] w (RecsOwn w (recs k)) := by
  obtain ⟨i0, hi0, hz0, hz1, hz2⟩ := info_parts info_record
  unfold Kep.cs
  have P0 := Lib.hid (Blk.new w 38 [.int .i64 k.term, .int .i64 k.vote, .int .i64 k.snp.idx, .int .i64 k.snp.term, .slice A k.snp.v.length c, .slice B k.snp.l.length d, .string (text k.snp.b), .slice E k.ents.length n])
  have HA := Lib.hid h
  have HS := Lib.hid hs
  have hn := hs.n
  clear h hs
  have O1 := Lib.hid (own_new1 (w.alloc (.cells #[.int .i64 k.term, .int .i64 k.vote, .int .i64 k.snp.idx, .int .i64 k.snp.term, .slice A k.snp.v.length c, .slice B k.snp.l.length d, .string (text k.snp.b), .slice E k.ents.length n] 38)) 33 [.int .i64 1, .int .i64 k.term, .int .i64 k.vote, .int .i64 0, .int .i64 0, .int .i64 0, .slice none 0 0, .slice none 0 0, .string ⟨#[]⟩, .int .i64 0, .int .i64 0, .int .i64 0, .slice none 0 0, .slice none 0 0, .string ⟨#[]⟩] w.heap.size (by (first | omega | (simp; done) | (simp; omega))))
  have HT1 : Hid (ThingsO ((w.alloc (.cells #[.int .i64 k.term, .int .i64 k.vote, .int .i64 k.snp.idx, .int .i64 k.snp.term, .slice A k.snp.v.length c, .slice B k.snp.l.length d, .string (text k.snp.b), .slice E k.ents.length n] 38)).alloc (.cells #[.int .i64 1, .int .i64 k.term, .int .i64 k.vote, .int .i64 0, .int .i64 0, .int .i64 0, .slice none 0 0, .slice none 0 0, .string ⟨#[]⟩, .int .i64 0, .int .i64 0, .int .i64 0, .slice none 0 0, .slice none 0 0, .string ⟨#[]⟩] 33)) w.heap.size shRecord ([Rcd.ofVote k.term k.vote].map Rcd.da) [.int .i64 1, .int .i64 k.term, .int .i64 k.vote, .int .i64 0, .int .i64 0, .int .i64 0, .slice none 0 0, .slice none 0 0, .string ⟨#[]⟩, .int .i64 0, .int .i64 0, .int .i64 0, .slice none 0 0, .slice none 0 0, .string ⟨#[]⟩]) := Lib.hid (by have h := ThingsO.snoc (w := (w.alloc (.cells #[.int .i64 k.term, .int .i64 k.vote, .int .i64 k.snp.idx, .int .i64 k.snp.term, .slice A k.snp.v.length c, .slice B k.snp.l.length d, .string (text k.snp.b), .slice E k.ents.length n] 38)).alloc (.cells #[.int .i64 1, .int .i64 k.term, .int .i64 k.vote, .int .i64 0, .int .i64 0, .int .i64 0, .slice none 0 0, .slice none 0 0, .string ⟨#[]⟩, .int .i64 0, .int .i64 0, .int .i64 0, .slice none 0 0, .slice none 0 0, .string ⟨#[]⟩] 33)) (B := w.heap.size) (xs := []) (ds := []) ThingsO.nil (by simp) (cels_vote k.term k.vote); simpa using h)
  by_cases hz : k.snp = .zero
  · have HE : Hid (recs k = [Rcd.ofVote k.term k.vote] ++ k.ents.map Rcd.ofEnt) := Lib.hid (by simp [recs, hz])
    have HL : Hid ((recs k).length = 1 + k.ents.length) := Lib.hid (by rw [HE.out]; simp; omega)
    have HD : Hid (decide (k.snp = .zero) = true) := Lib.hid (decide_eq_true hz)
    clear hz
    go_enter Tryz.func35, Tryz.ntmps35
    go_wp2_with fail
    refine at_below w _ (by repeat (first | with_reducible exact Below.refl _ _ | with_reducible assumption | (with_reducible refine Below.setCell ?_ (by dsimp only; (first | omega | (simp; done) | (simp; omega))) _) | (with_reducible refine Below.alloc ?_ (by (first | omega | (simp; done) | (simp; omega))) _) | with_reducible refine Below.drew ?_)) fun HBx => ?_
    refine (noSnap_any k.snp A c B d _ HS.out.s).mono ?_
    rw [HD.out]
    rintro e w1 ⟨rfl, hb⟩
    have z1 : w.heap.size + 1 + 1 ≤ w1.heap.size := by have := hb.size; simpa using this
    have R0 := Lib.hid ((P0.out.alloc (.cells #[.int .i64 1, .int .i64 k.term, .int .i64 k.vote, .int .i64 0, .int .i64 0, .int .i64 0, .slice none 0 0, .slice none 0 0, .string ⟨#[]⟩, .int .i64 0, .int .i64 0, .int .i64 0, .slice none 0 0, .slice none 0 0, .string ⟨#[]⟩] 33)).below hb (by (first | omega | (simp; done) | (simp; omega))))
    have O2 : Hid (w1.ownsRow w.heap.size 33 15 (.slice (some ⟨w.heap.size + 1, 0, none⟩) 1 1) 1 [.int .i64 1, .int .i64 k.term, .int .i64 k.vote, .int .i64 0, .int .i64 0, .int .i64 0, .slice none 0 0, .slice none 0 0, .string ⟨#[]⟩, .int .i64 0, .int .i64 0, .int .i64 0, .slice none 0 0, .slice none 0 0, .string ⟨#[]⟩]) := Lib.hid (by have h := O1.out.below_ hb; simpa using h)
    have HT2 := Lib.hid (HT1.out.below (hb.mono (by (first | omega | (simp; done) | (simp; omega)))))
    have HBw := Lib.hid (HBx.trans (hb.mono (by (first | omega | (simp; done) | (simp; omega)))))
    clear hb HBx O1 HT1 P0
    have HO : Hid (w1.ownsRow w.heap.size 33 15 (.slice (some ⟨w.heap.size + 1, 0, none⟩) 1 1) 1 [.int .i64 1, .int .i64 k.term, .int .i64 k.vote, .int .i64 0, .int .i64 0, .int .i64 0, .slice none 0 0, .slice none 0 0, .string ⟨#[]⟩, .int .i64 0, .int .i64 0, .int .i64 0, .slice none 0 0, .slice none 0 0, .string ⟨#[]⟩]) := O2
    have HT : Hid (ThingsO w1 w.heap.size shRecord ([Rcd.ofVote k.term k.vote].map Rcd.da) [.int .i64 1, .int .i64 k.term, .int .i64 k.vote, .int .i64 0, .int .i64 0, .int .i64 0, .slice none 0 0, .slice none 0 0, .string ⟨#[]⟩, .int .i64 0, .int .i64 0, .int .i64 0, .slice none 0 0, .slice none 0 0, .string ⟨#[]⟩]) := HT2
    have a7 : w1.cell? ⟨w.heap.size, 7, none⟩ = some (.slice E k.ents.length n) := R0.out.cell 7
    clear O2 HT2 R0 HD
    go_wp2
    go_loopw [3, 25] (fun v i wr => ∃ (j : Nat) (A1 : Option Addr) (c1 : Nat) (xs : List Value), j ≤ k.ents.length ∧ i = .int .i64 j ∧ v = .slice A1 (1 + j) c1 ∧ Hid (wr.ownsRow w.heap.size 33 15 (.slice A1 (1 + j) c1) (1 + j) xs) ∧ Hid (ThingsO wr w.heap.size shRecord (([Rcd.ofVote k.term k.vote] ++ (k.ents.take j).map Rcd.ofEnt).map Rcd.da) xs) ∧ Hid (Below w.heap.size w wr)) (fun _ i _ => k.ents.length - (intOf i).toNat)
    case atStart => exact ⟨0, some ⟨w.heap.size + 1, 0, none⟩, 1, _, Nat.zero_le _, rfl, rfl, HO, HT, HBw⟩
    case round =>
      obtain ⟨j, A1, c1, xs, hj, rfl, rfl, HO, HT, HBw⟩ := hrel
      by_cases hlt : j < k.ents.length
      · have HT1 : Hid (([Rcd.ofVote k.term k.vote] ++ (k.ents.take (j + 1)).map Rcd.ofEnt).map Rcd.da = ([Rcd.ofVote k.term k.vote] ++ (k.ents.take j).map Rcd.ofEnt).map Rcd.da ++ [(Rcd.ofEnt (k.ents[j])).da]) := Lib.hid (by rw [List.take_succ_eq_append_getElem hlt]; simp only [List.map_append, List.append_assoc, List.map_cons, List.map_nil])
        obtain ⟨ad, A3, c3, B3, d3, rfl, _, e1, e2, hcell⟩ := ents_at (HA.out.e.below HBw.out) hlt
        generalize k.ents[j] = x at *
        have HC3 := Lib.hid e1
        have HC4 := Lib.hid e2
        unfold Ent.cs at hcell
        have hc0 : wr.cell? (ad.add (j * 6)) = some (.int .i64 x.idx) := hcell 0 _ rfl
        have hc1 : wr.cell? ⟨(ad.add (j * 6)).block, (ad.add (j * 6)).off + 1, none⟩ = some (.int .i64 x.term) := by rw [← add_field ad (j * 6) 1 (by decide)]; exact hcell 1 _ rfl
        have hc2 : wr.cell? ⟨(ad.add (j * 6)).block, (ad.add (j * 6)).off + 2, none⟩ = some (.int .i64 x.kind) := by rw [← add_field ad (j * 6) 2 (by decide)]; exact hcell 2 _ rfl
        have hc3 : wr.cell? ⟨(ad.add (j * 6)).block, (ad.add (j * 6)).off + 3, none⟩ = some (.slice A3 x.v.length c3) := by rw [← add_field ad (j * 6) 3 (by decide)]; exact hcell 3 _ rfl
        have hc4 : wr.cell? ⟨(ad.add (j * 6)).block, (ad.add (j * 6)).off + 4, none⟩ = some (.slice B3 x.l.length d3) := by rw [← add_field ad (j * 6) 4 (by decide)]; exact hcell 4 _ rfl
        have hc5 : wr.cell? ⟨(ad.add (j * 6)).block, (ad.add (j * 6)).off + 5, none⟩ = some (.string (text x.b)) := by rw [← add_field ad (j * 6) 5 (by decide)]; exact hcell 5 _ rfl
        clear hcell e1 e2
        have l0 := HBw.out.size
        go_wp2_with (at_builtin; refine wpList_appN rfl _ _ _ rfl w.heap.size 33 i0 _ 15 200 Tryz.underlying93 hi0 hz0 hz1 hz2 rfl (by decide) (.slice A1 (1 + j) c1) (1 + j) xs rfl ((HO.out.alloc _).alloc _) ⟨wr.heap.size + 1, 0, none⟩ 1 [.int .i64 2, .int .i64 0, .int .i64 0, .int .i64 x.idx, .int .i64 x.term, .int .i64 x.kind, .slice A3 x.v.length c3, .slice B3 x.l.length d3, .string (text x.b), .int .i64 0, .int .i64 0, .int .i64 0, .slice none 0 0, .slice none 0 0, .string ⟨#[]⟩] rfl rfl (by have h := Blk.news (Blk.new (wr.alloc (.cells #[.int .i64 x.idx, .int .i64 x.term, .int .i64 x.kind, .slice A3 x.v.length c3, .slice B3 x.l.length d3, .string (text x.b)] 29)) 33 [.int .i64 2, .int .i64 0, .int .i64 0, .int .i64 x.idx, .int .i64 x.term, .int .i64 x.kind, .slice A3 x.v.length c3, .slice B3 x.l.length d3, .string (text x.b), .int .i64 0, .int .i64 0, .int .i64 0, .slice none 0 0, .slice none 0 0, .string ⟨#[]⟩]); simpa using h) (by simp [Value.oneCell']) (by unfold maxLen; omega) (by omega) (by (first | omega | (simp; done) | (simp; omega))) ?_; intro A5 c5 w5 HO5 HG5)
        have B6 := Lib.hid ((((HBw.out.alloc (by omega) (.cells #[.int .i64 x.idx, .int .i64 x.term, .int .i64 x.kind, .slice A3 x.v.length c3, .slice B3 x.l.length d3, .string (text x.b)] 29)).alloc (by simp; omega) (.cells #[.int .i64 2, .int .i64 0, .int .i64 0, .int .i64 x.idx, .int .i64 x.term, .int .i64 x.kind, .slice A3 x.v.length c3, .slice B3 x.l.length d3, .string (text x.b), .int .i64 0, .int .i64 0, .int .i64 0, .slice none 0 0, .slice none 0 0, .string ⟨#[]⟩] 33)).grown HG5.out (by simp; omega) (own_block_ge HO.out)))
        have T6 : Hid (ThingsO w5 w.heap.size shRecord (([Rcd.ofVote k.term k.vote] ++ (k.ents.take (j + 1)).map Rcd.ofEnt).map Rcd.da) (xs ++ [.int .i64 2, .int .i64 0, .int .i64 0, .int .i64 x.idx, .int .i64 x.term, .int .i64 x.kind, .slice A3 x.v.length c3, .slice B3 x.l.length d3, .string (text x.b), .int .i64 0, .int .i64 0, .int .i64 0, .slice none 0 0, .slice none 0 0, .string ⟨#[]⟩])) := by
          have hb : Below w.heap.size wr w5 := ((((Below.refl w.heap.size wr).alloc (by omega) (.cells #[.int .i64 x.idx, .int .i64 x.term, .int .i64 x.kind, .slice A3 x.v.length c3, .slice B3 x.l.length d3, .string (text x.b)] 29)).alloc (by simp; omega) (.cells #[.int .i64 2, .int .i64 0, .int .i64 0, .int .i64 x.idx, .int .i64 x.term, .int .i64 x.kind, .slice A3 x.v.length c3, .slice B3 x.l.length d3, .string (text x.b), .int .i64 0, .int .i64 0, .int .i64 0, .slice none 0 0, .slice none 0 0, .string ⟨#[]⟩] 33)).grown HG5.out (by simp; omega) (own_block_ge HO.out))
          rw [HT1.out]
          exact Lib.hid ((HT.out.below hb).snoc (by have := HO.out.1; rw [this, List.length_map, List.length_append, List.length_map, List.length_take, Nat.min_eq_left hj]; rfl) (cels_ent x c3 d3 (HC3.out.below hb) (HC4.out.below hb)))
        clear hc0 hc1 hc2 hc3 hc4 hc5
        go_wp2
        go_roundw
        case rel => exact ⟨j + 1, A5, c5, _, by omega, by go_num, by rw [Nat.add_assoc], by simpa [Nat.add_assoc] using HO5, T6, B6⟩
        case measure => simp [intOf]; omega
      · obtain rfl : j = k.ents.length := by omega
        rw [List.take_length] at HT
        go_wp2
        go_ret
        refine ⟨A1, c1, xs, by rw [HL.out]; rfl, by rw [HL.out]; exact HO.out, by rw [HE.out]; exact HT.out, HBw.out⟩
  · have HE : Hid (recs k = [Rcd.ofVote k.term k.vote, Rcd.ofSnp k.snp] ++ k.ents.map Rcd.ofEnt) := Lib.hid (by simp [recs, hz])
    have HL : Hid ((recs k).length = 2 + k.ents.length) := Lib.hid (by rw [HE.out]; simp; omega)
    have HD : Hid (decide (k.snp = .zero) = false) := Lib.hid (decide_eq_false hz)
    clear hz
    go_enter Tryz.func35, Tryz.ntmps35
    go_wp2_with fail
    refine at_below w _ (by repeat (first | with_reducible exact Below.refl _ _ | with_reducible assumption | (with_reducible refine Below.setCell ?_ (by dsimp only; (first | omega | (simp; done) | (simp; omega))) _) | (with_reducible refine Below.alloc ?_ (by (first | omega | (simp; done) | (simp; omega))) _) | with_reducible refine Below.drew ?_)) fun HBx => ?_
    refine (noSnap_any k.snp A c B d _ HS.out.s).mono ?_
    rw [HD.out]
    rintro e w1 ⟨rfl, hb⟩
    have z1 : w.heap.size + 1 + 1 ≤ w1.heap.size := by have := hb.size; simpa using this
    have R0 := Lib.hid ((P0.out.alloc (.cells #[.int .i64 1, .int .i64 k.term, .int .i64 k.vote, .int .i64 0, .int .i64 0, .int .i64 0, .slice none 0 0, .slice none 0 0, .string ⟨#[]⟩, .int .i64 0, .int .i64 0, .int .i64 0, .slice none 0 0, .slice none 0 0, .string ⟨#[]⟩] 33)).below hb (by (first | omega | (simp; done) | (simp; omega))))
    have O2 : Hid (w1.ownsRow w.heap.size 33 15 (.slice (some ⟨w.heap.size + 1, 0, none⟩) 1 1) 1 [.int .i64 1, .int .i64 k.term, .int .i64 k.vote, .int .i64 0, .int .i64 0, .int .i64 0, .slice none 0 0, .slice none 0 0, .string ⟨#[]⟩, .int .i64 0, .int .i64 0, .int .i64 0, .slice none 0 0, .slice none 0 0, .string ⟨#[]⟩]) := Lib.hid (by have h := O1.out.below_ hb; simpa using h)
    have HT2 := Lib.hid (HT1.out.below (hb.mono (by (first | omega | (simp; done) | (simp; omega)))))
    have HBw := Lib.hid (HBx.trans (hb.mono (by (first | omega | (simp; done) | (simp; omega)))))
    clear hb HBx O1 HT1 P0
    have a2 : w1.cell? ⟨w.heap.size, 2, none⟩ = some (.int .i64 k.snp.idx) := R0.out.cell 2
    have a3 : w1.cell? ⟨w.heap.size, 3, none⟩ = some (.int .i64 k.snp.term) := R0.out.cell 3
    have a4 : w1.cell? ⟨w.heap.size, 4, none⟩ = some (.slice A k.snp.v.length c) := R0.out.cell 4
    have a5 : w1.cell? ⟨w.heap.size, 5, none⟩ = some (.slice B k.snp.l.length d) := R0.out.cell 5
    have a6 : w1.cell? ⟨w.heap.size, 6, none⟩ = some (.string (text k.snp.b)) := R0.out.cell 6
    have a7 : w1.cell? ⟨w.heap.size, 7, none⟩ = some (.slice E k.ents.length n) := R0.out.cell 7
    go_wp2_with (first
      | (at_builtin
         refine wpList_appN (o := ⟨some 21, _, _, _, _, _⟩) rfl _ _ _ rfl w.heap.size 33 i0 _ 15 200 Tryz.underlying93 hi0 hz0 hz1 hz2 rfl (by decide) (.slice (some ⟨w.heap.size + 1, 0, none⟩) 1 1) 1 [.int .i64 1, .int .i64 k.term, .int .i64 k.vote, .int .i64 0, .int .i64 0, .int .i64 0, .slice none 0 0, .slice none 0 0, .string ⟨#[]⟩, .int .i64 0, .int .i64 0, .int .i64 0, .slice none 0 0, .slice none 0 0, .string ⟨#[]⟩] rfl (O2.out.alloc _) ⟨w1.heap.size, 0, none⟩ 1 [.int .i64 4, .int .i64 0, .int .i64 0, .int .i64 0, .int .i64 0, .int .i64 0, .slice none 0 0, .slice none 0 0, .string ⟨#[]⟩, .int .i64 0, .int .i64 k.snp.idx, .int .i64 k.snp.term, .slice A k.snp.v.length c, .slice B k.snp.l.length d, .string (text k.snp.b)] rfl rfl ?_ ?_ ?_ ?_ ?_ ?_
         · exact Blk.news (Blk.new w1 33 [.int .i64 4, .int .i64 0, .int .i64 0, .int .i64 0, .int .i64 0, .int .i64 0, .slice none 0 0, .slice none 0 0, .string ⟨#[]⟩, .int .i64 0, .int .i64 k.snp.idx, .int .i64 k.snp.term, .slice A k.snp.v.length c, .slice B k.snp.l.length d, .string (text k.snp.b)])
         · simp [Value.oneCell']
         · unfold maxLen; omega
         · omega
         · simp; omega
         intro A5 c5 w5 HO HG5
         have HBw : Hid (Below w.heap.size w w5) := Lib.hid ((HBw.out.alloc (by omega) (.cells #[.int .i64 4, .int .i64 0, .int .i64 0, .int .i64 0, .int .i64 0, .int .i64 0, .slice none 0 0, .slice none 0 0, .string ⟨#[]⟩, .int .i64 0, .int .i64 k.snp.idx, .int .i64 k.snp.term, .slice A k.snp.v.length c, .slice B k.snp.l.length d, .string (text k.snp.b)] 33)).grown HG5.out (by simp; omega) (own_block_ge O2.out))
         have hbx : Below w.heap.size w1 w5 := ((Below.refl w.heap.size w1).alloc (by omega) (.cells #[.int .i64 4, .int .i64 0, .int .i64 0, .int .i64 0, .int .i64 0, .int .i64 0, .slice none 0 0, .slice none 0 0, .string ⟨#[]⟩, .int .i64 0, .int .i64 k.snp.idx, .int .i64 k.snp.term, .slice A k.snp.v.length c, .slice B k.snp.l.length d, .string (text k.snp.b)] 33)).grown HG5.out (by simp; omega) (own_block_ge O2.out)
         have R5 := Lib.hid ((R0.out.alloc (.cells #[.int .i64 4, .int .i64 0, .int .i64 0, .int .i64 0, .int .i64 0, .int .i64 0, .slice none 0 0, .slice none 0 0, .string ⟨#[]⟩, .int .i64 0, .int .i64 k.snp.idx, .int .i64 k.snp.term, .slice A k.snp.v.length c, .slice B k.snp.l.length d, .string (text k.snp.b)] 33)).grown HG5.out (blk_own_ne R0.out O2.out (by decide)))
         have HT : Hid (ThingsO w5 w.heap.size shRecord ([Rcd.ofVote k.term k.vote, Rcd.ofSnp k.snp].map Rcd.da) ([.int .i64 1, .int .i64 k.term, .int .i64 k.vote, .int .i64 0, .int .i64 0, .int .i64 0, .slice none 0 0, .slice none 0 0, .string ⟨#[]⟩, .int .i64 0, .int .i64 0, .int .i64 0, .slice none 0 0, .slice none 0 0, .string ⟨#[]⟩] ++ [.int .i64 4, .int .i64 0, .int .i64 0, .int .i64 0, .int .i64 0, .int .i64 0, .slice none 0 0, .slice none 0 0, .string ⟨#[]⟩, .int .i64 0, .int .i64 k.snp.idx, .int .i64 k.snp.term, .slice A k.snp.v.length c, .slice B k.snp.l.length d, .string (text k.snp.b)])) := Lib.hid ((HT2.out.below hbx).snoc (by simp [shRecord]) (cels_snap k.snp c d (HA.out.v.below HBw.out) (HA.out.l.below HBw.out)))
         have b7 : w5.cell? ⟨w.heap.size, 7, none⟩ = some (.slice E k.ents.length n) := R5.out.cell 7))
    clear O2 HT2 R0 HD a2 a3 a4 a5 a6 a7 R5 hbx HG5
    go_wp2
    go_loopw [3, 25] (fun v i wr => ∃ (j : Nat) (A1 : Option Addr) (c1 : Nat) (xs : List Value), j ≤ k.ents.length ∧ i = .int .i64 j ∧ v = .slice A1 (2 + j) c1 ∧ Hid (wr.ownsRow w.heap.size 33 15 (.slice A1 (2 + j) c1) (2 + j) xs) ∧ Hid (ThingsO wr w.heap.size shRecord (([Rcd.ofVote k.term k.vote, Rcd.ofSnp k.snp] ++ (k.ents.take j).map Rcd.ofEnt).map Rcd.da) xs) ∧ Hid (Below w.heap.size w wr)) (fun _ i _ => k.ents.length - (intOf i).toNat)
    case atStart => exact ⟨0, A5, c5, _, Nat.zero_le _, rfl, rfl, HO, HT, HBw⟩
    case round =>
      obtain ⟨j, A1, c1, xs, hj, rfl, rfl, HO, HT, HBw⟩ := hrel
      by_cases hlt : j < k.ents.length
      · have HT1 : Hid (([Rcd.ofVote k.term k.vote, Rcd.ofSnp k.snp] ++ (k.ents.take (j + 1)).map Rcd.ofEnt).map Rcd.da = ([Rcd.ofVote k.term k.vote, Rcd.ofSnp k.snp] ++ (k.ents.take j).map Rcd.ofEnt).map Rcd.da ++ [(Rcd.ofEnt (k.ents[j])).da]) := Lib.hid (by rw [List.take_succ_eq_append_getElem hlt]; simp only [List.map_append, List.append_assoc, List.map_cons, List.map_nil])
        obtain ⟨ad, A3, c3, B3, d3, rfl, _, e1, e2, hcell⟩ := ents_at (HA.out.e.below HBw.out) hlt
        generalize k.ents[j] = x at *
        have HC3 := Lib.hid e1
        have HC4 := Lib.hid e2
        unfold Ent.cs at hcell
        have hc0 : wr.cell? (ad.add (j * 6)) = some (.int .i64 x.idx) := hcell 0 _ rfl
        have hc1 : wr.cell? ⟨(ad.add (j * 6)).block, (ad.add (j * 6)).off + 1, none⟩ = some (.int .i64 x.term) := by rw [← add_field ad (j * 6) 1 (by decide)]; exact hcell 1 _ rfl
        have hc2 : wr.cell? ⟨(ad.add (j * 6)).block, (ad.add (j * 6)).off + 2, none⟩ = some (.int .i64 x.kind) := by rw [← add_field ad (j * 6) 2 (by decide)]; exact hcell 2 _ rfl
        have hc3 : wr.cell? ⟨(ad.add (j * 6)).block, (ad.add (j * 6)).off + 3, none⟩ = some (.slice A3 x.v.length c3) := by rw [← add_field ad (j * 6) 3 (by decide)]; exact hcell 3 _ rfl
        have hc4 : wr.cell? ⟨(ad.add (j * 6)).block, (ad.add (j * 6)).off + 4, none⟩ = some (.slice B3 x.l.length d3) := by rw [← add_field ad (j * 6) 4 (by decide)]; exact hcell 4 _ rfl
        have hc5 : wr.cell? ⟨(ad.add (j * 6)).block, (ad.add (j * 6)).off + 5, none⟩ = some (.string (text x.b)) := by rw [← add_field ad (j * 6) 5 (by decide)]; exact hcell 5 _ rfl
        clear hcell e1 e2
        have l0 := HBw.out.size
        go_wp2_with (at_builtin; refine wpList_appN rfl _ _ _ rfl w.heap.size 33 i0 _ 15 200 Tryz.underlying93 hi0 hz0 hz1 hz2 rfl (by decide) (.slice A1 (2 + j) c1) (2 + j) xs rfl ((HO.out.alloc _).alloc _) ⟨wr.heap.size + 1, 0, none⟩ 1 [.int .i64 2, .int .i64 0, .int .i64 0, .int .i64 x.idx, .int .i64 x.term, .int .i64 x.kind, .slice A3 x.v.length c3, .slice B3 x.l.length d3, .string (text x.b), .int .i64 0, .int .i64 0, .int .i64 0, .slice none 0 0, .slice none 0 0, .string ⟨#[]⟩] rfl rfl (by have h := Blk.news (Blk.new (wr.alloc (.cells #[.int .i64 x.idx, .int .i64 x.term, .int .i64 x.kind, .slice A3 x.v.length c3, .slice B3 x.l.length d3, .string (text x.b)] 29)) 33 [.int .i64 2, .int .i64 0, .int .i64 0, .int .i64 x.idx, .int .i64 x.term, .int .i64 x.kind, .slice A3 x.v.length c3, .slice B3 x.l.length d3, .string (text x.b), .int .i64 0, .int .i64 0, .int .i64 0, .slice none 0 0, .slice none 0 0, .string ⟨#[]⟩]); simpa using h) (by simp [Value.oneCell']) (by unfold maxLen; omega) (by omega) (by (first | omega | (simp; done) | (simp; omega))) ?_; intro A5 c5 w5 HO5 HG5)
        have B6 := Lib.hid ((((HBw.out.alloc (by omega) (.cells #[.int .i64 x.idx, .int .i64 x.term, .int .i64 x.kind, .slice A3 x.v.length c3, .slice B3 x.l.length d3, .string (text x.b)] 29)).alloc (by simp; omega) (.cells #[.int .i64 2, .int .i64 0, .int .i64 0, .int .i64 x.idx, .int .i64 x.term, .int .i64 x.kind, .slice A3 x.v.length c3, .slice B3 x.l.length d3, .string (text x.b), .int .i64 0, .int .i64 0, .int .i64 0, .slice none 0 0, .slice none 0 0, .string ⟨#[]⟩] 33)).grown HG5.out (by simp; omega) (own_block_ge HO.out)))
        have T6 : Hid (ThingsO w5 w.heap.size shRecord (([Rcd.ofVote k.term k.vote, Rcd.ofSnp k.snp] ++ (k.ents.take (j + 1)).map Rcd.ofEnt).map Rcd.da) (xs ++ [.int .i64 2, .int .i64 0, .int .i64 0, .int .i64 x.idx, .int .i64 x.term, .int .i64 x.kind, .slice A3 x.v.length c3, .slice B3 x.l.length d3, .string (text x.b), .int .i64 0, .int .i64 0, .int .i64 0, .slice none 0 0, .slice none 0 0, .string ⟨#[]⟩])) := by
          have hb : Below w.heap.size wr w5 := ((((Below.refl w.heap.size wr).alloc (by omega) (.cells #[.int .i64 x.idx, .int .i64 x.term, .int .i64 x.kind, .slice A3 x.v.length c3, .slice B3 x.l.length d3, .string (text x.b)] 29)).alloc (by simp; omega) (.cells #[.int .i64 2, .int .i64 0, .int .i64 0, .int .i64 x.idx, .int .i64 x.term, .int .i64 x.kind, .slice A3 x.v.length c3, .slice B3 x.l.length d3, .string (text x.b), .int .i64 0, .int .i64 0, .int .i64 0, .slice none 0 0, .slice none 0 0, .string ⟨#[]⟩] 33)).grown HG5.out (by simp; omega) (own_block_ge HO.out))
          rw [HT1.out]
          exact Lib.hid ((HT.out.below hb).snoc (by have := HO.out.1; rw [this, List.length_map, List.length_append, List.length_map, List.length_take, Nat.min_eq_left hj]; rfl) (cels_ent x c3 d3 (HC3.out.below hb) (HC4.out.below hb)))
        clear hc0 hc1 hc2 hc3 hc4 hc5
        go_wp2
        go_roundw
        case rel => exact ⟨j + 1, A5, c5, _, by omega, by go_num, by rw [Nat.add_assoc], by simpa [Nat.add_assoc] using HO5, T6, B6⟩
        case measure => simp [intOf]; omega
      · obtain rfl : j = k.ents.length := by omega
        rw [List.take_length] at HT
        go_wp2
        go_ret
        refine ⟨A1, c1, xs, by rw [HL.out]; rfl, by rw [HL.out]; exact HO.out, by rw [HE.out]; exact HT.out, HBw.out⟩
end Go.Proofs.YtkdmfjpfanmgmaaGreatDoor
