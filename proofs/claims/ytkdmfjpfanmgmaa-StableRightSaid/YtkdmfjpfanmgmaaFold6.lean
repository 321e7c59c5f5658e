/- The walk of the reference's Own. -/
import Derived.Test.YtkdmfjpfanmgmaaFold5
namespace Go.Proofs.Ytkdmfjpfanmgmaa
open Go.RowKit Le
set_option maxRecDepth 100000
set_option linter.unusedSimpArgs false
set_option linter.unusedVariables false

theorem kS {w : World} {b : Nat} {t : TypeId} {c0 c1 c2 c3 c4 c5 c6 c7 : Value} (h : Blk w b t [c0, c1, c2, c3, c4, c5, c6, c7]) : w.cell? ⟨b, 0, none⟩ = some c0 ∧ w.cell? ⟨b, 1, none⟩ = some c1 ∧ w.cell? ⟨b, 2, none⟩ = some c2 ∧ w.cell? ⟨b, 3, none⟩ = some c3 ∧ w.cell? ⟨b, 4, none⟩ = some c4 ∧ w.cell? ⟨b, 5, none⟩ = some c5 ∧ w.cell? ⟨b, 6, none⟩ = some c6 :=
  ⟨h.cell 0, h.cell 1, h.cell 2, h.cell 3, h.cell 4, h.cell 5, h.cell 6⟩

theorem rSnap_lit (x : Snp) (A : Option Addr) (c : Nat) (B : Option Addr) (d : Nat) (w : World) (h1 : RowsAt w (· < w.heap.size) [.num] (nums x.v) A) (h2 : RowsAt w (· < w.heap.size) [.num] (nums x.l) B) (hl1 : x.v.length ≤ 1099511627776) (hl2 : x.l.length ≤ 1099511627776) :
    Calls Try.prog 12 #[.agg #[.int .i64 x.idx, .int .i64 x.term, .slice A x.v.length c, .slice B x.l.length d, .string (text x.b)]] w (SnpEnd w x) := rSnap_any x A c B d w h1 h2 hl1 hl2
set_option maxHeartbeats 1600000 in
theorem rOwn_any (k : Kep) (A : Option Addr) (c : Nat) (B : Option Addr) (d : Nat) (E : Option Addr) (n : Nat) (w : World) (h : KepAt w (· < w.heap.size) k A B E) (hs : k.Small) :
    Calls Try.prog 6 #[.agg (k.cs A c B d E n).toArray] w (KepEnd w k) := by
  obtain ⟨i0, hi0, hz0, hz1, hz2⟩ := info_parts info_entry
  unfold Kep.cs
  have P := blk2 w 30 30 [.int .i64 k.term, .int .i64 k.vote, .int .i64 k.snp.idx, .int .i64 k.snp.term, .slice A k.snp.v.length c, .slice B k.snp.l.length d, .string (text k.snp.b), .slice E k.ents.length n] [.int .i64 0, .int .i64 0, .int .i64 0, .int .i64 0, .slice none 0 0, .slice none 0 0, .string ⟨#[]⟩, .slice none 0 0]
  have P2 : Hid (Blk (((w.alloc (.cells #[.int .i64 k.term, .int .i64 k.vote, .int .i64 k.snp.idx, .int .i64 k.snp.term, .slice A k.snp.v.length c, .slice B k.snp.l.length d, .string (text k.snp.b), .slice E k.ents.length n] 30)).alloc (.cells #[.int .i64 0, .int .i64 0, .int .i64 0, .int .i64 0, .slice none 0 0, .slice none 0 0, .string ⟨#[]⟩, .slice none 0 0] 30)).alloc (.cells #[.int .i64 0, .int .i64 0, .int .i64 0, .int .i64 0, .slice none 0 0, .slice none 0 0, .string ⟨#[]⟩, .slice none 0 0] 30)) (w.heap.size + 1 + 1) 30 [.int .i64 0, .int .i64 0, .int .i64 0, .int .i64 0, .slice none 0 0, .slice none 0 0, .string ⟨#[]⟩, .slice none 0 0]) := Lib.hid (by have h := Blk.new ((w.alloc (.cells #[.int .i64 k.term, .int .i64 k.vote, .int .i64 k.snp.idx, .int .i64 k.snp.term, .slice A k.snp.v.length c, .slice B k.snp.l.length d, .string (text k.snp.b), .slice E k.ents.length n] 30)).alloc (.cells #[.int .i64 0, .int .i64 0, .int .i64 0, .int .i64 0, .slice none 0 0, .slice none 0 0, .string ⟨#[]⟩, .slice none 0 0] 30)) 30 [.int .i64 0, .int .i64 0, .int .i64 0, .int .i64 0, .slice none 0 0, .slice none 0 0, .string ⟨#[]⟩, .slice none 0 0]; simpa using h)
  have P0 := Lib.hid P.1
  have P1 := Lib.hid P.2
  have HA := Lib.hid h
  have HS := Lib.hid hs
  have hn := hs.n
  clear P h hs
  go_enter Try.func6, Try.ntmps6
  go_wp2_with fail
  go_region_held3 (fun w' => w'.cell? ⟨w.heap.size, 0, none⟩ = some (.int .i64 k.term) ∧ w'.cell? ⟨w.heap.size, 1, none⟩ = some (.int .i64 k.vote) ∧ w'.cell? ⟨w.heap.size, 2, none⟩ = some (.int .i64 k.snp.idx) ∧ w'.cell? ⟨w.heap.size, 3, none⟩ = some (.int .i64 k.snp.term) ∧ w'.cell? ⟨w.heap.size, 4, none⟩ = some (.slice A k.snp.v.length c) ∧ w'.cell? ⟨w.heap.size, 5, none⟩ = some (.slice B k.snp.l.length d) ∧ w'.cell? ⟨w.heap.size, 6, none⟩ = some (.string (text k.snp.b)))
    (first
      | (refine kS (t := 30) (c7 := .slice E k.ents.length n) ?_; repeat (first | with_reducible exact R0.out | with_reducible exact P0.out | (with_reducible refine Blk.far ?_ (by dsimp only; (first | omega | (simp; done) | (simp; omega))) _) | with_reducible refine Blk.alloc ?_ _ | with_reducible refine Blk.drew ?_)))
    (first
      | (go_at_call 12
         (with_reducible refine (rSnap_lit k.snp A c B d (((w.alloc (.cells #[.int .i64 k.term, .int .i64 k.vote, .int .i64 k.snp.idx, .int .i64 k.snp.term, .slice A k.snp.v.length c, .slice B k.snp.l.length d, .string (text k.snp.b), .slice E k.ents.length n] 30)).alloc (.cells #[.int .i64 0, .int .i64 0, .int .i64 0, .int .i64 0, .slice none 0 0, .slice none 0 0, .string ⟨#[]⟩, .slice none 0 0] 30)).alloc (.cells #[.int .i64 0, .int .i64 0, .int .i64 0, .int .i64 0, .slice none 0 0, .slice none 0 0, .string ⟨#[]⟩, .slice none 0 0] 30)).drew ?_ ?_ (by have := HS.out.s.v; omega) (by have := HS.out.s.l; omega)).mono ?_)
         · exact (HA.out.v.below (by repeat (first | with_reducible exact Below.refl _ _ | with_reducible assumption | (with_reducible refine Below.setCell ?_ (by dsimp only; (first | omega | (simp; done) | (simp; omega))) _) | (with_reducible refine Below.alloc ?_ (by (first | omega | (simp; done) | (simp; omega))) _) | with_reducible refine Below.drew ?_))).more (by (first | omega | (simp; done) | (simp; omega)))
         · exact (HA.out.l.below (by repeat (first | with_reducible exact Below.refl _ _ | with_reducible assumption | (with_reducible refine Below.setCell ?_ (by dsimp only; (first | omega | (simp; done) | (simp; omega))) _) | (with_reducible refine Below.alloc ?_ (by (first | omega | (simp; done) | (simp; omega))) _) | with_reducible refine Below.drew ?_))).more (by (first | omega | (simp; done) | (simp; omega)))
         rintro e w1 ⟨A1, c1, B1, d1, rfl, hr1, hr2, hb⟩
         unfold Snp.cs
         have z1 : w.heap.size + 2 ≤ w1.heap.size := by have := hb.size; simp at this; omega
         have R0 : Hid (Blk w1 w.heap.size 30 [.int .i64 k.term, .int .i64 k.vote, .int .i64 k.snp.idx, .int .i64 k.snp.term, .slice A k.snp.v.length c, .slice B k.snp.l.length d, .string (text k.snp.b), .slice E k.ents.length n]) := Lib.hid (Blk.below (by repeat (first | with_reducible exact P0.out | (with_reducible refine Blk.far ?_ (by dsimp only; (first | omega | (simp; done) | (simp; omega))) _) | with_reducible refine Blk.alloc ?_ _ | with_reducible refine Blk.drew ?_)) hb (by (first | omega | (simp; done) | (simp; omega))))
         have R1 : Hid (Blk w1 (w.heap.size + 1) 30 [.int .i64 0, .int .i64 0, .int .i64 0, .int .i64 0, .slice none 0 0, .slice none 0 0, .string ⟨#[]⟩, .slice none 0 0]) := Lib.hid (Blk.below (by repeat (first | with_reducible exact P1.out | (with_reducible refine Blk.far ?_ (by dsimp only; (first | omega | (simp; done) | (simp; omega))) _) | with_reducible refine Blk.alloc ?_ _ | with_reducible refine Blk.drew ?_)) hb (by (first | omega | (simp; done) | (simp; omega))))
         have HB1 : Hid (Below w.heap.size w w1) := Lib.hid (Below.trans (by repeat (first | with_reducible exact Below.refl _ _ | with_reducible assumption | (with_reducible refine Below.setCell ?_ (by dsimp only; (first | omega | (simp; done) | (simp; omega))) _) | (with_reducible refine Below.alloc ?_ (by (first | omega | (simp; done) | (simp; omega))) _) | with_reducible refine Below.drew ?_)) (hb.mono (by (first | omega | (simp; done) | (simp; omega)))))
         have r1 := Lib.hid (hr1.nw_mono (base' := w.heap.size) (by (first | omega | (simp; done) | (simp; omega))) fun _ h => h)
         have r2 := Lib.hid (hr2.nw_mono (base' := w.heap.size) (by (first | omega | (simp; done) | (simp; omega))) fun _ h => h)
         have R2 : Hid (Blk w1 (w.heap.size + 1 + 1) 30 [.int .i64 0, .int .i64 0, .int .i64 0, .int .i64 0, .slice none 0 0, .slice none 0 0, .string ⟨#[]⟩, .slice none 0 0]) := Lib.hid (Blk.below (by repeat (first | with_reducible exact P2.out | (with_reducible refine Blk.far ?_ (by dsimp only; (first | omega | (simp; done) | (simp; omega))) _) | with_reducible refine Blk.alloc ?_ _ | with_reducible refine Blk.drew ?_)) hb (by (first | omega | (simp; done) | (simp; omega))))
         have x0 : w1.cell? ⟨w.heap.size + 1 + 1, 0, none⟩ = some (.int .i64 0) := R2.out.cell 0
         have y0 : w1.frozen? ⟨w.heap.size + 1 + 1, 0, none⟩ = false := R2.out.frozen 0
         have x1 : w1.cell? ⟨w.heap.size + 1 + 1, 1, none⟩ = some (.int .i64 0) := R2.out.cell 1
         have y1 : w1.frozen? ⟨w.heap.size + 1 + 1, 1, none⟩ = false := R2.out.frozen 1
         have x2 : w1.cell? ⟨w.heap.size + 1 + 1, 2, none⟩ = some (.int .i64 0) := R2.out.cell 2
         have y2 : w1.frozen? ⟨w.heap.size + 1 + 1, 2, none⟩ = false := R2.out.frozen 2
         have x3 : w1.cell? ⟨w.heap.size + 1 + 1, 3, none⟩ = some (.int .i64 0) := R2.out.cell 3
         have y3 : w1.frozen? ⟨w.heap.size + 1 + 1, 3, none⟩ = false := R2.out.frozen 3
         have x4 : w1.cell? ⟨w.heap.size + 1 + 1, 4, none⟩ = some (.slice none 0 0) := R2.out.cell 4
         have y4 : w1.frozen? ⟨w.heap.size + 1 + 1, 4, none⟩ = false := R2.out.frozen 4
         have x5 : w1.cell? ⟨w.heap.size + 1 + 1, 5, none⟩ = some (.slice none 0 0) := R2.out.cell 5
         have y5 : w1.frozen? ⟨w.heap.size + 1 + 1, 5, none⟩ = false := R2.out.frozen 5
         have x6 : w1.cell? ⟨w.heap.size + 1 + 1, 6, none⟩ = some (.string ⟨#[]⟩) := R2.out.cell 6
         have y6 : w1.frozen? ⟨w.heap.size + 1 + 1, 6, none⟩ = false := R2.out.frozen 6
         have x7 : w1.cell? ⟨w.heap.size + 1 + 1, 7, none⟩ = some (.slice none 0 0) := R2.out.cell 7
         have y7 : w1.frozen? ⟨w.heap.size + 1 + 1, 7, none⟩ = false := R2.out.frozen 7
         clear hr1 hr2 hb)
      | (go_at_call 12
         (with_reducible refine (rSnap_lit k.snp A c B d ((w.alloc (.cells #[.int .i64 k.term, .int .i64 k.vote, .int .i64 k.snp.idx, .int .i64 k.snp.term, .slice A k.snp.v.length c, .slice B k.snp.l.length d, .string (text k.snp.b), .slice E k.ents.length n] 30)).alloc (.cells #[.int .i64 0, .int .i64 0, .int .i64 0, .int .i64 0, .slice none 0 0, .slice none 0 0, .string ⟨#[]⟩, .slice none 0 0] 30)).drew ?_ ?_ (by have := HS.out.s.v; omega) (by have := HS.out.s.l; omega)).mono ?_)
         · exact (HA.out.v.below (by repeat (first | with_reducible exact Below.refl _ _ | with_reducible assumption | (with_reducible refine Below.setCell ?_ (by dsimp only; (first | omega | (simp; done) | (simp; omega))) _) | (with_reducible refine Below.alloc ?_ (by (first | omega | (simp; done) | (simp; omega))) _) | with_reducible refine Below.drew ?_))).more (by (first | omega | (simp; done) | (simp; omega)))
         · exact (HA.out.l.below (by repeat (first | with_reducible exact Below.refl _ _ | with_reducible assumption | (with_reducible refine Below.setCell ?_ (by dsimp only; (first | omega | (simp; done) | (simp; omega))) _) | (with_reducible refine Below.alloc ?_ (by (first | omega | (simp; done) | (simp; omega))) _) | with_reducible refine Below.drew ?_))).more (by (first | omega | (simp; done) | (simp; omega)))
         rintro e w1 ⟨A1, c1, B1, d1, rfl, hr1, hr2, hb⟩
         unfold Snp.cs
         have z1 : w.heap.size + 2 ≤ w1.heap.size := by have := hb.size; simp at this; omega
         have R0 : Hid (Blk w1 w.heap.size 30 [.int .i64 k.term, .int .i64 k.vote, .int .i64 k.snp.idx, .int .i64 k.snp.term, .slice A k.snp.v.length c, .slice B k.snp.l.length d, .string (text k.snp.b), .slice E k.ents.length n]) := Lib.hid (Blk.below (by repeat (first | with_reducible exact P0.out | (with_reducible refine Blk.far ?_ (by dsimp only; (first | omega | (simp; done) | (simp; omega))) _) | with_reducible refine Blk.alloc ?_ _ | with_reducible refine Blk.drew ?_)) hb (by (first | omega | (simp; done) | (simp; omega))))
         have R1 : Hid (Blk w1 (w.heap.size + 1) 30 [.int .i64 0, .int .i64 0, .int .i64 0, .int .i64 0, .slice none 0 0, .slice none 0 0, .string ⟨#[]⟩, .slice none 0 0]) := Lib.hid (Blk.below (by repeat (first | with_reducible exact P1.out | (with_reducible refine Blk.far ?_ (by dsimp only; (first | omega | (simp; done) | (simp; omega))) _) | with_reducible refine Blk.alloc ?_ _ | with_reducible refine Blk.drew ?_)) hb (by (first | omega | (simp; done) | (simp; omega))))
         have HB1 : Hid (Below w.heap.size w w1) := Lib.hid (Below.trans (by repeat (first | with_reducible exact Below.refl _ _ | with_reducible assumption | (with_reducible refine Below.setCell ?_ (by dsimp only; (first | omega | (simp; done) | (simp; omega))) _) | (with_reducible refine Below.alloc ?_ (by (first | omega | (simp; done) | (simp; omega))) _) | with_reducible refine Below.drew ?_)) (hb.mono (by (first | omega | (simp; done) | (simp; omega)))))
         have r1 := Lib.hid (hr1.nw_mono (base' := w.heap.size) (by (first | omega | (simp; done) | (simp; omega))) fun _ h => h)
         have r2 := Lib.hid (hr2.nw_mono (base' := w.heap.size) (by (first | omega | (simp; done) | (simp; omega))) fun _ h => h)
         clear hr1 hr2 hb))
  · have G0 : Hid (Blk (w1.alloc (.cells #[.int .i64 k.term, .int .i64 k.vote, .int .i64 k.snp.idx, .int .i64 k.snp.term, .slice A1 k.snp.v.length c1, .slice B1 k.snp.l.length d1, .string (text k.snp.b), .slice none 0 0] 30)) w.heap.size 30 [.int .i64 k.term, .int .i64 k.vote, .int .i64 k.snp.idx, .int .i64 k.snp.term, .slice A k.snp.v.length c, .slice B k.snp.l.length d, .string (text k.snp.b), .slice E k.ents.length n]) := Lib.hid (by repeat (first | with_reducible exact R0.out | (with_reducible refine Blk.far ?_ (by dsimp only; (first | omega | (simp; done) | (simp; omega))) _) | with_reducible refine Blk.alloc ?_ _ | with_reducible refine Blk.drew ?_))
    have G1 : Hid (Blk (w1.alloc (.cells #[.int .i64 k.term, .int .i64 k.vote, .int .i64 k.snp.idx, .int .i64 k.snp.term, .slice A1 k.snp.v.length c1, .slice B1 k.snp.l.length d1, .string (text k.snp.b), .slice none 0 0] 30)) (w.heap.size + 1) 30 [.int .i64 0, .int .i64 0, .int .i64 0, .int .i64 0, .slice none 0 0, .slice none 0 0, .string ⟨#[]⟩, .slice none 0 0]) := Lib.hid (by repeat (first | with_reducible exact R1.out | (with_reducible refine Blk.far ?_ (by dsimp only; (first | omega | (simp; done) | (simp; omega))) _) | with_reducible refine Blk.alloc ?_ _ | with_reducible refine Blk.drew ?_))
    have G2 : Hid (Blk (w1.alloc (.cells #[.int .i64 k.term, .int .i64 k.vote, .int .i64 k.snp.idx, .int .i64 k.snp.term, .slice A1 k.snp.v.length c1, .slice B1 k.snp.l.length d1, .string (text k.snp.b), .slice none 0 0] 30)) (w1.heap.size) 30 [.int .i64 k.term, .int .i64 k.vote, .int .i64 k.snp.idx, .int .i64 k.snp.term, .slice A1 k.snp.v.length c1, .slice B1 k.snp.l.length d1, .string (text k.snp.b), .slice none 0 0]) := Lib.hid (Blk.new w1 _ _)
    have GB : Hid (Below w.heap.size w (w1.alloc (.cells #[.int .i64 k.term, .int .i64 k.vote, .int .i64 k.snp.idx, .int .i64 k.snp.term, .slice A1 k.snp.v.length c1, .slice B1 k.snp.l.length d1, .string (text k.snp.b), .slice none 0 0] 30))) := Lib.hid (by repeat (first | with_reducible exact HB1.out | (with_reducible refine Below.setCell ?_ (by dsimp only; (first | omega | (simp; done) | (simp; omega))) _) | (with_reducible refine Below.alloc ?_ (by (first | omega | (simp; done) | (simp; omega))) _) | with_reducible refine Below.drew ?_))
    have GK : Hid (Keeps [30] w1 (w1.alloc (.cells #[.int .i64 k.term, .int .i64 k.vote, .int .i64 k.snp.idx, .int .i64 k.snp.term, .slice A1 k.snp.v.length c1, .slice B1 k.snp.l.length d1, .string (text k.snp.b), .slice none 0 0] 30))) := Lib.hid (Keeps.alloc _ _)
    have g1 := Lib.hid (r1.out.nw_keeps GK.out (by decide))
    have g2 := Lib.hid (r2.out.nw_keeps GK.out (by decide))
    have hg : w.heap.size + 1 < w1.heap.size := by omega
    clear GK R0 R1 HB1 r1 r2
    generalize (w1.alloc (.cells #[.int .i64 k.term, .int .i64 k.vote, .int .i64 k.snp.idx, .int .i64 k.snp.term, .slice A1 k.snp.v.length c1, .slice B1 k.snp.l.length d1, .string (text k.snp.b), .slice none 0 0] 30)) = W at *
    generalize w1.heap.size = g at *
    clear P0 P1 P2
    have HI : Hid ((Try.prog.info? 30).map (·.size) = some 8) := Lib.hid (by kernel_rfl)
    go_wp2
    go_loopw [4] (fun i wr => ∃ (j : Nat) (E' : Option Addr) (c' : Nat) (xs : List Value), j ≤ k.ents.length ∧ i = .int .i64 j ∧ Hid (Blk wr w.heap.size 30 [.int .i64 k.term, .int .i64 k.vote, .int .i64 k.snp.idx, .int .i64 k.snp.term, .slice A k.snp.v.length c, .slice B k.snp.l.length d, .string (text k.snp.b), .slice E k.ents.length n]) ∧ Hid (Blk wr (w.heap.size + 1) 30 [.int .i64 0, .int .i64 0, .int .i64 0, .int .i64 0, .slice none 0 0, .slice none 0 0, .string ⟨#[]⟩, .slice none 0 0]) ∧ Hid (Blk wr g 30 [.int .i64 k.term, .int .i64 k.vote, .int .i64 k.snp.idx, .int .i64 k.snp.term, .slice A1 k.snp.v.length c1, .slice B1 k.snp.l.length d1, .string (text k.snp.b), .slice E' j c']) ∧ Hid (wr.ownsRow w.heap.size 34 6 (.slice E' j c') j xs) ∧ Hid (ThingsN wr w.heap.size [3] shEntry ((k.ents.take j).map Ent.da) xs) ∧ Hid (Below w.heap.size w wr) ∧ Hid (RowsAt wr (Nw wr w.heap.size [3]) [.num] (nums k.snp.v) A1) ∧ Hid (RowsAt wr (Nw wr w.heap.size [3]) [.num] (nums k.snp.l) B1)) (fun i _ => k.ents.length - (intOf i).toNat)
    case atStart => exact ⟨0, none, 0, [], Nat.zero_le _, rfl, G0, G1, G2, Lib.hid (World.ownsRow_nil _ _ _ _), Lib.hid ThingsN.nil, GB, g1, g2⟩
    case round =>
      obtain ⟨j, E', c', xs, hj, rfl, Q0, Q1, Q2, HO, HT, HBw, q1, q2⟩ := hrel
      clear G0 G1 G2 GB g1 g2
      have l0 := Q0.out.lt
      have l1 := Q1.out.lt
      have l2 := Q2.out.lt
      have p7 : wr.cell? ⟨w.heap.size, 7, none⟩ = some (.slice E k.ents.length n) := Q0.out.cell 7
      by_cases hlt : j < k.ents.length
      · have HT1 : Hid ((k.ents.take (j + 1)).map Ent.da = (k.ents.take j).map Ent.da ++ [(k.ents[j]).da]) := Lib.hid (by rw [List.take_succ_eq_append_getElem hlt, List.map_append]; rfl)
        obtain ⟨ad, A3, c3, B3, d3, rfl, _, e1, e2, hcell⟩ := ents_at (HA.out.e.below HBw.out) hlt
        have hsm := HS.out.e _ (List.getElem_mem hlt)
        generalize k.ents[j] = x at *
        have HC3 := Lib.hid e1
        have HC4 := Lib.hid e2
        have HSM := Lib.hid hsm
        unfold Ent.cs at hcell
        have hc0 : wr.cell? (ad.add (j * 6)) = some (.int .i64 x.idx) := hcell 0 _ rfl
        have hc1 : wr.cell? ⟨(ad.add (j * 6)).block, (ad.add (j * 6)).off + 1, none⟩ = some (.int .i64 x.term) := by rw [← add_field ad (j * 6) 1 (by decide)]; exact hcell 1 _ rfl
        have hc2 : wr.cell? ⟨(ad.add (j * 6)).block, (ad.add (j * 6)).off + 2, none⟩ = some (.int .i64 x.kind) := by rw [← add_field ad (j * 6) 2 (by decide)]; exact hcell 2 _ rfl
        have hc3 : wr.cell? ⟨(ad.add (j * 6)).block, (ad.add (j * 6)).off + 3, none⟩ = some (.slice A3 x.v.length c3) := by rw [← add_field ad (j * 6) 3 (by decide)]; exact hcell 3 _ rfl
        have hc4 : wr.cell? ⟨(ad.add (j * 6)).block, (ad.add (j * 6)).off + 4, none⟩ = some (.slice B3 x.l.length d3) := by rw [← add_field ad (j * 6) 4 (by decide)]; exact hcell 4 _ rfl
        have hc5 : wr.cell? ⟨(ad.add (j * 6)).block, (ad.add (j * 6)).off + 5, none⟩ = some (.string (text x.b)) := by rw [← add_field ad (j * 6) 5 (by decide)]; exact hcell 5 _ rfl
        have b7 : wr.cell? ⟨g, 7, none⟩ = some (.slice E' j c') := Q2.out.cell 7
        clear hcell e1 e2 hsm
        have HX0 : Hid (Below wr.heap.size wr wr.drew) := Lib.hid (Below.refl _ _).drew
        have C := Lib.hid (rEntry_any x A3 c3 B3 d3 wr.drew ((HC3.out.below (Below.refl _ _).drew).more (by (first | omega | (simp; done) | (simp; omega)))) ((HC4.out.below (Below.refl _ _).drew).more (by (first | omega | (simp; done) | (simp; omega)))) (by have := HSM.out.v; omega) (by have := HSM.out.l; omega))
        unfold Ent.cs at C
        have f7 : wr.frozen? ⟨g, 7, none⟩ = false := Q2.out.frozen 7
        go_wp2_with fail
        go_region_law (first
          | (go_simp
             go_at_call 13
             refine (unhide C).mono ?_
             rintro e w3 ⟨A4, c4, B4, d4, rfl, hr3, hr4, hb⟩
             unfold Ent.cs
             have z3 : wr.heap.size ≤ w3.heap.size := hb.size
             have z4 : w.heap.size < w3.heap.size := by omega
             have z5 : g < w3.heap.size := by omega
             have R0 := Lib.hid ((Q0.out.below HX0.out l0).below hb l0)
             have R1 := Lib.hid ((Q1.out.below HX0.out l1).below hb l1)
             have R2 := Lib.hid ((Q2.out.below HX0.out l2).below hb l2)
             have HO3 := Lib.hid ((HO.out.below_ HX0.out).below_ hb)
             have HB3 := Lib.hid ((HBw.out.trans (HX0.out.mono (by (first | omega | (simp; done) | (simp; omega))))).trans (hb.mono (by simp; omega)))
             have HR3 := Lib.hid hr3
             have HR4 := Lib.hid hr4
             have HBB := Lib.hid hb
             have b9 : w3.cell? ⟨g, 7, none⟩ = some (.slice E' j c') := R2.out.cell 7
             have b10 : w3.cell? ⟨w.heap.size, 7, none⟩ = some (.slice (some ad) k.ents.length n) := R0.out.cell 7
             clear hr3 hr4 hb)
          | (refine step_appN rfl _ _ _ rfl w.heap.size 34 i0 _ 6 88 Try.underlying28 hi0 hz0 hz1 hz2 rfl (by decide) (.slice E' j c') j xs rfl (HO3.out.alloc _) ⟨w3.heap.size, 0, none⟩ 1 [.int .i64 x.idx, .int .i64 x.term, .int .i64 x.kind, .slice A4 x.v.length c4, .slice B4 x.l.length d4, .string (text x.b)] rfl rfl (Blk.news (Blk.new w3 34 [.int .i64 x.idx, .int .i64 x.term, .int .i64 x.kind, .slice A4 x.v.length c4, .slice B4 x.l.length d4, .string (text x.b)])) (by simp [Value.oneCell']) (by unfold maxLen; omega) (by omega) (by (first | omega | (simp; done) | (simp; omega))) ?_
             intro A5 c5 w5 HO5 HG5
             have S0 := Lib.hid ((R0.out.alloc (.cells #[.int .i64 x.idx, .int .i64 x.term, .int .i64 x.kind, .slice A4 x.v.length c4, .slice B4 x.l.length d4, .string (text x.b)] 34)).grown HG5.out (blk_own_ne R0.out HO3.out (by decide)))
             have S1 := Lib.hid ((R1.out.alloc (.cells #[.int .i64 x.idx, .int .i64 x.term, .int .i64 x.kind, .slice A4 x.v.length c4, .slice B4 x.l.length d4, .string (text x.b)] 34)).grown HG5.out (blk_own_ne R1.out HO3.out (by decide)))
             have S2 := Lib.hid ((R2.out.alloc (.cells #[.int .i64 x.idx, .int .i64 x.term, .int .i64 x.kind, .slice A4 x.v.length c4, .slice B4 x.l.length d4, .string (text x.b)] 34)).grown HG5.out (blk_own_ne R2.out HO3.out (by decide)))
             have b8 : w5.cell? ⟨g, 7, none⟩ = some (.slice E' j c') := S2.out.cell 7
             have f8 : w5.frozen? ⟨g, 7, none⟩ = false := S2.out.frozen 7))
        all_goals
          have T2 : Hid (Blk (w5.setCell ⟨g, 7, none⟩ (.slice A5 (j + 1) c5)) g 30 [.int .i64 k.term, .int .i64 k.vote, .int .i64 k.snp.idx, .int .i64 k.snp.term, .slice A1 k.snp.v.length c1, .slice B1 k.snp.l.length d1, .string (text k.snp.b), .slice A5 (j + 1) c5]) := Lib.hid (by have := S2.out.set_ 7 (.slice A5 (j + 1) c5); simpa using this)
          have T1 : Hid (Blk (w5.setCell ⟨g, 7, none⟩ (.slice A5 (j + 1) c5)) (w.heap.size + 1) 30 _) := Lib.hid (S1.out.far (p := ⟨g, 7, none⟩) (by dsimp only; omega) _)
          have T0 : Hid (Blk (w5.setCell ⟨g, 7, none⟩ (.slice A5 (j + 1) c5)) w.heap.size 30 _) := Lib.hid (S0.out.far (p := ⟨g, 7, none⟩) (by dsimp only; omega) _)
          have K1 : Hid (Keeps [34, 30] w3 (w5.setCell ⟨g, 7, none⟩ (.slice A5 (j + 1) c5))) := by
            have g1 := Keeps.alloc (ts := [34, 30]) w3 (.cells #[.int .i64 x.idx, .int .i64 x.term, .int .i64 x.kind, .slice A4 x.v.length c4, .slice B4 x.l.length d4, .string (text x.b)] 34)
            have g2 := Keeps.grown (ts := [34, 30]) (HO3.out.alloc (.cells #[.int .i64 x.idx, .int .i64 x.term, .int .i64 x.kind, .slice A4 x.v.length c4, .slice B4 x.l.length d4, .string (text x.b)] 34)) HG5.out (by simp) HG5.out.size
            exact Lib.hid ((g1.trans g2).trans (Keeps.set_ S2.out.typ (by simp) _))
          have KK : Hid (Keeps [34, 30] wr (w5.setCell ⟨g, 7, none⟩ (.slice A5 (j + 1) c5))) := Lib.hid (((Keeps.of_below HX0.out (Nat.le_refl _)).trans (Keeps.of_below HBB.out (Nat.le_refl _))).trans K1.out)
          have O6 : Hid ((w5.setCell ⟨g, 7, none⟩ (.slice A5 (j + 1) c5)).ownsRow w.heap.size 34 6 (.slice A5 (j + 1) c5) (j + 1) (xs ++ [.int .i64 x.idx, .int .i64 x.term, .int .i64 x.kind, .slice A4 x.v.length c4, .slice B4 x.l.length d4, .string (text x.b)])) := Lib.hid (HO5.out.keeps (Keeps.set_ (ts := [30]) S2.out.typ (by simp) _) (by decide))
          have B6 : Hid (Below w.heap.size w (w5.setCell ⟨g, 7, none⟩ (.slice A5 (j + 1) c5))) := Lib.hid (((HB3.out.alloc (by omega) _).grown HG5.out (by simp; omega) (own_block_ge HO3.out)).setCell (by dsimp only; omega) _)
          have M6 : Hid (ThingsN (w5.setCell ⟨g, 7, none⟩ (.slice A5 (j + 1) c5)) w.heap.size [3] shEntry ((k.ents.take (j + 1)).map Ent.da) (xs ++ [.int .i64 x.idx, .int .i64 x.term, .int .i64 x.kind, .slice A4 x.v.length c4, .slice B4 x.l.length d4, .string (text x.b)])) := by
            have g1 := (HR3.out.nw_mono (base' := w.heap.size) (by simp; omega) fun _ h => h).nw_keeps K1.out (by decide)
            have g2 := (HR4.out.nw_mono (base' := w.heap.size) (by simp; omega) fun _ h => h).nw_keeps K1.out (by decide)
            have g3 := (HT.out.keeps KK.out (by decide)).snoc (d := x.da) (by have := HO.out.1; rw [this, List.length_map, List.length_take, Nat.min_eq_left (by omega)]; rfl) (Ent.mk_ x c4 d4 g1 g2)
            rw [HT1.out]
            exact Lib.hid g3
          have N1 := Lib.hid (q1.out.nw_keeps KK.out (by decide))
          have N2 := Lib.hid (q2.out.nw_keeps KK.out (by decide))
          clear b7 b8 b9 b10 p7 f7 f8 hc0 hc1 hc2 hc3 hc4 hc5 C
          go_wp2
          go_roundw
          case rel => exact ⟨j + 1, A5, c5, _, by omega, by go_num, T0, T1, T2, O6, M6, B6, N1, N2⟩
          case measure => simp [intOf]; omega
      · have hje : j = k.ents.length := by omega
        subst hje
        rw [List.take_length] at HT
        go_wp2_with (first
          | (with_reducible refine wpList_load_blk rfl 30 _ rfl g rfl Q2 (by simp) Try.underlying30 rfl HI ?_)
          | ((with_reducible refine wpList_store_blk rfl 30 _ _ rfl (w.heap.size + 1) [.int .i64 k.term, .int .i64 k.vote, .int .i64 k.snp.idx, .int .i64 k.snp.term, .slice A1 k.snp.v.length c1, .slice B1 k.snp.l.length d1, .string (text k.snp.b), .slice E' k.ents.length c'] rfl rfl Q1 (by simp) (by simp) HI (by simp [Value.oneCell']) ?_)
             intro w9 U))
        have U1 := Lib.hid U.out.blk
        refine bodyPost_ret (results_blk rfl _ _ (w.heap.size + 1) rfl U1 (by simp) Try.underlying30 rfl HI) rfl ?_
        exact ⟨A1, c1, B1, d1, E', c', rfl, ⟨q1.out.nw_keeps U.out.keeps (by decide), q2.out.nw_keeps U.out.keeps (by decide), _, HO.out.keeps U.out.keeps (by decide), HT.out.keeps U.out.keeps (by decide)⟩, U.out.below HBw.out (by omega)⟩
  · have G0 : Hid (Blk ((((((((w1.setCell ⟨w.heap.size + 1 + 1, 0, none⟩ (.int .i64 k.term)).setCell ⟨w.heap.size + 1 + 1, 1, none⟩ (.int .i64 k.vote)).setCell ⟨w.heap.size + 1 + 1, 2, none⟩ (.int .i64 k.snp.idx)).setCell ⟨w.heap.size + 1 + 1, 3, none⟩ (.int .i64 k.snp.term)).setCell ⟨w.heap.size + 1 + 1, 4, none⟩ (.slice A1 k.snp.v.length c1)).setCell ⟨w.heap.size + 1 + 1, 5, none⟩ (.slice B1 k.snp.l.length d1)).setCell ⟨w.heap.size + 1 + 1, 6, none⟩ (.string (text k.snp.b))).setCell ⟨w.heap.size + 1 + 1, 7, none⟩ (.slice none 0 0)) w.heap.size 30 [.int .i64 k.term, .int .i64 k.vote, .int .i64 k.snp.idx, .int .i64 k.snp.term, .slice A k.snp.v.length c, .slice B k.snp.l.length d, .string (text k.snp.b), .slice E k.ents.length n]) := Lib.hid (by repeat (first | with_reducible exact R0.out | (with_reducible refine Blk.far ?_ (by dsimp only; (first | omega | (simp; done) | (simp; omega))) _) | with_reducible refine Blk.alloc ?_ _ | with_reducible refine Blk.drew ?_))
    have G1 : Hid (Blk ((((((((w1.setCell ⟨w.heap.size + 1 + 1, 0, none⟩ (.int .i64 k.term)).setCell ⟨w.heap.size + 1 + 1, 1, none⟩ (.int .i64 k.vote)).setCell ⟨w.heap.size + 1 + 1, 2, none⟩ (.int .i64 k.snp.idx)).setCell ⟨w.heap.size + 1 + 1, 3, none⟩ (.int .i64 k.snp.term)).setCell ⟨w.heap.size + 1 + 1, 4, none⟩ (.slice A1 k.snp.v.length c1)).setCell ⟨w.heap.size + 1 + 1, 5, none⟩ (.slice B1 k.snp.l.length d1)).setCell ⟨w.heap.size + 1 + 1, 6, none⟩ (.string (text k.snp.b))).setCell ⟨w.heap.size + 1 + 1, 7, none⟩ (.slice none 0 0)) (w.heap.size + 1) 30 [.int .i64 0, .int .i64 0, .int .i64 0, .int .i64 0, .slice none 0 0, .slice none 0 0, .string ⟨#[]⟩, .slice none 0 0]) := Lib.hid (by repeat (first | with_reducible exact R1.out | (with_reducible refine Blk.far ?_ (by dsimp only; (first | omega | (simp; done) | (simp; omega))) _) | with_reducible refine Blk.alloc ?_ _ | with_reducible refine Blk.drew ?_))
    have G2 : Hid (Blk ((((((((w1.setCell ⟨w.heap.size + 1 + 1, 0, none⟩ (.int .i64 k.term)).setCell ⟨w.heap.size + 1 + 1, 1, none⟩ (.int .i64 k.vote)).setCell ⟨w.heap.size + 1 + 1, 2, none⟩ (.int .i64 k.snp.idx)).setCell ⟨w.heap.size + 1 + 1, 3, none⟩ (.int .i64 k.snp.term)).setCell ⟨w.heap.size + 1 + 1, 4, none⟩ (.slice A1 k.snp.v.length c1)).setCell ⟨w.heap.size + 1 + 1, 5, none⟩ (.slice B1 k.snp.l.length d1)).setCell ⟨w.heap.size + 1 + 1, 6, none⟩ (.string (text k.snp.b))).setCell ⟨w.heap.size + 1 + 1, 7, none⟩ (.slice none 0 0)) (w.heap.size + 1 + 1) 30 [.int .i64 k.term, .int .i64 k.vote, .int .i64 k.snp.idx, .int .i64 k.snp.term, .slice A1 k.snp.v.length c1, .slice B1 k.snp.l.length d1, .string (text k.snp.b), .slice none 0 0]) := Lib.hid (by have := R2.out.set_ 0 (.int .i64 k.term) |>.set_ 1 (.int .i64 k.vote) |>.set_ 2 (.int .i64 k.snp.idx) |>.set_ 3 (.int .i64 k.snp.term) |>.set_ 4 (.slice A1 k.snp.v.length c1) |>.set_ 5 (.slice B1 k.snp.l.length d1) |>.set_ 6 (.string (text k.snp.b)) |>.set_ 7 (.slice none 0 0); simpa using this)
    have GB : Hid (Below w.heap.size w ((((((((w1.setCell ⟨w.heap.size + 1 + 1, 0, none⟩ (.int .i64 k.term)).setCell ⟨w.heap.size + 1 + 1, 1, none⟩ (.int .i64 k.vote)).setCell ⟨w.heap.size + 1 + 1, 2, none⟩ (.int .i64 k.snp.idx)).setCell ⟨w.heap.size + 1 + 1, 3, none⟩ (.int .i64 k.snp.term)).setCell ⟨w.heap.size + 1 + 1, 4, none⟩ (.slice A1 k.snp.v.length c1)).setCell ⟨w.heap.size + 1 + 1, 5, none⟩ (.slice B1 k.snp.l.length d1)).setCell ⟨w.heap.size + 1 + 1, 6, none⟩ (.string (text k.snp.b))).setCell ⟨w.heap.size + 1 + 1, 7, none⟩ (.slice none 0 0))) := Lib.hid (by repeat (first | with_reducible exact HB1.out | (with_reducible refine Below.setCell ?_ (by dsimp only; (first | omega | (simp; done) | (simp; omega))) _) | (with_reducible refine Below.alloc ?_ (by (first | omega | (simp; done) | (simp; omega))) _) | with_reducible refine Below.drew ?_))
    have GK : Hid (Keeps [30] w1 ((((((((w1.setCell ⟨w.heap.size + 1 + 1, 0, none⟩ (.int .i64 k.term)).setCell ⟨w.heap.size + 1 + 1, 1, none⟩ (.int .i64 k.vote)).setCell ⟨w.heap.size + 1 + 1, 2, none⟩ (.int .i64 k.snp.idx)).setCell ⟨w.heap.size + 1 + 1, 3, none⟩ (.int .i64 k.snp.term)).setCell ⟨w.heap.size + 1 + 1, 4, none⟩ (.slice A1 k.snp.v.length c1)).setCell ⟨w.heap.size + 1 + 1, 5, none⟩ (.slice B1 k.snp.l.length d1)).setCell ⟨w.heap.size + 1 + 1, 6, none⟩ (.string (text k.snp.b))).setCell ⟨w.heap.size + 1 + 1, 7, none⟩ (.slice none 0 0))) := Lib.hid (by repeat (first | with_reducible exact Keeps.refl _ _ | (with_reducible refine Keeps.step1 ?_ (by repeat (first | with_reducible exact Blk.typ R2.out | with_reducible refine TypeAt.setCell ?_ _ _)))))
    have g1 := Lib.hid (r1.out.nw_keeps GK.out (by decide))
    have g2 := Lib.hid (r2.out.nw_keeps GK.out (by decide))
    have hg : w.heap.size + 1 < w.heap.size + 1 + 1 := by omega
    clear GK R0 R1 HB1 r1 r2 R2 x0 x1 x2 x3 x4 x5 x6 x7 y0 y1 y2 y3 y4 y5 y6 y7
    generalize ((((((((w1.setCell ⟨w.heap.size + 1 + 1, 0, none⟩ (.int .i64 k.term)).setCell ⟨w.heap.size + 1 + 1, 1, none⟩ (.int .i64 k.vote)).setCell ⟨w.heap.size + 1 + 1, 2, none⟩ (.int .i64 k.snp.idx)).setCell ⟨w.heap.size + 1 + 1, 3, none⟩ (.int .i64 k.snp.term)).setCell ⟨w.heap.size + 1 + 1, 4, none⟩ (.slice A1 k.snp.v.length c1)).setCell ⟨w.heap.size + 1 + 1, 5, none⟩ (.slice B1 k.snp.l.length d1)).setCell ⟨w.heap.size + 1 + 1, 6, none⟩ (.string (text k.snp.b))).setCell ⟨w.heap.size + 1 + 1, 7, none⟩ (.slice none 0 0)) = W at *
    generalize w.heap.size + 1 + 1 = g at *
    clear P0 P1 P2
    have HI : Hid ((Try.prog.info? 30).map (·.size) = some 8) := Lib.hid (by kernel_rfl)
    go_wp2
    go_loopw [4] (fun i wr => ∃ (j : Nat) (E' : Option Addr) (c' : Nat) (xs : List Value), j ≤ k.ents.length ∧ i = .int .i64 j ∧ Hid (Blk wr w.heap.size 30 [.int .i64 k.term, .int .i64 k.vote, .int .i64 k.snp.idx, .int .i64 k.snp.term, .slice A k.snp.v.length c, .slice B k.snp.l.length d, .string (text k.snp.b), .slice E k.ents.length n]) ∧ Hid (Blk wr (w.heap.size + 1) 30 [.int .i64 0, .int .i64 0, .int .i64 0, .int .i64 0, .slice none 0 0, .slice none 0 0, .string ⟨#[]⟩, .slice none 0 0]) ∧ Hid (Blk wr g 30 [.int .i64 k.term, .int .i64 k.vote, .int .i64 k.snp.idx, .int .i64 k.snp.term, .slice A1 k.snp.v.length c1, .slice B1 k.snp.l.length d1, .string (text k.snp.b), .slice E' j c']) ∧ Hid (wr.ownsRow w.heap.size 34 6 (.slice E' j c') j xs) ∧ Hid (ThingsN wr w.heap.size [3] shEntry ((k.ents.take j).map Ent.da) xs) ∧ Hid (Below w.heap.size w wr) ∧ Hid (RowsAt wr (Nw wr w.heap.size [3]) [.num] (nums k.snp.v) A1) ∧ Hid (RowsAt wr (Nw wr w.heap.size [3]) [.num] (nums k.snp.l) B1)) (fun i _ => k.ents.length - (intOf i).toNat)
    case atStart => exact ⟨0, none, 0, [], Nat.zero_le _, rfl, G0, G1, G2, Lib.hid (World.ownsRow_nil _ _ _ _), Lib.hid ThingsN.nil, GB, g1, g2⟩
    case round =>
      obtain ⟨j, E', c', xs, hj, rfl, Q0, Q1, Q2, HO, HT, HBw, q1, q2⟩ := hrel
      clear G0 G1 G2 GB g1 g2
      have l0 := Q0.out.lt
      have l1 := Q1.out.lt
      have l2 := Q2.out.lt
      have p7 : wr.cell? ⟨w.heap.size, 7, none⟩ = some (.slice E k.ents.length n) := Q0.out.cell 7
      by_cases hlt : j < k.ents.length
      · have HT1 : Hid ((k.ents.take (j + 1)).map Ent.da = (k.ents.take j).map Ent.da ++ [(k.ents[j]).da]) := Lib.hid (by rw [List.take_succ_eq_append_getElem hlt, List.map_append]; rfl)
        obtain ⟨ad, A3, c3, B3, d3, rfl, _, e1, e2, hcell⟩ := ents_at (HA.out.e.below HBw.out) hlt
        have hsm := HS.out.e _ (List.getElem_mem hlt)
        generalize k.ents[j] = x at *
        have HC3 := Lib.hid e1
        have HC4 := Lib.hid e2
        have HSM := Lib.hid hsm
        unfold Ent.cs at hcell
        have hc0 : wr.cell? (ad.add (j * 6)) = some (.int .i64 x.idx) := hcell 0 _ rfl
        have hc1 : wr.cell? ⟨(ad.add (j * 6)).block, (ad.add (j * 6)).off + 1, none⟩ = some (.int .i64 x.term) := by rw [← add_field ad (j * 6) 1 (by decide)]; exact hcell 1 _ rfl
        have hc2 : wr.cell? ⟨(ad.add (j * 6)).block, (ad.add (j * 6)).off + 2, none⟩ = some (.int .i64 x.kind) := by rw [← add_field ad (j * 6) 2 (by decide)]; exact hcell 2 _ rfl
        have hc3 : wr.cell? ⟨(ad.add (j * 6)).block, (ad.add (j * 6)).off + 3, none⟩ = some (.slice A3 x.v.length c3) := by rw [← add_field ad (j * 6) 3 (by decide)]; exact hcell 3 _ rfl
        have hc4 : wr.cell? ⟨(ad.add (j * 6)).block, (ad.add (j * 6)).off + 4, none⟩ = some (.slice B3 x.l.length d3) := by rw [← add_field ad (j * 6) 4 (by decide)]; exact hcell 4 _ rfl
        have hc5 : wr.cell? ⟨(ad.add (j * 6)).block, (ad.add (j * 6)).off + 5, none⟩ = some (.string (text x.b)) := by rw [← add_field ad (j * 6) 5 (by decide)]; exact hcell 5 _ rfl
        have b7 : wr.cell? ⟨g, 7, none⟩ = some (.slice E' j c') := Q2.out.cell 7
        clear hcell e1 e2 hsm
        have HX0 : Hid (Below wr.heap.size wr wr.drew) := Lib.hid (Below.refl _ _).drew
        have C := Lib.hid (rEntry_any x A3 c3 B3 d3 wr.drew ((HC3.out.below (Below.refl _ _).drew).more (by (first | omega | (simp; done) | (simp; omega)))) ((HC4.out.below (Below.refl _ _).drew).more (by (first | omega | (simp; done) | (simp; omega)))) (by have := HSM.out.v; omega) (by have := HSM.out.l; omega))
        unfold Ent.cs at C
        have f7 : wr.frozen? ⟨g, 7, none⟩ = false := Q2.out.frozen 7
        go_wp2_with fail
        go_region_law (first
          | (go_simp
             go_at_call 13
             refine (unhide C).mono ?_
             rintro e w3 ⟨A4, c4, B4, d4, rfl, hr3, hr4, hb⟩
             unfold Ent.cs
             have z3 : wr.heap.size ≤ w3.heap.size := hb.size
             have z4 : w.heap.size < w3.heap.size := by omega
             have z5 : g < w3.heap.size := by omega
             have R0 := Lib.hid ((Q0.out.below HX0.out l0).below hb l0)
             have R1 := Lib.hid ((Q1.out.below HX0.out l1).below hb l1)
             have R2 := Lib.hid ((Q2.out.below HX0.out l2).below hb l2)
             have HO3 := Lib.hid ((HO.out.below_ HX0.out).below_ hb)
             have HB3 := Lib.hid ((HBw.out.trans (HX0.out.mono (by (first | omega | (simp; done) | (simp; omega))))).trans (hb.mono (by simp; omega)))
             have HR3 := Lib.hid hr3
             have HR4 := Lib.hid hr4
             have HBB := Lib.hid hb
             have b9 : w3.cell? ⟨g, 7, none⟩ = some (.slice E' j c') := R2.out.cell 7
             have b10 : w3.cell? ⟨w.heap.size, 7, none⟩ = some (.slice (some ad) k.ents.length n) := R0.out.cell 7
             clear hr3 hr4 hb)
          | (refine step_appN rfl _ _ _ rfl w.heap.size 34 i0 _ 6 88 Try.underlying28 hi0 hz0 hz1 hz2 rfl (by decide) (.slice E' j c') j xs rfl (HO3.out.alloc _) ⟨w3.heap.size, 0, none⟩ 1 [.int .i64 x.idx, .int .i64 x.term, .int .i64 x.kind, .slice A4 x.v.length c4, .slice B4 x.l.length d4, .string (text x.b)] rfl rfl (Blk.news (Blk.new w3 34 [.int .i64 x.idx, .int .i64 x.term, .int .i64 x.kind, .slice A4 x.v.length c4, .slice B4 x.l.length d4, .string (text x.b)])) (by simp [Value.oneCell']) (by unfold maxLen; omega) (by omega) (by (first | omega | (simp; done) | (simp; omega))) ?_
             intro A5 c5 w5 HO5 HG5
             have S0 := Lib.hid ((R0.out.alloc (.cells #[.int .i64 x.idx, .int .i64 x.term, .int .i64 x.kind, .slice A4 x.v.length c4, .slice B4 x.l.length d4, .string (text x.b)] 34)).grown HG5.out (blk_own_ne R0.out HO3.out (by decide)))
             have S1 := Lib.hid ((R1.out.alloc (.cells #[.int .i64 x.idx, .int .i64 x.term, .int .i64 x.kind, .slice A4 x.v.length c4, .slice B4 x.l.length d4, .string (text x.b)] 34)).grown HG5.out (blk_own_ne R1.out HO3.out (by decide)))
             have S2 := Lib.hid ((R2.out.alloc (.cells #[.int .i64 x.idx, .int .i64 x.term, .int .i64 x.kind, .slice A4 x.v.length c4, .slice B4 x.l.length d4, .string (text x.b)] 34)).grown HG5.out (blk_own_ne R2.out HO3.out (by decide)))
             have b8 : w5.cell? ⟨g, 7, none⟩ = some (.slice E' j c') := S2.out.cell 7
             have f8 : w5.frozen? ⟨g, 7, none⟩ = false := S2.out.frozen 7))
        all_goals
          have T2 : Hid (Blk (w5.setCell ⟨g, 7, none⟩ (.slice A5 (j + 1) c5)) g 30 [.int .i64 k.term, .int .i64 k.vote, .int .i64 k.snp.idx, .int .i64 k.snp.term, .slice A1 k.snp.v.length c1, .slice B1 k.snp.l.length d1, .string (text k.snp.b), .slice A5 (j + 1) c5]) := Lib.hid (by have := S2.out.set_ 7 (.slice A5 (j + 1) c5); simpa using this)
          have T1 : Hid (Blk (w5.setCell ⟨g, 7, none⟩ (.slice A5 (j + 1) c5)) (w.heap.size + 1) 30 _) := Lib.hid (S1.out.far (p := ⟨g, 7, none⟩) (by dsimp only; omega) _)
          have T0 : Hid (Blk (w5.setCell ⟨g, 7, none⟩ (.slice A5 (j + 1) c5)) w.heap.size 30 _) := Lib.hid (S0.out.far (p := ⟨g, 7, none⟩) (by dsimp only; omega) _)
          have K1 : Hid (Keeps [34, 30] w3 (w5.setCell ⟨g, 7, none⟩ (.slice A5 (j + 1) c5))) := by
            have g1 := Keeps.alloc (ts := [34, 30]) w3 (.cells #[.int .i64 x.idx, .int .i64 x.term, .int .i64 x.kind, .slice A4 x.v.length c4, .slice B4 x.l.length d4, .string (text x.b)] 34)
            have g2 := Keeps.grown (ts := [34, 30]) (HO3.out.alloc (.cells #[.int .i64 x.idx, .int .i64 x.term, .int .i64 x.kind, .slice A4 x.v.length c4, .slice B4 x.l.length d4, .string (text x.b)] 34)) HG5.out (by simp) HG5.out.size
            exact Lib.hid ((g1.trans g2).trans (Keeps.set_ S2.out.typ (by simp) _))
          have KK : Hid (Keeps [34, 30] wr (w5.setCell ⟨g, 7, none⟩ (.slice A5 (j + 1) c5))) := Lib.hid (((Keeps.of_below HX0.out (Nat.le_refl _)).trans (Keeps.of_below HBB.out (Nat.le_refl _))).trans K1.out)
          have O6 : Hid ((w5.setCell ⟨g, 7, none⟩ (.slice A5 (j + 1) c5)).ownsRow w.heap.size 34 6 (.slice A5 (j + 1) c5) (j + 1) (xs ++ [.int .i64 x.idx, .int .i64 x.term, .int .i64 x.kind, .slice A4 x.v.length c4, .slice B4 x.l.length d4, .string (text x.b)])) := Lib.hid (HO5.out.keeps (Keeps.set_ (ts := [30]) S2.out.typ (by simp) _) (by decide))
          have B6 : Hid (Below w.heap.size w (w5.setCell ⟨g, 7, none⟩ (.slice A5 (j + 1) c5))) := Lib.hid (((HB3.out.alloc (by omega) _).grown HG5.out (by simp; omega) (own_block_ge HO3.out)).setCell (by dsimp only; omega) _)
          have M6 : Hid (ThingsN (w5.setCell ⟨g, 7, none⟩ (.slice A5 (j + 1) c5)) w.heap.size [3] shEntry ((k.ents.take (j + 1)).map Ent.da) (xs ++ [.int .i64 x.idx, .int .i64 x.term, .int .i64 x.kind, .slice A4 x.v.length c4, .slice B4 x.l.length d4, .string (text x.b)])) := by
            have g1 := (HR3.out.nw_mono (base' := w.heap.size) (by simp; omega) fun _ h => h).nw_keeps K1.out (by decide)
            have g2 := (HR4.out.nw_mono (base' := w.heap.size) (by simp; omega) fun _ h => h).nw_keeps K1.out (by decide)
            have g3 := (HT.out.keeps KK.out (by decide)).snoc (d := x.da) (by have := HO.out.1; rw [this, List.length_map, List.length_take, Nat.min_eq_left (by omega)]; rfl) (Ent.mk_ x c4 d4 g1 g2)
            rw [HT1.out]
            exact Lib.hid g3
          have N1 := Lib.hid (q1.out.nw_keeps KK.out (by decide))
          have N2 := Lib.hid (q2.out.nw_keeps KK.out (by decide))
          clear b7 b8 b9 b10 p7 f7 f8 hc0 hc1 hc2 hc3 hc4 hc5 C
          go_wp2
          go_roundw
          case rel => exact ⟨j + 1, A5, c5, _, by omega, by go_num, T0, T1, T2, O6, M6, B6, N1, N2⟩
          case measure => simp [intOf]; omega
      · have hje : j = k.ents.length := by omega
        subst hje
        rw [List.take_length] at HT
        go_wp2_with (first
          | (with_reducible refine wpList_load_blk rfl 30 _ rfl g rfl Q2 (by simp) Try.underlying30 rfl HI ?_)
          | ((with_reducible refine wpList_store_blk rfl 30 _ _ rfl (w.heap.size + 1) [.int .i64 k.term, .int .i64 k.vote, .int .i64 k.snp.idx, .int .i64 k.snp.term, .slice A1 k.snp.v.length c1, .slice B1 k.snp.l.length d1, .string (text k.snp.b), .slice E' k.ents.length c'] rfl rfl Q1 (by simp) (by simp) HI (by simp [Value.oneCell']) ?_)
             intro w9 U))
        have U1 := Lib.hid U.out.blk
        refine bodyPost_ret (results_blk rfl _ _ (w.heap.size + 1) rfl U1 (by simp) Try.underlying30 rfl HI) rfl ?_
        exact ⟨A1, c1, B1, d1, E', c', rfl, ⟨q1.out.nw_keeps U.out.keeps (by decide), q2.out.nw_keeps U.out.keeps (by decide), _, HO.out.keeps U.out.keeps (by decide), HT.out.keeps U.out.keeps (by decide)⟩, U.out.below HBw.out (by omega)⟩
end Go.Proofs.Ytkdmfjpfanmgmaa
