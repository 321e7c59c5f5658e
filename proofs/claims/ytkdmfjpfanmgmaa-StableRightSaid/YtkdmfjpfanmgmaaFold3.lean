/- The walks of the copies of configurations, entries and snapshots. -/
import Derived.Test.YtkdmfjpfanmgmaaFold2
namespace Go.Proofs.Ytkdmfjpfanmgmaa
open Go.RowKit Le
set_option maxRecDepth 100000
set_option linter.unusedSimpArgs false
set_option linter.unusedVariables false

/-- A configuration copied to new memory. -/
def ConfEnd (w : World) (l1 l2 : List Int) (e : Ending) (w' : World) : Prop :=
  ∃ A c B d, e = .returned (.agg #[.slice A l1.length c, .slice B l2.length d]) ∧ RowsAt w' (Nw w' w.heap.size [3]) [.num] (nums l1) A ∧ RowsAt w' (Nw w' w.heap.size [3]) [.num] (nums l2) B ∧ Below w.heap.size w w'
/-- Within ownConfig: the world below is as it was; the result's box is there. -/
structure CfS (w w' : World) : Prop where
  below : Below w.heap.size w w'
  size : w.heap.size + 2 ≤ w'.heap.size
  there : ∃ x y, Blk w' (w.heap.size + 1) 25 [x, y]
theorem CfS.next {w w1 w2 : World} (h : CfS w w1) (hb : Below w1.heap.size w1 w2) : CfS w w2 := by
  obtain ⟨x, y, hB⟩ := h.there
  have := h.size
  have := hb.size
  exact ⟨h.below.trans (hb.mono (by omega)), by omega, x, y, hB.below hb hB.lt⟩
theorem CfS.set_ {w w1 : World} (h : CfS w w1) (u v : Value) : CfS w ((w1.setCell ⟨w.heap.size + 1, 0, none⟩ u).setCell ⟨w.heap.size + 1, 1, none⟩ v) := by
  obtain ⟨x, y, hB⟩ := h.there
  have := h.size
  exact ⟨(h.below.setCell (by simp) _).setCell (by simp) _, by simpa [World.setCell] using h.size, u, v, by simpa using (hB.set_ 0 u).set_ 1 v⟩
theorem CfS.cells {w w' : World} (h : CfS w w') : ∃ x y, w'.cell? ⟨w.heap.size + 1, 0, none⟩ = some x ∧ w'.cell? ⟨w.heap.size + 1, 1, none⟩ = some y ∧ w'.frozen? ⟨w.heap.size + 1, 0, none⟩ = false ∧ w'.frozen? ⟨w.heap.size + 1, 1, none⟩ = false := by
  obtain ⟨x, y, hB⟩ := h.there
  exact ⟨x, y, hB.cell 0, hB.cell 1, hB.frozen 0, hB.frozen 1⟩

theorem rows_at {w w1 : World} {l : List Sh} {ds : List (List Da)} {A : Option Addr} (H : Hid (RowsAt w (· < w.heap.size) l ds A)) {p q : Prop} (h : p ∧ q ∧ CfS w w1) : RowsAt w1 (· < w1.heap.size) l ds A :=
  (H.out.below h.2.2.below).more (by have := h.2.2.size; omega)
theorem cf_start (w : World) (u v : Value) : ((w.alloc (.cells #[u, v] 25)).alloc (.cells #[.slice none 0 0, .slice none 0 0] 25)).drew.cell? ⟨w.heap.size, 0, none⟩ = some u ∧
    ((w.alloc (.cells #[u, v] 25)).alloc (.cells #[.slice none 0 0, .slice none 0 0] 25)).drew.cell? ⟨w.heap.size, 1, none⟩ = some v ∧ CfS w ((w.alloc (.cells #[u, v] 25)).alloc (.cells #[.slice none 0 0, .slice none 0 0] 25)).drew := by
  have h := ((Blk.new w 25 [u, v]).alloc (.cells #[.slice none 0 0, .slice none 0 0] 25)).drew
  have h2 := (Blk.new (w.alloc (.cells #[u, v] 25)) 25 [.slice none 0 0, .slice none 0 0]).drew
  rw [show (w.alloc (.cells #[u, v] 25)).heap.size = w.heap.size + 1 by simp] at h2
  exact ⟨h.cell 0, h.cell 1, (((Below.refl _ _).alloc (Nat.le_refl _) _).alloc (by simp) _).drew, by simp, _, _, h2⟩
theorem cf_next {w w1 w2 : World} {u v : Value} (h : w1.cell? ⟨w.heap.size, 0, none⟩ = some u ∧ w1.cell? ⟨w.heap.size, 1, none⟩ = some v ∧ CfS w w1) (hb : Below w1.heap.size w1 w2) :
    w2.cell? ⟨w.heap.size, 0, none⟩ = some u ∧ w2.cell? ⟨w.heap.size, 1, none⟩ = some v ∧ CfS w w2 := by
  have := h.2.2.size
  exact ⟨(hb.cell (by dsimp only; omega)).trans h.1, (hb.cell (by dsimp only; omega)).trans h.2.1, h.2.2.next hb⟩
theorem cf_set {w w1 : World} {u v x y : Value} (h : w1.cell? ⟨w.heap.size, 0, none⟩ = some u ∧ w1.cell? ⟨w.heap.size, 1, none⟩ = some v ∧ CfS w w1) :
    ((w1.setCell ⟨w.heap.size + 1, 0, none⟩ x).setCell ⟨w.heap.size + 1, 1, none⟩ y).cell? ⟨w.heap.size, 0, none⟩ = some u ∧ ((w1.setCell ⟨w.heap.size + 1, 0, none⟩ x).setCell ⟨w.heap.size + 1, 1, none⟩ y).cell? ⟨w.heap.size, 1, none⟩ = some v ∧ CfS w ((w1.setCell ⟨w.heap.size + 1, 0, none⟩ x).setCell ⟨w.heap.size + 1, 1, none⟩ y) := by
  refine ⟨?_, ?_, h.2.2.set_ x y⟩
  · rw [World.cell?_setCell_other _ _ _ _ (by simp), World.cell?_setCell_other _ _ _ _ (by simp)]; exact h.1
  · rw [World.cell?_setCell_other _ _ _ _ (by simp), World.cell?_setCell_other _ _ _ _ (by simp)]; exact h.2.1

set_option maxHeartbeats 1600000 in
theorem ownConfig_any (l1 l2 : List Int) (A : Option Addr) (c : Nat) (B : Option Addr) (d : Nat) (w : World) (h1 : RowsAt w (· < w.heap.size) [.num] (nums l1) A) (h2 : RowsAt w (· < w.heap.size) [.num] (nums l2) B)
    (hl1 : l1.length ≤ 1099511627776) (hl2 : l2.length ≤ 1099511627776) :
    Calls Try.prog 51 #[.agg #[.slice A l1.length c, .slice B l2.length d]] w (ConfEnd w l1 l2) := by
  have H1 := Lib.hid h1
  have H2 := Lib.hid h2
  clear h1 h2
  go_enter Try.func51, Try.ntmps51
  go_wp2
  go_region_held3 (fun w' => w'.cell? ⟨w.heap.size, 0, none⟩ = some (.slice A l1.length c) ∧ w'.cell? ⟨w.heap.size, 1, none⟩ = some (.slice B l2.length d) ∧ CfS w w')
    (first
      | exact cf_start _ _ _
      | exact hb1.out
      | exact hb2.out
      | exact cf_set hb2.out)
    (first
      | (go_at_call 60
         (with_reducible refine (cloneSet_any A c l1 _ ?_ hl1).mono ?_)
         · exact rows_at H1 (by assumption)
         rintro e w1 ⟨A1, c1, rfl, hr1, hb⟩
         have hb1 := Lib.hid (cf_next (w := w) (u := .slice A l1.length c) (v := .slice B l2.length d) (by assumption) hb))
      | (go_at_call 60
         (with_reducible refine (cloneSet_any B d l2 _ ?_ hl2).mono ?_)
         · exact rows_at H2 (by assumption)
         rintro e w2 ⟨A2, c2, rfl, hr2, hb⟩
         have hb2 := Lib.hid (cf_next (w := w) (u := .slice A l1.length c) (v := .slice B l2.length d) (by assumption) hb)
         have hr1 := hr1.nw_below hb
         obtain ⟨x, y, f0, f1, g0, g1⟩ := hb2.out.2.2.cells))
  go_wp2
  have HB : Hid (Blk ((w2.setCell ⟨w.heap.size + 1, 0, none⟩ (.slice A1 l1.length c1)).setCell ⟨w.heap.size + 1, 1, none⟩ (.slice A2 l2.length c2)) (w.heap.size + 1) 25 [.slice A1 l1.length c1, .slice A2 l2.length c2]) := by
    obtain ⟨x, y, hB⟩ := hb2.out.2.2.there
    have := (hB.set_ 0 (.slice A1 l1.length c1)).set_ 1 (.slice A2 l2.length c2)
    exact Lib.hid (by simpa using this)
  have HK : Hid (Keeps [25] w2 ((w2.setCell ⟨w.heap.size + 1, 0, none⟩ (.slice A1 l1.length c1)).setCell ⟨w.heap.size + 1, 1, none⟩ (.slice A2 l2.length c2))) := by
    obtain ⟨x, y, hB⟩ := hb2.out.2.2.there
    exact Lib.hid ((Keeps.set_ hB.typ (by simp) _).trans (Keeps.set_ (hB.set_ 0 _).typ (by simp) _))
  refine bodyPost_ret (results_cell rfl _ _ (w.heap.size + 1) rfl [.slice A1 l1.length c1, .slice A2 l2.length c2] _ HB.out.range0 Try.underlying25 rfl (by kernel_rfl)) rfl ?_
  refine ⟨A1, c1, A2, c2, rfl, ?_, ?_, hb2.out.2.2.below.setCell (by simp) _ |>.setCell (by simp) _⟩
  · exact (hr1.nw_mono (by simp; omega) fun _ h => h).nw_keeps HK.out (by decide)
  · exact (hr2.nw_mono (by have := hb1.out.2.2.size; omega) fun _ h => h).nw_keeps HK.out (by decide)

theorem blk3 (w : World) (t0 t1 t2 : TypeId) (c0 c1 c2 : List Value) : Blk (((w.alloc (.cells c0.toArray t0)).alloc (.cells c1.toArray t1)).alloc (.cells c2.toArray t2)) w.heap.size t0 c0 ∧
    Blk (((w.alloc (.cells c0.toArray t0)).alloc (.cells c1.toArray t1)).alloc (.cells c2.toArray t2)) (w.heap.size + 1) t1 c1 ∧ Blk (((w.alloc (.cells c0.toArray t0)).alloc (.cells c1.toArray t1)).alloc (.cells c2.toArray t2)) (w.heap.size + 1 + 1) t2 c2 := by
  refine ⟨((Blk.new w t0 c0).alloc _).alloc _, ?_, ?_⟩
  · have h := (Blk.new (w.alloc (.cells c0.toArray t0)) t1 c1).alloc (.cells c2.toArray t2)
    simpa using h
  · have h := Blk.new ((w.alloc (.cells c0.toArray t0)).alloc (.cells c1.toArray t1)) t2 c2
    simpa using h
set_option maxHeartbeats 1600000 in
theorem rconfig_any (l1 l2 : List Int) (A : Option Addr) (c : Nat) (B : Option Addr) (d : Nat) (w : World) (h1 : RowsAt w (· < w.heap.size) [.num] (nums l1) A) (h2 : RowsAt w (· < w.heap.size) [.num] (nums l2) B)
    (hl1 : l1.length ≤ 1099511627776) (hl2 : l2.length ≤ 1099511627776) :
    Calls Try.prog 25 #[.agg #[.slice A l1.length c, .slice B l2.length d]] w (ConfEnd w l1 l2) := by
  obtain ⟨i0, hi0, hz0, hz1, hz2⟩ := info_parts info_int
  have H1 := Lib.hid h1.lt_reads
  have H2 := Lib.hid h2.lt_reads
  clear h1 h2
  generalize hn1 : l1.length = n1 at *
  generalize hn2 : l2.length = n2 at *
  have N1 := Lib.hid hn1
  have N2 := Lib.hid hn2
  clear hn1 hn2
  go_enter Try.func25, Try.ntmps25
  go_wp2_with (first
    | (at_builtin
       refine wpList_app rfl (.tmp 6) (.tmp 8) 23 rfl w.heap.size 3 i0 _ 8 Try.underlying23 hi0 hz0 hz1 hz2 rfl (.slice none 0 0) 0 [] rfl (World.ownsRow_nil _ w.heap.size 3 1) w.heap.size A n1 c (i64s l1) rfl (H1.out.below (by repeat (first | with_reducible exact Below.refl _ _ | with_reducible assumption | (with_reducible refine Below.setCell ?_ (by dsimp only; (first | omega | (simp; done) | (simp; omega))) _) | (with_reducible refine Below.alloc ?_ (by (first | omega | (simp; done) | (simp; omega))) _) | with_reducible refine Below.drew ?_))) (i64s_one _) (by unfold maxLen; omega) (by omega) (by (first | omega | (simp; done) | (simp; omega))) w (by repeat (first | with_reducible exact Below.refl _ _ | with_reducible assumption | (with_reducible refine Below.setCell ?_ (by dsimp only; (first | omega | (simp; done) | (simp; omega))) _) | (with_reducible refine Below.alloc ?_ (by (first | omega | (simp; done) | (simp; omega))) _) | with_reducible refine Below.drew ?_)) ?_
       intro A3 c3 w3 HO3 hb3 HG3
       have z3 := HG3.out.size
       have P := blk3 w 25 25 25 [.slice A n1 c, .slice B n2 d] [.slice none 0 0, .slice none 0 0] [.slice none 0 0, .slice none 0 0]
       have P0 := Lib.hid (P.1.grown HG3.out (by simp [Value.ownBlock]))
       have P1 := Lib.hid (P.2.1.grown HG3.out (by simp [Value.ownBlock]))
       have P2 := Lib.hid (P.2.2.grown HG3.out (by simp [Value.ownBlock]))
       have a0 : w3.cell? ⟨w.heap.size, 1, none⟩ = some (.slice B n2 d) := P0.out.cell 1
       have a1 : w3.cell? ⟨w.heap.size + 1 + 1, 0, none⟩ = some (.slice none 0 0) := P2.out.cell 0
       have a2 : w3.cell? ⟨w.heap.size + 1 + 1, 1, none⟩ = some (.slice none 0 0) := P2.out.cell 1
       have f1 : w3.frozen? ⟨w.heap.size + 1 + 1, 0, none⟩ = false := P2.out.frozen 0
       have f2 : w3.frozen? ⟨w.heap.size + 1 + 1, 1, none⟩ = false := P2.out.frozen 1
       clear P)
    | (at_builtin
       refine wpList_app rfl (.tmp 12) (.tmp 14) 23 rfl w.heap.size 3 i0 _ 8 Try.underlying23 hi0 hz0 hz1 hz2 rfl (.slice none 0 0) 0 [] rfl (World.ownsRow_nil _ w.heap.size 3 1) w.heap.size B n2 d (i64s l2) rfl (H2.out.below (by repeat (first | with_reducible exact Below.refl _ _ | with_reducible assumption | (with_reducible refine Below.setCell ?_ (by dsimp only; (first | omega | (simp; done) | (simp; omega))) _) | (with_reducible refine Below.alloc ?_ (by (first | omega | (simp; done) | (simp; omega))) _) | with_reducible refine Below.drew ?_))) (i64s_one _) (by unfold maxLen; omega) (by omega) (by simp [World.setCell] at z3 ⊢; omega) w (by repeat (first | with_reducible exact Below.refl _ _ | with_reducible assumption | (with_reducible refine Below.setCell ?_ (by dsimp only; (first | omega | (simp; done) | (simp; omega))) _) | (with_reducible refine Below.alloc ?_ (by (first | omega | (simp; done) | (simp; omega))) _) | with_reducible refine Below.drew ?_)) ?_
       intro A4 c4 w4 HO4 hb4 HG4
       have Q0 := Lib.hid ((P0.out.far (p := ⟨w.heap.size + 1 + 1, 0, none⟩) (by dsimp only; omega) (.slice A3 n1 c3)).grown HG4.out (by simp [Value.ownBlock]))
       have Q1 := Lib.hid ((P1.out.far (p := ⟨w.heap.size + 1 + 1, 0, none⟩) (by dsimp only; omega) (.slice A3 n1 c3)).grown HG4.out (by simp [Value.ownBlock]))
       have Q2 := Lib.hid ((P2.out.set_ 0 (.slice A3 n1 c3)).grown HG4.out (by simp [Value.ownBlock]))
       have a3 : w4.cell? ⟨w.heap.size + 1 + 1, 0, none⟩ = some (.slice A3 n1 c3) := Q2.out.cell 0
       have a4 : w4.cell? ⟨w.heap.size + 1 + 1, 1, none⟩ = some (.slice none 0 0) := Q2.out.cell 1
       have f3 : w4.frozen? ⟨w.heap.size + 1 + 1, 1, none⟩ = false := Q2.out.frozen 1
       have a5 : w4.cell? ⟨w.heap.size + 1, 0, none⟩ = some (.slice none 0 0) := Q1.out.cell 0
       have a6 : w4.cell? ⟨w.heap.size + 1, 1, none⟩ = some (.slice none 0 0) := Q1.out.cell 1
       have f5 : w4.frozen? ⟨w.heap.size + 1, 0, none⟩ = false := Q1.out.frozen 0
       have f6 : w4.frozen? ⟨w.heap.size + 1, 1, none⟩ = false := Q1.out.frozen 1))
  have HB : Hid (Blk (((w4.setCell ⟨w.heap.size + 1 + 1, 1, none⟩ (.slice A4 n2 c4)).setCell ⟨w.heap.size + 1, 0, none⟩ (.slice A3 n1 c3)).setCell ⟨w.heap.size + 1, 1, none⟩ (.slice A4 n2 c4)) (w.heap.size + 1) 25 [.slice A3 n1 c3, .slice A4 n2 c4]) := by
    have := ((Q1.out.far (p := ⟨w.heap.size + 1 + 1, 1, none⟩) (by dsimp only; omega) (.slice A4 n2 c4)).set_ 0 (.slice A3 n1 c3)).set_ 1 (.slice A4 n2 c4)
    exact Lib.hid (by simpa using this)
  have HK : Hid (Keeps [25] w4 (((w4.setCell ⟨w.heap.size + 1 + 1, 1, none⟩ (.slice A4 n2 c4)).setCell ⟨w.heap.size + 1, 0, none⟩ (.slice A3 n1 c3)).setCell ⟨w.heap.size + 1, 1, none⟩ (.slice A4 n2 c4))) := by
    have Q1' := Q1.out.far (p := ⟨w.heap.size + 1 + 1, 1, none⟩) (by dsimp only; omega) (.slice A4 n2 c4)
    exact Lib.hid (((Keeps.set_ Q2.out.typ (by simp) _).trans (Keeps.set_ Q1'.typ (by simp) _)).trans (Keeps.set_ (Q1'.set_ 0 _).typ (by simp) _))
  have K3 : Hid (Keeps [25] w3 (w3.setCell ⟨w.heap.size + 1 + 1, 0, none⟩ (.slice A3 n1 c3))) := Lib.hid (Keeps.set_ P2.out.typ (by simp) _)
  have K4 := Lib.hid ((Below.refl _ _).grown HG4.out (Nat.le_refl _) (by simp [Value.ownBlock]))
  refine bodyPost_ret (results_cell rfl _ _ (w.heap.size + 1) rfl [.slice A3 n1 c3, .slice A4 n2 c4] _ HB.out.range0 Try.underlying25 rfl (by kernel_rfl)) rfl ?_
  have o3 := HO3.out
  have o4 := HO4.out
  rw [Nat.zero_add, List.nil_append, ← N1.out] at o3
  rw [Nat.zero_add, List.nil_append, ← N2.out] at o4
  refine ⟨A3, c3, A4, c4, by rw [N1.out, N2.out], ?_, ?_, ((hb4.setCell (by (first | omega | (simp; done) | (simp; omega))) _).setCell (by (first | omega | (simp; done) | (simp; omega))) _).setCell (by (first | omega | (simp; done) | (simp; omega))) _⟩
  · exact (((own_rows o3).nw_keeps K3.out (by decide)).nw_below K4.out).nw_keeps HK.out (by decide)
  · exact (own_rows o4).nw_keeps HK.out (by decide)
end Go.Proofs.Ytkdmfjpfanmgmaa
