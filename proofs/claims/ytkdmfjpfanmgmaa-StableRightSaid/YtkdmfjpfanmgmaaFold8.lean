/- The walks of the reference's comparisons. Printed by mkfold8.py. -/
import Derived.Test.YtkdmfjpfanmgmaaFold7
import Derived.BigQuiet
import Derived.Deep.QuietTactic
namespace Go.Proofs.Ytkdmfjpfanmgmaa
open Go.RowKit Le
set_option maxRecDepth 100000
set_option linter.unusedSimpArgs false
set_option linter.unusedVariables false

theorem itake_ne {l1 l2 : List Int} {j : Nat} (h1 : j < l1.length) (h2 : j < l2.length) (h : (l1[j]'h1) ≠ (l2[j]'h2)) : l1 ≠ l2 := by
  rintro rfl
  exact h rfl
theorem itake_snoc_eq {l1 l2 : List Int} {j : Nat} (h1 : j < l1.length) (h2 : j < l2.length) (h : l1.take j = l2.take j) (he : (l1[j]'h1) = (l2[j]'h2)) : l1.take (j + 1) = l2.take (j + 1) := by
  rw [List.take_succ_eq_append_getElem h1, List.take_succ_eq_append_getElem h2, h, he]
theorem i64s_at (l : List Int) (i : Nat) (h : i < l.length) : (i64s l)[i]? = some (.int .i64 (l[i]'h)) := by simp [i64s, h]
theorem below_drewN (w : World) (m : Nat) : Below w.heap.size w (w.drewN m) := by
  induction m with
  | zero => exact Below.refl _ _
  | succ m ih => exact ih.drew

set_option maxHeartbeats 1600000 in
theorem sets_any (A1 A2 : Option Addr) (c1 c2 : Nat) (l1 l2 : List Int) (w : World) (h1 : RowsAt w (· < w.heap.size) [.num] (nums l1) A1) (h2 : RowsAt w (· < w.heap.size) [.num] (nums l2) A2) (hn : l1.length ≤ 1048576) (hn2 : l2.length ≤ 1048576) :
    Calls Try.prog 54 #[.slice A1 l1.length c1, .slice A2 l2.length c2] w (TestEnd w (decide (l1 = l2))) := by
  replace h1 := h1.lt_reads
  replace h2 := h2.lt_reads
  generalize e1 : l1.length = n1 at *
  generalize e2 : l2.length = n2 at *
  have L1 := Lib.hid e1
  have L2 := Lib.hid e2
  clear e1 e2
  by_cases hne : n1 = n2
  · subst hne
    go_enter Try.func54, Try.ntmps54
    go_wp2
    go_loopw [5] (fun i wr => ∃ (j m : Nat), j ≤ n1 ∧ i = .int .i64 j ∧ wr = w.drewN m ∧ Hid (l1.take j = l2.take j)) (fun i _ => n1 - (intOf i).toNat)
    case atStart => exact ⟨0, 0, Nat.zero_le _, rfl, rfl, Lib.hid rfl⟩
    case round =>
      obtain ⟨j, m, hj, rfl, rfl, HE⟩ := hrel
      by_cases hlt : j < n1
      · obtain ⟨a1, hA1, _, hc1⟩ := h1.2 (by omega)
        obtain ⟨a2, hA2, _, hc2⟩ := h2.2 (by omega)
        subst hA1
        subst hA2
        have j1 : j < l1.length := by have := L1.out; omega
        have j2 : j < l2.length := by have := L2.out; omega
        have k1 : w.cell? (a1.add j) = some (.int .i64 (l1[j]'j1)) := hc1 j _ (i64s_at l1 j j1)
        have k2 : w.cell? (a2.add j) = some (.int .i64 (l2[j]'j2)) := hc2 j _ (i64s_at l2 j j2)
        obtain ⟨X, HX⟩ : ∃ X, Hid ((l1[j]'j1) = X) := ⟨_, Lib.hid rfl⟩
        obtain ⟨Y, HY⟩ : ∃ Y, Hid ((l2[j]'j2) = Y) := ⟨_, Lib.hid rfl⟩
        rw [HX.out] at k1
        rw [HY.out] at k2
        have p1 : (j : Int) < (n1 : Int) := by omega
        clear hc1 hc2 h1 h2
        by_cases hXY : X = Y
        · subst hXY
          have HS := Lib.hid (itake_snoc_eq j1 j2 HE.out (HX.out.trans HY.out.symm))
          go_wp2
          go_quiet (fail)
          go_wp2
          go_roundw
          case rel => exact ⟨j + 1, _, by omega, by go_num, rfl, HS⟩
          case measure => simp [intOf]; omega
        · have HN := Lib.hid (itake_ne j1 j2 (fun h => hXY (by rw [← HX.out, ← HY.out, h])))
          have t1 : (X == Y) = false := by simpa using hXY
          have t2 : (X != Y) = true := by simpa using hXY
          go_wp2
          go_quiet (fail)
          go_wp2
          go_ret
          exact ⟨by rw [decide_eq_false HN.out]; rfl, by rw [World.drewN_drewN]; exact below_drewN _ _⟩
      · obtain rfl : j = n1 := by omega
        have HQ : Hid (l1 = l2) := by
          have h := HE.out
          rw [List.take_of_length_le (by have := L1.out; omega), List.take_of_length_le (by have := L2.out; omega)] at h
          exact Lib.hid h
        go_wp2
        go_ret
        exact ⟨by rw [decide_eq_true HQ.out]; rfl, below_drewN _ _⟩
  · have HN : Hid (l1 ≠ l2) := Lib.hid (fun h => hne (by rw [← L1.out, ← L2.out, h]))
    have t0 : ¬ (n1 : Int) = (n2 : Int) := by omega
    have t1 : ((n1 : Int) == (n2 : Int)) = false := by simpa using t0
    have t2 : ((n1 : Int) != (n2 : Int)) = true := by simpa using t0
    clear hne
    go_enter Try.func54, Try.ntmps54
    go_wp2
    go_ret
    exact ⟨by rw [decide_eq_false HN.out]; rfl, Below.refl _ _⟩

set_option maxHeartbeats 1600000 in
theorem Configs_any (l1 l2 m1 m2 : List Int) (A1 B1 A2 B2 : Option Addr) (c1 d1 c2 d2 : Nat) (w : World) (h1 : RowsAt w (· < w.heap.size) [.num] (nums l1) A1) (h2 : RowsAt w (· < w.heap.size) [.num] (nums l2) B1) (h3 : RowsAt w (· < w.heap.size) [.num] (nums m1) A2) (h4 : RowsAt w (· < w.heap.size) [.num] (nums m2) B2)
    (n1 : l1.length ≤ 1048576) (n2 : l2.length ≤ 1048576) (n3 : m1.length ≤ 1048576) (n4 : m2.length ≤ 1048576) :
    Calls Try.prog 44 #[.agg #[.slice A1 l1.length c1, .slice B1 l2.length d1], .agg #[.slice A2 m1.length c2, .slice B2 m2.length d2]] w (TestEnd w (decide (l1 = m1 ∧ l2 = m2))) := by
  have H1 := Lib.hid h1
  have H2 := Lib.hid h2
  have H3 := Lib.hid h3
  have H4 := Lib.hid h4
  have P := blk2 w 25 25 [.slice A1 l1.length c1, .slice B1 l2.length d1] [.slice A2 m1.length c2, .slice B2 m2.length d2]
  have P0 := Lib.hid P.1
  have P1 := Lib.hid P.2
  clear h1 h2 h3 h4 P
  by_cases hb : l1 = m1
  · have he : decide (l1 = m1 ∧ l2 = m2) = decide (l2 = m2) := by simp [hb]
    rw [he]
    generalize hb0 : decide (l2 = m2) = b at *
    replace hb0 := Lib.hid hb0
    have HD : Hid (decide (l1 = m1) = true) := Lib.hid (decide_eq_true hb)
    clear he hb
    go_enter Try.func44, Try.ntmps44
    go_wp2_with fail
    refine at_below w _ (by repeat (first | with_reducible exact Below.refl _ _ | with_reducible assumption | (with_reducible refine Below.setCell ?_ (by dsimp only; (first | omega | (simp; done) | (simp; omega))) _) | (with_reducible refine Below.alloc ?_ (by (first | omega | (simp; done) | (simp; omega))) _) | with_reducible refine Below.drew ?_)) fun HBx => ?_
    refine (sets_any A1 A2 c1 c2 l1 m1 _ ((H1.out.below HBx).more (by (first | omega | (simp; done) | (simp; omega)))) ((H3.out.below HBx).more (by (first | omega | (simp; done) | (simp; omega)))) n1 n3).mono ?_
    rw [HD.out]
    rintro e w1 ⟨rfl, hb⟩
    have z1 : w.heap.size + 1 + 1 ≤ w1.heap.size := by have := hb.size; simpa using this
    have HB1 := Lib.hid (HBx.trans (hb.mono (by (first | omega | (simp; done) | (simp; omega)))))
    have R0 := Lib.hid (P0.out.below hb P0.out.lt)
    have R1 := Lib.hid (P1.out.below hb P1.out.lt)
    have a0 : w1.cell? ⟨w.heap.size, 1, none⟩ = some (.slice B1 l2.length d1) := R0.out.cell 1
    have a1 : w1.cell? ⟨w.heap.size + 1, 1, none⟩ = some (.slice B2 m2.length d2) := R1.out.cell 1
    clear hb HBx
    go_wp2_with fail
    refine (sets_any B1 B2 d1 d2 l2 m2 _ ((H2.out.below HB1.out).more (by (first | omega | (simp; done) | (simp; omega)))) ((H4.out.below HB1.out).more (by (first | omega | (simp; done) | (simp; omega)))) n2 n4).mono ?_
    rw [hb0.out]
    rintro e w2 ⟨rfl, hb⟩
    have HB2 := Lib.hid (HB1.out.trans (hb.mono (by (first | omega | (simp; done) | (simp; omega)))))
    clear hb
    go_wp2
    go_ret
    exact ⟨rfl, HB2.out⟩
  · have he : decide (l1 = m1 ∧ l2 = m2) = false := by simp [hb]
    rw [he]
    have HD : Hid (decide (l1 = m1) = false) := Lib.hid (decide_eq_false hb)
    clear he hb
    go_enter Try.func44, Try.ntmps44
    go_wp2_with fail
    refine at_below w _ (by repeat (first | with_reducible exact Below.refl _ _ | with_reducible assumption | (with_reducible refine Below.setCell ?_ (by dsimp only; (first | omega | (simp; done) | (simp; omega))) _) | (with_reducible refine Below.alloc ?_ (by (first | omega | (simp; done) | (simp; omega))) _) | with_reducible refine Below.drew ?_)) fun HBx => ?_
    refine (sets_any A1 A2 c1 c2 l1 m1 _ ((H1.out.below HBx).more (by (first | omega | (simp; done) | (simp; omega)))) ((H3.out.below HBx).more (by (first | omega | (simp; done) | (simp; omega)))) n1 n3).mono ?_
    rw [HD.out]
    rintro e w1 ⟨rfl, hb⟩
    have HB1 := Lib.hid (HBx.trans (hb.mono (by (first | omega | (simp; done) | (simp; omega)))))
    clear hb HBx
    go_wp2
    go_ret
    exact ⟨rfl, HB1.out⟩

set_option maxHeartbeats 1600000 in
theorem Snaps_any (x y : Snp) (A : Option Addr) (c : Nat) (B : Option Addr) (d : Nat) (A' : Option Addr) (c' : Nat) (B' : Option Addr) (d' : Nat) (w : World)
    (h1 : RowsAt w (· < w.heap.size) [.num] (nums x.v) A) (h2 : RowsAt w (· < w.heap.size) [.num] (nums x.l) B) (h3 : RowsAt w (· < w.heap.size) [.num] (nums y.v) A') (h4 : RowsAt w (· < w.heap.size) [.num] (nums y.l) B') (hs : x.Small) (hs' : y.Small) :
    Calls Try.prog 21 #[.agg (x.cs A c B d).toArray, .agg (y.cs A' c' B' d').toArray] w (TestEnd w (decide (x = y))) := by
  unfold Snp.cs
  have H1 := Lib.hid h1
  have H2 := Lib.hid h2
  have H3 := Lib.hid h3
  have H4 := Lib.hid h4
  clear h1 h2 h3 h4
  by_cases h0 : x.idx = y.idx
  · have r0 := h0
    by_cases h1 : x.term = y.term
    · have r1 := h1
      by_cases h2 : x.b = y.b
      · have e : decide (x = y) = decide (x.v = y.v ∧ x.l = y.l) := by
          apply decide_eq_decide.2
          cases x
          cases y
          simp only [Snp.mk.injEq] at *
          simp [h0, h1, h2]
        rw [e]
        rw [h0, h1, h2]
        clear e h0 h1 h2 r0 r1
        generalize hb0 : decide (x.v = y.v ∧ x.l = y.l) = b at *
        replace hb0 := Lib.hid hb0
        go_enter Try.func21, Try.ntmps21
        go_wp2_with fail
        refine at_below w _ (by repeat (first | with_reducible exact Below.refl _ _ | with_reducible assumption | (with_reducible refine Below.setCell ?_ (by dsimp only; (first | omega | (simp; done) | (simp; omega))) _) | (with_reducible refine Below.alloc ?_ (by (first | omega | (simp; done) | (simp; omega))) _) | with_reducible refine Below.drew ?_)) fun HBx => ?_
        refine (Configs_any x.v x.l y.v y.l A B A' B' c d c' d' _ ((H1.out.below HBx).more (by (first | omega | (simp; done) | (simp; omega)))) ((H2.out.below HBx).more (by (first | omega | (simp; done) | (simp; omega)))) ((H3.out.below HBx).more (by (first | omega | (simp; done) | (simp; omega)))) ((H4.out.below HBx).more (by (first | omega | (simp; done) | (simp; omega)))) hs.v hs.l hs'.v hs'.l).mono ?_
        rw [hb0.out]
        rintro e w1 ⟨rfl, hb⟩
        have HB := Lib.hid (HBx.trans (hb.mono (by (first | omega | (simp; done) | (simp; omega)))))
        clear hb HBx
        go_wp2
        go_ret
        exact ⟨rfl, HB.out⟩
      · have e : decide (x = y) = false := decide_eq_false (by rintro rfl; exact h2 rfl)
        rw [e]
        rw [h0, h1]
        have t0 : text x.b ≠ text y.b := fun h => h2 (by have := congrArg ByteArray.toList h; rwa [text_toList, text_toList] at this)
        have t1 : (x.b == y.b) = false := by simpa using h2
        clear e h0 h1
        go_enter Try.func21, Try.ntmps21
        go_wp2
        go_ret
        exact ⟨rfl, (by repeat (first | with_reducible exact Below.refl _ _ | with_reducible assumption | (with_reducible refine Below.setCell ?_ (by dsimp only; (first | omega | (simp; done) | (simp; omega))) _) | (with_reducible refine Below.alloc ?_ (by (first | omega | (simp; done) | (simp; omega))) _) | with_reducible refine Below.drew ?_))⟩
    · have e : decide (x = y) = false := decide_eq_false (by rintro rfl; exact h1 rfl)
      rw [e]
      rw [h0]
      have t : (x.term == y.term) = false := by simpa using h1
      clear e h0 h1
      go_enter Try.func21, Try.ntmps21
      go_wp2
      go_ret
      exact ⟨rfl, (by repeat (first | with_reducible exact Below.refl _ _ | with_reducible assumption | (with_reducible refine Below.setCell ?_ (by dsimp only; (first | omega | (simp; done) | (simp; omega))) _) | (with_reducible refine Below.alloc ?_ (by (first | omega | (simp; done) | (simp; omega))) _) | with_reducible refine Below.drew ?_))⟩
  · have e : decide (x = y) = false := decide_eq_false (by rintro rfl; exact h0 rfl)
    rw [e]
    have t : (x.idx == y.idx) = false := by simpa using h0
    clear e h0
    go_enter Try.func21, Try.ntmps21
    go_wp2
    go_ret
    exact ⟨rfl, (by repeat (first | with_reducible exact Below.refl _ _ | with_reducible assumption | (with_reducible refine Below.setCell ?_ (by dsimp only; (first | omega | (simp; done) | (simp; omega))) _) | (with_reducible refine Below.alloc ?_ (by (first | omega | (simp; done) | (simp; omega))) _) | with_reducible refine Below.drew ?_))⟩

set_option maxHeartbeats 1600000 in
theorem Entries_any (x y : Ent) (A : Option Addr) (c : Nat) (B : Option Addr) (d : Nat) (A' : Option Addr) (c' : Nat) (B' : Option Addr) (d' : Nat) (w : World)
    (h1 : RowsAt w (· < w.heap.size) [.num] (nums x.v) A) (h2 : RowsAt w (· < w.heap.size) [.num] (nums x.l) B) (h3 : RowsAt w (· < w.heap.size) [.num] (nums y.v) A') (h4 : RowsAt w (· < w.heap.size) [.num] (nums y.l) B') (hs : x.Small) (hs' : y.Small) :
    Calls Try.prog 22 #[.agg (x.cs A c B d).toArray, .agg (y.cs A' c' B' d').toArray] w (TestEnd w (decide (x = y))) := by
  unfold Ent.cs
  have H1 := Lib.hid h1
  have H2 := Lib.hid h2
  have H3 := Lib.hid h3
  have H4 := Lib.hid h4
  clear h1 h2 h3 h4
  by_cases h0 : x.idx = y.idx
  · have r0 := h0
    by_cases h1 : x.term = y.term
    · have r1 := h1
      by_cases h2 : x.kind = y.kind
      · have r2 := h2
        by_cases h3 : x.b = y.b
        · have e : decide (x = y) = decide (x.v = y.v ∧ x.l = y.l) := by
            apply decide_eq_decide.2
            cases x
            cases y
            simp only [Ent.mk.injEq] at *
            simp [h0, h1, h2, h3]
          rw [e]
          rw [h0, h1, h2, h3]
          clear e h0 h1 h2 h3 r0 r1 r2
          generalize hb0 : decide (x.v = y.v ∧ x.l = y.l) = b at *
          replace hb0 := Lib.hid hb0
          go_enter Try.func22, Try.ntmps22
          go_wp2_with fail
          refine at_below w _ (by repeat (first | with_reducible exact Below.refl _ _ | with_reducible assumption | (with_reducible refine Below.setCell ?_ (by dsimp only; (first | omega | (simp; done) | (simp; omega))) _) | (with_reducible refine Below.alloc ?_ (by (first | omega | (simp; done) | (simp; omega))) _) | with_reducible refine Below.drew ?_)) fun HBx => ?_
          refine (Configs_any x.v x.l y.v y.l A B A' B' c d c' d' _ ((H1.out.below HBx).more (by (first | omega | (simp; done) | (simp; omega)))) ((H2.out.below HBx).more (by (first | omega | (simp; done) | (simp; omega)))) ((H3.out.below HBx).more (by (first | omega | (simp; done) | (simp; omega)))) ((H4.out.below HBx).more (by (first | omega | (simp; done) | (simp; omega)))) hs.v hs.l hs'.v hs'.l).mono ?_
          rw [hb0.out]
          rintro e w1 ⟨rfl, hb⟩
          have HB := Lib.hid (HBx.trans (hb.mono (by (first | omega | (simp; done) | (simp; omega)))))
          clear hb HBx
          go_wp2
          go_ret
          exact ⟨rfl, HB.out⟩
        · have e : decide (x = y) = false := decide_eq_false (by rintro rfl; exact h3 rfl)
          rw [e]
          rw [h0, h1, h2]
          have t0 : text x.b ≠ text y.b := fun h => h3 (by have := congrArg ByteArray.toList h; rwa [text_toList, text_toList] at this)
          have t1 : (x.b == y.b) = false := by simpa using h3
          clear e h0 h1 h2
          go_enter Try.func22, Try.ntmps22
          go_wp2
          go_ret
          exact ⟨rfl, (by repeat (first | with_reducible exact Below.refl _ _ | with_reducible assumption | (with_reducible refine Below.setCell ?_ (by dsimp only; (first | omega | (simp; done) | (simp; omega))) _) | (with_reducible refine Below.alloc ?_ (by (first | omega | (simp; done) | (simp; omega))) _) | with_reducible refine Below.drew ?_))⟩
      · have e : decide (x = y) = false := decide_eq_false (by rintro rfl; exact h2 rfl)
        rw [e]
        rw [h0, h1]
        have t : (x.kind == y.kind) = false := by simpa using h2
        clear e h0 h1 h2
        go_enter Try.func22, Try.ntmps22
        go_wp2
        go_ret
        exact ⟨rfl, (by repeat (first | with_reducible exact Below.refl _ _ | with_reducible assumption | (with_reducible refine Below.setCell ?_ (by dsimp only; (first | omega | (simp; done) | (simp; omega))) _) | (with_reducible refine Below.alloc ?_ (by (first | omega | (simp; done) | (simp; omega))) _) | with_reducible refine Below.drew ?_))⟩
    · have e : decide (x = y) = false := decide_eq_false (by rintro rfl; exact h1 rfl)
      rw [e]
      rw [h0]
      have t : (x.term == y.term) = false := by simpa using h1
      clear e h0 h1
      go_enter Try.func22, Try.ntmps22
      go_wp2
      go_ret
      exact ⟨rfl, (by repeat (first | with_reducible exact Below.refl _ _ | with_reducible assumption | (with_reducible refine Below.setCell ?_ (by dsimp only; (first | omega | (simp; done) | (simp; omega))) _) | (with_reducible refine Below.alloc ?_ (by (first | omega | (simp; done) | (simp; omega))) _) | with_reducible refine Below.drew ?_))⟩
  · have e : decide (x = y) = false := decide_eq_false (by rintro rfl; exact h0 rfl)
    rw [e]
    have t : (x.idx == y.idx) = false := by simpa using h0
    clear e h0
    go_enter Try.func22, Try.ntmps22
    go_wp2
    go_ret
    exact ⟨rfl, (by repeat (first | with_reducible exact Below.refl _ _ | with_reducible assumption | (with_reducible refine Below.setCell ?_ (by dsimp only; (first | omega | (simp; done) | (simp; omega))) _) | (with_reducible refine Below.alloc ?_ (by (first | omega | (simp; done) | (simp; omega))) _) | with_reducible refine Below.drew ?_))⟩

end Go.Proofs.Ytkdmfjpfanmgmaa
