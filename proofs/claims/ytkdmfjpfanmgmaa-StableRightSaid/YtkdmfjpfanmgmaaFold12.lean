/- The walks of right and of what it calls. Printed by mkfold12.py. -/
import Derived.Test.YtkdmfjpfanmgmaaFold10
import Derived.Test.YtkdmfjpfanmgmaaCap
namespace Go.Proofs.Ytkdmfjpfanmgmaa
open Go.RowKit Le
set_option maxRecDepth 100000
set_option linter.unusedSimpArgs false
set_option linter.unusedVariables false

/-- A record's cells, whatever they are. -/
def RcdAt (w : World) (S : Nat → Prop) (r : Rcd) (vs : List Value) : Prop := Cels w S shRecord r.da vs
theorem nat_ne0 (E : Nat) : ((E : Int) != 0) = decide (E ≠ 0) := by
  by_cases h : E = 0
  · subst h; rfl
  · have : ¬ ((E : Int) = 0) := by omega
    simp [h, this]

set_option maxHeartbeats 1600000 in
theorem right1_any (r : Rcd) (vs : List Value) (w : World) (h : Cels w (· < w.heap.size) shRecord r.da vs) :
    Calls Try.prog 29 #[.agg vs.toArray] w (TestEnd w (decide (putE r ≠ 0))) := by
  have hi : (Try.prog.info? 36).map (·.size) = some vs.length := by rw [h.len.2]; kernel_rfl
  replace hi := Lib.hid hi
  have HC := Lib.hid h
  have HB := Lib.hid (Blk.new w 36 vs)
  clear h
  go_enter Try.func29, Try.ntmps29
  go_wp2_with (with_reducible refine wpList_load_blk rfl 36 _ rfl w.heap.size rfl HB rfl Try.underlying36 rfl hi ?_)
  refine at_below w _ (by repeat (first | with_reducible exact Below.refl _ _ | with_reducible assumption | (with_reducible refine Below.setCell ?_ (by dsimp only; (first | omega | (simp; done) | (simp; omega))) _) | (with_reducible refine Below.alloc ?_ (by (first | omega | (simp; done) | (simp; omega))) _) | with_reducible refine Below.drew ?_)) fun HBx => ?_
  refine (wput_Record r.da vs _ ((HC.out.below HBx).more (by (first | omega | (simp; done) | (simp; omega)))) (record_le _)).mono ?_
  rintro e w1 ⟨⟨A, n, c, rfl, _⟩, hb⟩
  have HB1 := Lib.hid (HBx.trans (hb.mono (by (first | omega | (simp; done) | (simp; omega)))))
  clear hb HBx
  change Hid _ at HB1
  have HE : Hid (((lays shRecord r.da ([], 0)).2 : Nat) = putE r) := Lib.hid rfl
  rw [HE.out]
  have t := nat_ne0 (putE r)
  generalize putE r = E at *
  obtain ⟨b, hb⟩ : ∃ b, decide (E ≠ 0) = b := ⟨_, rfl⟩
  rw [hb] at t
  have HQ := Lib.hid hb
  clear hb HE
  go_wp2
  go_ret
  exact ⟨by rw [HQ.out]; rfl, HB1.out⟩

/-- The elements of a list of records. -/
theorem recs_at {w : World} {S : Nat → Prop} {l : List Rcd} {A : Option Addr} (h : RowsAt w S shRecord (l.map Rcd.da) A) {j : Nat} (hj : j < l.length) :
    ∃ ad vs, A = some ad ∧ S ad.block ∧ Cels w S shRecord l[j].da vs ∧ ∀ i u, vs[i]? = some u → w.cell? (ad.add (j * 15 + i)) = some u := by
  obtain ⟨ad, e, hS, h⟩ := h (by rw [List.length_map]; omega)
  obtain ⟨vs, h1, h2⟩ := h j l[j].da (by simp [hj])
  exact ⟨ad, vs, e, hS, h1, h2⟩
theorem add_block (ad : Addr) (k : Nat) : ad.add k = ⟨ad.block, ad.off + k, ad.spot⟩ ∨ (0 < k ∧ ad.add k = ⟨ad.block, ad.off + k, none⟩) := by
  unfold Addr.add
  by_cases h : k = 0
  · left; subst h; rw [if_pos rfl]; rfl
  · right; rw [if_neg h]; exact ⟨by omega, rfl⟩

set_option maxHeartbeats 3200000 in
theorem index_any (l : List Rcd) (A : Option Addr) (c : Nat) (w : World) (h : RowsAt w (· < w.heap.size) shRecord (l.map Rcd.da) A) (h0 : ∀ ad, A = some ad → ∃ g, ad = ⟨g, 0, none⟩) (hl : l.length ≤ 1099511627776) :
    Calls Try.prog 46 #[.slice A l.length c, .func (.func 29) #[] #[]] w fun e w' => ∃ z : Int, e = .returned (.int .i64 z) ∧ (decide (0 ≤ z) = l.any fun r => decide (putE r ≠ 0)) ∧ Below w.heap.size w w' := by
  have HR := Lib.hid h
  clear h
  go_enter Try.func46, Try.ntmps46
  go_wp2
  go_loopw [8] (fun i wr => ∃ j : Nat, j ≤ l.length ∧ i = .int .i64 j ∧ Hid (Below w.heap.size w wr) ∧ Hid ((l.take j).any (fun r => decide (putE r ≠ 0)) = false)) (fun i _ => l.length - (intOf i).toNat)
  case atStart => exact ⟨0, Nat.zero_le _, rfl, Lib.hid (Below.refl _ _), Lib.hid rfl⟩
  case round =>
    obtain ⟨j, hj, rfl, HBw, HE⟩ := hrel
    by_cases hlt : j < l.length
    · obtain ⟨ad, vs, rfl, hS, hC, hcell⟩ := recs_at (HR.out.below HBw.out) hlt
      obtain ⟨g, rfl⟩ := h0 _ rfl
      have HT : Hid ((l.take (j + 1)).any (fun r => decide (putE r ≠ 0)) = ((l.take j).any (fun r => decide (putE r ≠ 0)) || decide (putE l[j] ≠ 0))) := Lib.hid (by rw [List.take_succ_eq_append_getElem hlt, List.any_append]; simp)
      have HN : Hid (decide (putE l[j] ≠ 0) = true → (l.any fun r => decide (putE r ≠ 0)) = true) := Lib.hid (fun h => List.any_eq_true.2 ⟨_, List.getElem_mem hlt, h⟩)
      generalize l[j] = r at *
      have hi : (Try.prog.info? 36).map (·.size) = some vs.length := by rw [hC.len.2]; kernel_rfl
      replace hi := Lib.hid hi
      have HC := Lib.hid hC
      have HG : Hid (wr.rangeAt g (j * 15) vs) := Lib.hid (fun i u hu => by have := hcell i u hu; rwa [Addr.add_mid, Nat.zero_add] at this)
      have hlt2 := HBw.out.size
      clear hC hcell h0
      go_wp2_with (first | (with_reducible refine wpList_load_mid rfl 36 _ rfl g (j * 15) rfl vs _ HG.out Try.underlying36 rfl hi.out ?_) | fail)
      refine (right1_any r vs _ (HC.out.more hlt2)).mono ?_
      generalize hb0 : decide (putE r ≠ 0) = b at HT HN
      rintro e w2 ⟨rfl, hb⟩
      have HB2 := Lib.hid (HBw.out.trans (hb.mono hlt2))
      clear hb hb0
      cases b
      · have HT1 : Hid ((l.take (j + 1)).any (fun r => decide (putE r ≠ 0)) = false) := Lib.hid (by rw [HT.out, HE.out]; rfl)
        go_wp2
        go_roundw
        case rel => exact ⟨j + 1, by omega, by go_num, HB2, HT1⟩
        case measure => simp [intOf]; omega
      · have HF := Lib.hid (HN.out rfl)
        go_wp2
        go_ret
        exact ⟨j, rfl, by rw [HF.out]; exact decide_eq_true (by omega), HB2.out⟩
    · obtain rfl : j = l.length := by omega
      rw [List.take_length] at HE
      go_wp2
      go_ret
      exact ⟨-1, rfl, by rw [HE.out]; rfl, HBw.out⟩

set_option maxHeartbeats 1600000 in
theorem contains_any (l : List Rcd) (A : Option Addr) (c : Nat) (w : World) (h : RowsAt w (· < w.heap.size) shRecord (l.map Rcd.da) A) (h0 : ∀ ad, A = some ad → ∃ g, ad = ⟨g, 0, none⟩) (hl : l.length ≤ 1099511627776) :
    Calls Try.prog 27 #[.slice A l.length c, .func (.func 29) #[] #[]] w (TestEnd w (l.any fun r => decide (putE r ≠ 0))) := by
  go_enter Try.func27, Try.ntmps27
  go_wp2_with fail
  obtain ⟨b, hb0⟩ : ∃ b, (l.any fun r => decide (putE r ≠ 0)) = b := ⟨_, rfl⟩
  refine (index_any l A c w h h0 hl).mono ?_
  rintro e w1 ⟨z, rfl, hz, hb⟩
  rw [hb0] at hz
  have HQ := Lib.hid hb0
  clear hb0
  have HB := Lib.hid hb
  have HZ := Lib.hid hz
  clear hb h h0
  go_wp2
  go_ret
  exact ⟨by rw [HQ.out, ← HZ.out]; rfl, HB.out⟩

theorem wr_wrap (n : Int) : wr n = wrap64 n := by
  unfold wr i64w u64w wrap64
  split <;> omega
/-- The first j entries stand in a row. -/
def okRow (s : Int) (l : List Ent) (j : Nat) : Prop := ∀ (i : Nat) (e : Ent), (l.take j)[i]? = some e → e.idx = wrap64 (wrap64 (s + 1) + (i : Int))
theorem okRow_zero (s : Int) (l : List Ent) : okRow s l 0 := fun i e h => by simp at h
theorem okRow_succ {s : Int} {l : List Ent} {j : Nat} (h : okRow s l j) (hj : j < l.length) (he : (l[j]).idx = wrap64 (wrap64 (s + 1) + (j : Int))) : okRow s l (j + 1) := fun i e hi => by
  rw [List.take_succ_eq_append_getElem hj] at hi
  by_cases hlt : i < (l.take j).length
  · rw [List.getElem?_append_left hlt] at hi
    exact h i e hi
  · rw [List.getElem?_append_right (by omega)] at hi
    have hl : (l.take j).length = j := by rw [List.length_take]; omega
    have h2 : i - (l.take j).length < 1 := by
      rcases Nat.lt_or_ge (i - (l.take j).length) 1 with h3 | h3
      · exact h3
      · rw [List.getElem?_eq_none (by simpa using h3)] at hi; cases hi
    obtain rfl : i = j := by omega
    rw [hl, Nat.sub_self] at hi
    simp at hi
    rw [← hi]
    exact he
theorem inRow_ok (s : Int) (l : List Ent) : inRow s 0 l = true ↔ okRow s l l.length := by
  rw [inRow_iff]
  unfold okRow
  rw [List.take_length]
  refine ⟨fun h i e hi => ?_, fun h i e hi => ?_⟩
  · have := h i e hi
    rw [wr_wrap, wr_wrap, Nat.zero_add] at this
    exact this
  · have := h i e hi
    rw [wr_wrap, wr_wrap, Nat.zero_add]
    exact this
theorem rightP_row {k : Kep} {j : Nat} (hj : j < k.ents.length) (h : (k.ents[j]).idx ≠ wrap64 (wrap64 (k.snp.idx + 1) + (j : Int))) : rightP k = false := by
  have h1 : inRow k.snp.idx 0 k.ents = false := by
    cases hi : inRow k.snp.idx 0 k.ents with
    | false => rfl
    | true =>
      have := (inRow_ok _ _).1 hi j k.ents[j] (by rw [List.take_length]; simp [hj])
      exact absurd this h
  simp [rightP, h1]
theorem rightP_big {k : Kep} (h : 10000 < k.ents.length) : rightP k = false := by
  have : decide (k.ents.length ≤ 10000) = false := decide_eq_false (by omega)
  simp [rightP, this]
theorem rightP_one {k : Kep} (h : k.snp.idx < 1) (hz : k.snp ≠ .zero) : rightP k = false := by simp [rightP, h, hz]
theorem any_all (l : List Rcd) : (l.all fun r => putE r == 0) = !(l.any fun r => decide (putE r ≠ 0)) := by
  induction l with
  | nil => rfl
  | cons a l ih => simp only [List.all_cons, List.any_cons, ih, Bool.not_or]; by_cases h : putE a = 0 <;> simp [h]
theorem rightP_end {k : Kep} (h1 : ¬ 10000 < k.ents.length) (h2 : k.snp = .zero ∨ 1 ≤ k.snp.idx) (h3 : okRow k.snp.idx k.ents k.ents.length) : rightP k = !((recs k).any fun r => decide (putE r ≠ 0)) := by
  have e1 : decide (k.ents.length ≤ 10000) = true := decide_eq_true (by omega)
  have e3 := (inRow_ok _ _).2 h3
  rw [← any_all]
  unfold rightP
  rw [e1, e3]
  rcases h2 with h2 | h2
  · simp [h2]
  · have e2 : decide (k.snp.idx < 1) = false := decide_eq_false (by omega)
    simp [e2]

set_option maxHeartbeats 3200000 in
theorem right_any (k : Kep) (A : Option Addr) (c : Nat) (B : Option Addr) (d : Nat) (E : Option Addr) (n : Nat) (w : World) (h : KepAt w (· < w.heap.size) k A B E) (hs : k.Small) :
    Calls Try.prog 14 #[.agg (k.cs A c B d E n).toArray] w (TestEnd w (rightP k)) := by
  unfold Kep.cs
  have P0 := Lib.hid (Blk.new w 30 [.int .i64 k.term, .int .i64 k.vote, .int .i64 k.snp.idx, .int .i64 k.snp.term, .slice A k.snp.v.length c, .slice B k.snp.l.length d, .string (text k.snp.b), .slice E k.ents.length n])
  have HA := Lib.hid h
  have HS := Lib.hid hs
  have hn := hs.n
  clear h hs
  obtain ⟨r, hr⟩ : ∃ r, rightP k = r := ⟨_, rfl⟩
  rw [hr]
  have HR := Lib.hid hr
  clear hr
  by_cases h1 : 10000 < k.ents.length
  · have HF : Hid (r = false) := Lib.hid (by rw [← HR.out]; exact rightP_big h1)
    go_enter Try.func14, Try.ntmps14
    go_wp2
    go_ret
    exact ⟨by rw [HF.out]; rfl, (by repeat (first | with_reducible exact Below.refl _ _ | with_reducible assumption | (with_reducible refine Below.setCell ?_ (by dsimp only; (first | omega | (simp; done) | (simp; omega))) _) | (with_reducible refine Below.alloc ?_ (by (first | omega | (simp; done) | (simp; omega))) _) | with_reducible refine Below.drew ?_))⟩
  by_cases h2 : k.snp.idx < 1
  · by_cases hz : k.snp = .zero
    · have HD : Hid (decide (k.snp = .zero) = true) := Lib.hid (decide_eq_true hz)
      have H2 : Hid (k.snp = .zero ∨ 1 ≤ k.snp.idx) := Lib.hid (.inl hz)
      clear hz
      go_enter Try.func14, Try.ntmps14
      go_wp2_with fail
      refine at_below w _ (by repeat (first | with_reducible exact Below.refl _ _ | with_reducible assumption | (with_reducible refine Below.setCell ?_ (by dsimp only; (first | omega | (simp; done) | (simp; omega))) _) | (with_reducible refine Below.alloc ?_ (by (first | omega | (simp; done) | (simp; omega))) _) | with_reducible refine Below.drew ?_)) fun HBx => ?_
      refine (noSnap_any k.snp A c B d _ HS.out.s).mono ?_
      rw [HD.out]
      rintro e w1 ⟨rfl, hb⟩
      have R0 := Lib.hid (P0.out.below hb P0.out.lt)
      have HBw := Lib.hid (HBx.trans (hb.mono (by (first | omega | (simp; done) | (simp; omega)))))
      have a7 : w1.cell? ⟨w.heap.size, 7, none⟩ = some (.slice E k.ents.length n) := R0.out.cell 7
      clear hb HBx P0 HD
      go_wp2
      go_loopw [24] (fun i wr => ∃ j : Nat, j ≤ k.ents.length ∧ i = .int .i64 j ∧ Hid (Blk wr w.heap.size 30 [.int .i64 k.term, .int .i64 k.vote, .int .i64 k.snp.idx, .int .i64 k.snp.term, .slice A k.snp.v.length c, .slice B k.snp.l.length d, .string (text k.snp.b), .slice E k.ents.length n]) ∧ Hid (Below w.heap.size w wr) ∧ Hid (okRow k.snp.idx k.ents j)) (fun i _ => k.ents.length - (intOf i).toNat)
      case atStart => exact ⟨0, Nat.zero_le _, rfl, R0, HBw, Lib.hid (okRow_zero _ _)⟩
      case round =>
        clear R0 HBw
        obtain ⟨j, hj, rfl, R0, HBw, HE⟩ := hrel
        have l0 := HBw.out.size
        have l1 := R0.out.lt
        by_cases hlt : j < k.ents.length
        · obtain ⟨ad, A3, c3, B3, d3, rfl, _, e1, e2, hcell⟩ := ents_at (HA.out.e.below HBw.out) hlt
          have HX : Hid (∀ x, x = k.ents[j] → x.idx = wrap64 (wrap64 (k.snp.idx + 1) + j) → okRow k.snp.idx k.ents (j + 1)) := Lib.hid (fun x e h => okRow_succ HE.out hlt (by rw [← e]; exact h))
          have HY : Hid (∀ x, x = k.ents[j] → x.idx ≠ wrap64 (wrap64 (k.snp.idx + 1) + j) → r = false) := Lib.hid (fun x e h => by rw [← HR.out]; exact rightP_row hlt (by rw [← e]; exact h))
          obtain ⟨x, hx⟩ : ∃ x, x = k.ents[j] := ⟨_, rfl⟩
          rw [← hx] at hcell
          have HX2 := Lib.hid (HX.out x hx)
          have HY2 := Lib.hid (HY.out x hx)
          unfold Ent.cs at hcell
          have hc0 : wr.cell? (ad.add (j * 6)) = some (.int .i64 x.idx) := hcell 0 _ rfl
          have hc1 : wr.cell? ⟨(ad.add (j * 6)).block, (ad.add (j * 6)).off + 1, none⟩ = some (.int .i64 x.term) := by rw [← add_field ad (j * 6) 1 (by decide)]; exact hcell 1 _ rfl
          have hc2 : wr.cell? ⟨(ad.add (j * 6)).block, (ad.add (j * 6)).off + 2, none⟩ = some (.int .i64 x.kind) := by rw [← add_field ad (j * 6) 2 (by decide)]; exact hcell 2 _ rfl
          have hc3 : wr.cell? ⟨(ad.add (j * 6)).block, (ad.add (j * 6)).off + 3, none⟩ = some (.slice A3 x.v.length c3) := by rw [← add_field ad (j * 6) 3 (by decide)]; exact hcell 3 _ rfl
          have hc4 : wr.cell? ⟨(ad.add (j * 6)).block, (ad.add (j * 6)).off + 4, none⟩ = some (.slice B3 x.l.length d3) := by rw [← add_field ad (j * 6) 4 (by decide)]; exact hcell 4 _ rfl
          have hc5 : wr.cell? ⟨(ad.add (j * 6)).block, (ad.add (j * 6)).off + 5, none⟩ = some (.string (text x.b)) := by rw [← add_field ad (j * 6) 5 (by decide)]; exact hcell 5 _ rfl
          have p2 : wr.cell? ⟨w.heap.size, 2, none⟩ = some (.int .i64 k.snp.idx) := R0.out.cell 2
          clear hcell e1 e2 HX HY hx
          by_cases hq : x.idx = wrap64 (wrap64 (k.snp.idx + 1) + j)
          · have HX3 := Lib.hid (HX2.out hq)
            have R1 := Lib.hid (R0.out.alloc (.cells #[.int .i64 x.idx, .int .i64 x.term, .int .i64 x.kind, .slice A3 x.v.length c3, .slice B3 x.l.length d3, .string (text x.b)] 34))
            have HB1 := Lib.hid (HBw.out.alloc l0 (.cells #[.int .i64 x.idx, .int .i64 x.term, .int .i64 x.kind, .slice A3 x.v.length c3, .slice B3 x.l.length d3, .string (text x.b)] 34))
            have t : (x.idx != wrap64 (wrap64 (k.snp.idx + 1) + j)) = false := by simpa using hq
            clear hq HX2 HY2
            go_wp2
            go_roundw
            case rel => exact ⟨j + 1, by omega, by go_num, R1, HB1, HX3⟩
            case measure => simp [intOf]; omega
          · have HF := Lib.hid (HY2.out hq)
            have HB1 := Lib.hid (HBw.out.alloc l0 (.cells #[.int .i64 x.idx, .int .i64 x.term, .int .i64 x.kind, .slice A3 x.v.length c3, .slice B3 x.l.length d3, .string (text x.b)] 34))
            have t : (x.idx != wrap64 (wrap64 (k.snp.idx + 1) + j)) = true := by simpa using hq
            clear hq HX2 HY2
            go_wp2
            go_ret
            exact ⟨by rw [HF.out]; rfl, HB1.out⟩
        · obtain rfl : j = k.ents.length := by omega
          have HF : Hid (r = !((recs k).any fun r => decide (putE r ≠ 0))) := Lib.hid (by rw [← HR.out]; exact rightP_end h1 H2.out HE.out)
          have HI : Hid ((Try.prog.info? 30).map (·.size) = some 8) := Lib.hid (by kernel_rfl)
          go_wp2_with (with_reducible refine wpList_load_blk rfl 30 _ rfl w.heap.size rfl R0 (by simp) Try.underlying30 rfl HI ?_)
          refine (records_any k A c B d E n _ ((HA.out.below HBw.out).more l0) HS.out).mono ?_
          rintro e w2 ⟨A5, c5, rfl, hr, h0, hb⟩
          have HB2 := Lib.hid (HBw.out.trans (hb.mono l0))
          have HRR := Lib.hid hr
          have H0 := Lib.hid h0
          clear hb hr h0
          go_wp2_with fail
          refine (contains_any (recs k) A5 c5 _ HRR.out H0.out (by have := recs_len k; omega)).mono ?_
          generalize hq : ((recs k).any fun r => decide (putE r ≠ 0)) = b at HF
          rintro e w3 ⟨rfl, hb⟩
          have HB3 := Lib.hid (HB2.out.trans (hb.mono HB2.out.size))
          clear hb hq HRR H0
          go_wp2
          go_ret
          exact ⟨by rw [HF.out]; rfl, HB3.out⟩
    · have HD : Hid (decide (k.snp = .zero) = false) := Lib.hid (decide_eq_false hz)
      have HF : Hid (r = false) := Lib.hid (by rw [← HR.out]; exact rightP_one h2 hz)
      clear hz
      go_enter Try.func14, Try.ntmps14
      go_wp2_with fail
      refine at_below w _ (by repeat (first | with_reducible exact Below.refl _ _ | with_reducible assumption | (with_reducible refine Below.setCell ?_ (by dsimp only; (first | omega | (simp; done) | (simp; omega))) _) | (with_reducible refine Below.alloc ?_ (by (first | omega | (simp; done) | (simp; omega))) _) | with_reducible refine Below.drew ?_)) fun HBx => ?_
      refine (noSnap_any k.snp A c B d _ HS.out.s).mono ?_
      rw [HD.out]
      rintro e w1 ⟨rfl, hb⟩
      have HBw := Lib.hid (HBx.trans (hb.mono (by (first | omega | (simp; done) | (simp; omega)))))
      clear hb HBx P0 HD
      go_wp2
      go_ret
      exact ⟨by rw [HF.out]; rfl, HBw.out⟩
  · have H2 : Hid (k.snp = .zero ∨ 1 ≤ k.snp.idx) := Lib.hid (.inr (by omega))
    have R0 := P0
    have HBw : Hid (Below w.heap.size w (w.alloc (.cells #[.int .i64 k.term, .int .i64 k.vote, .int .i64 k.snp.idx, .int .i64 k.snp.term, .slice A k.snp.v.length c, .slice B k.snp.l.length d, .string (text k.snp.b), .slice E k.ents.length n] 30))) := Lib.hid (by repeat (first | with_reducible exact Below.refl _ _ | with_reducible assumption | (with_reducible refine Below.setCell ?_ (by dsimp only; (first | omega | (simp; done) | (simp; omega))) _) | (with_reducible refine Below.alloc ?_ (by (first | omega | (simp; done) | (simp; omega))) _) | with_reducible refine Below.drew ?_))
    go_enter Try.func14, Try.ntmps14
    go_wp2
    go_loopw [24] (fun i wr => ∃ j : Nat, j ≤ k.ents.length ∧ i = .int .i64 j ∧ Hid (Blk wr w.heap.size 30 [.int .i64 k.term, .int .i64 k.vote, .int .i64 k.snp.idx, .int .i64 k.snp.term, .slice A k.snp.v.length c, .slice B k.snp.l.length d, .string (text k.snp.b), .slice E k.ents.length n]) ∧ Hid (Below w.heap.size w wr) ∧ Hid (okRow k.snp.idx k.ents j)) (fun i _ => k.ents.length - (intOf i).toNat)
    case atStart => exact ⟨0, Nat.zero_le _, rfl, R0, HBw, Lib.hid (okRow_zero _ _)⟩
    case round =>
      clear R0 HBw
      obtain ⟨j, hj, rfl, R0, HBw, HE⟩ := hrel
      have l0 := HBw.out.size
      have l1 := R0.out.lt
      by_cases hlt : j < k.ents.length
      · obtain ⟨ad, A3, c3, B3, d3, rfl, _, e1, e2, hcell⟩ := ents_at (HA.out.e.below HBw.out) hlt
        have HX : Hid (∀ x, x = k.ents[j] → x.idx = wrap64 (wrap64 (k.snp.idx + 1) + j) → okRow k.snp.idx k.ents (j + 1)) := Lib.hid (fun x e h => okRow_succ HE.out hlt (by rw [← e]; exact h))
        have HY : Hid (∀ x, x = k.ents[j] → x.idx ≠ wrap64 (wrap64 (k.snp.idx + 1) + j) → r = false) := Lib.hid (fun x e h => by rw [← HR.out]; exact rightP_row hlt (by rw [← e]; exact h))
        obtain ⟨x, hx⟩ : ∃ x, x = k.ents[j] := ⟨_, rfl⟩
        rw [← hx] at hcell
        have HX2 := Lib.hid (HX.out x hx)
        have HY2 := Lib.hid (HY.out x hx)
        unfold Ent.cs at hcell
        have hc0 : wr.cell? (ad.add (j * 6)) = some (.int .i64 x.idx) := hcell 0 _ rfl
        have hc1 : wr.cell? ⟨(ad.add (j * 6)).block, (ad.add (j * 6)).off + 1, none⟩ = some (.int .i64 x.term) := by rw [← add_field ad (j * 6) 1 (by decide)]; exact hcell 1 _ rfl
        have hc2 : wr.cell? ⟨(ad.add (j * 6)).block, (ad.add (j * 6)).off + 2, none⟩ = some (.int .i64 x.kind) := by rw [← add_field ad (j * 6) 2 (by decide)]; exact hcell 2 _ rfl
        have hc3 : wr.cell? ⟨(ad.add (j * 6)).block, (ad.add (j * 6)).off + 3, none⟩ = some (.slice A3 x.v.length c3) := by rw [← add_field ad (j * 6) 3 (by decide)]; exact hcell 3 _ rfl
        have hc4 : wr.cell? ⟨(ad.add (j * 6)).block, (ad.add (j * 6)).off + 4, none⟩ = some (.slice B3 x.l.length d3) := by rw [← add_field ad (j * 6) 4 (by decide)]; exact hcell 4 _ rfl
        have hc5 : wr.cell? ⟨(ad.add (j * 6)).block, (ad.add (j * 6)).off + 5, none⟩ = some (.string (text x.b)) := by rw [← add_field ad (j * 6) 5 (by decide)]; exact hcell 5 _ rfl
        have p2 : wr.cell? ⟨w.heap.size, 2, none⟩ = some (.int .i64 k.snp.idx) := R0.out.cell 2
        clear hcell e1 e2 HX HY hx
        by_cases hq : x.idx = wrap64 (wrap64 (k.snp.idx + 1) + j)
        · have HX3 := Lib.hid (HX2.out hq)
          have R1 := Lib.hid (R0.out.alloc (.cells #[.int .i64 x.idx, .int .i64 x.term, .int .i64 x.kind, .slice A3 x.v.length c3, .slice B3 x.l.length d3, .string (text x.b)] 34))
          have HB1 := Lib.hid (HBw.out.alloc l0 (.cells #[.int .i64 x.idx, .int .i64 x.term, .int .i64 x.kind, .slice A3 x.v.length c3, .slice B3 x.l.length d3, .string (text x.b)] 34))
          have t : (x.idx != wrap64 (wrap64 (k.snp.idx + 1) + j)) = false := by simpa using hq
          clear hq HX2 HY2
          go_wp2
          go_roundw
          case rel => exact ⟨j + 1, by omega, by go_num, R1, HB1, HX3⟩
          case measure => simp [intOf]; omega
        · have HF := Lib.hid (HY2.out hq)
          have HB1 := Lib.hid (HBw.out.alloc l0 (.cells #[.int .i64 x.idx, .int .i64 x.term, .int .i64 x.kind, .slice A3 x.v.length c3, .slice B3 x.l.length d3, .string (text x.b)] 34))
          have t : (x.idx != wrap64 (wrap64 (k.snp.idx + 1) + j)) = true := by simpa using hq
          clear hq HX2 HY2
          go_wp2
          go_ret
          exact ⟨by rw [HF.out]; rfl, HB1.out⟩
      · obtain rfl : j = k.ents.length := by omega
        have HF : Hid (r = !((recs k).any fun r => decide (putE r ≠ 0))) := Lib.hid (by rw [← HR.out]; exact rightP_end h1 H2.out HE.out)
        have HI : Hid ((Try.prog.info? 30).map (·.size) = some 8) := Lib.hid (by kernel_rfl)
        go_wp2_with (with_reducible refine wpList_load_blk rfl 30 _ rfl w.heap.size rfl R0 (by simp) Try.underlying30 rfl HI ?_)
        refine (records_any k A c B d E n _ ((HA.out.below HBw.out).more l0) HS.out).mono ?_
        rintro e w2 ⟨A5, c5, rfl, hr, h0, hb⟩
        have HB2 := Lib.hid (HBw.out.trans (hb.mono l0))
        have HRR := Lib.hid hr
        have H0 := Lib.hid h0
        clear hb hr h0
        go_wp2_with fail
        refine (contains_any (recs k) A5 c5 _ HRR.out H0.out (by have := recs_len k; omega)).mono ?_
        generalize hq : ((recs k).any fun r => decide (putE r ≠ 0)) = b at HF
        rintro e w3 ⟨rfl, hb⟩
        have HB3 := Lib.hid (HB2.out.trans (hb.mono HB2.out.size))
        clear hb hq HRR H0
        go_wp2
        go_ret
        exact ⟨by rw [HF.out]; rfl, HB3.out⟩
end Go.Proofs.Ytkdmfjpfanmgmaa
