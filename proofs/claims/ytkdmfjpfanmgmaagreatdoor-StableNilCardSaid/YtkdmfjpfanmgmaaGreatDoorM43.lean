/- Joined by mkmerge.py from the proof's texts Stb3, Stb4. Conditions: each theorem's own hypotheses. -/
import Derived.Test.YtkdmfjpfanmgmaaGreatDoorM41
import Derived.Test.YtkdmfjpfanmgmaaGreatDoorM42
namespace Go.Proofs.YtkdmfjpfanmgmaaGreatDoor
open Go.RowKit Le Go.Maps
set_option maxRecDepth 100000
set_option linter.unusedSimpArgs false
set_option linter.unusedVariables false
/-! ### Words. -/
/-- Texts are laid behind a log. -/
def appF (f : List UInt8) : List (List UInt8) → Nat → DS → DS
  | [], _, s => s
  | x :: r, o, s => appF f r (o + (12 + x.length)) (wrS f o (frameOf (textB x)) s)
theorem logB_cons (x : List UInt8) (r : List (List UInt8)) : (logB (x :: r)).length = 12 + x.length + (logB r).length := by
  rw [show logB (x :: r) = frameOf (textB x) ++ logB r from by simp [logB, flat], List.length_append, frameOf_length]
  simp [textB]
  omega
theorem appF_snoc (f : List UInt8) : ∀ (ss : List (List UInt8)) (x : List UInt8) (o : Nat) (s : DS), appF f (ss ++ [x]) o s = wrS f (o + (logB ss).length) (frameOf (textB x)) (appF f ss o s)
  | [], x, o, s => by simp [appF, logB, flat]
  | y :: ss, x, o, s => by
    rw [List.cons_append, appF, appF_snoc f ss x, appF, logB_cons]
    congr 1
    omega
/-- States behind which a text may be laid. -/
structure Fit (f : List UInt8) (L : Nat) (s : DS) : Prop where
  small : Small s
  few : s.now.length ≤ 15
  len : ((s.now.get f).getD []).length = L
/-- A record that stands by itself. -/
structure RcOk (r : Rcd) : Prop where
  put : putE r = 0
  ev : r.ent.v = []
  el : r.ent.l = []
  sv : r.snp.v = []
  sl : r.snp.l = []
  len : (rcB r).length ≤ 1000
/-- What begin keeps on its way. -/
structure BgSt (w w' : World) (base d s : Nat) (sc : List Value) (S : DS) : Prop where
  at_ : DiskAt w' base d S.lasts S.now S.cs
  stb : Blk w' s 53 sc
  ge : base ≤ w.heap.size
  bel : Below base w w'
  keeps : Keeps [80, 106, 96] w w'
theorem BgSt.below {w w1 w2 : World} {base d s : Nat} {sc : List Value} {S : DS} (h : BgSt w w1 base d s sc S) (hb : Below w1.heap.size w1 w2) : BgSt w w2 base d s sc S :=
  ⟨h.at_.same (SameD.of_below hb), h.stb.below hb h.stb.lt, h.ge, h.bel.trans (hb.mono (Nat.le_trans h.ge h.bel.size)), h.keeps.then_below hb⟩
theorem BgSt.size {w w1 : World} {base d s : Nat} {sc : List Value} {S : DS} (h : BgSt w w1 base d s sc S) : base ≤ w1.heap.size := Nat.le_trans h.ge h.bel.size
theorem BgSt.drew {w w1 : World} {base d s : Nat} {sc : List Value} {S : DS} (h : BgSt w w1 base d s sc S) : BgSt w w1.drew base d s sc S := h.below (Below.refl _ _).drew
theorem BgSt.dto {w w1 w2 : World} {base d s : Nat} {sc : List Value} {S S' : DS} (h : BgSt w w1 base d s sc S) (g : DiskTo w1 w2 base d S'.lasts S'.now S'.cs) : BgSt w w2 base d s sc S' :=
  ⟨g.at_, h.stb.keeps g.keeps (by decide), h.ge, h.bel.trans g.bel, h.keeps.trans (g.keeps.more (by simp))⟩
theorem BgSt.jto {w w1 w2 : World} {base d s j : Nat} {sc js : List Value} {S S' : DS} (h : BgSt w w1 base d s sc S) (g : JTo w1 w2 base d j js S'.lasts S'.now S'.cs) : BgSt w w2 base d s sc S' :=
  ⟨g.at_, h.stb.keeps g.keeps (by decide), h.ge, h.bel.trans g.bel, h.keeps.trans g.keeps⟩
set_option maxHeartbeats 800000 in
theorem append_bg {w w1 : World} {base d s j : Nat} {sc : List Value} {s2 : DS} {name : List UInt8} {ss : List (List UInt8)} {i : Nat} {x : List UInt8} (h : BgSt w w1 base d s sc (appF (name ++ endL) (ss.take i) 0 s2)) (hj : Blk w1 j 96 (jCs d name (logB (ss.take i)).length 0 0 i 0)) (hge : base ≤ j) (hT : Tab w) (hTb : 3 < base)
    (hl : name.length ≤ 8) (hnl : nameB (name ++ endL) = true) (hx : ss[i]? = some x) (hxl : x.length ≤ 60000) (hf : Fit (name ++ endL) (logB (ss.take i)).length (appF (name ++ endL) (ss.take i) 0 s2)) (hi : i ≤ 1000) :
    Calls Tryz.prog 29 #[.pointer (some ⟨j, 0, none⟩), .string (text x)] w1 fun e w' => e = .returned (.int .i64 0) ∧ BgSt w w' base d s sc (appF (name ++ endL) (ss.take (i + 1)) 0 s2) ∧ Blk w' j 96 (jCs d name (logB (ss.take (i + 1))).length 0 0 (i + 1) 0) ∧ Keeps [80, 106, 96] w1 w' := by
  have ht : ss.take (i + 1) = ss.take i ++ [x] := by
    have hlt := (List.getElem?_eq_some_iff.1 hx).1
    rw [List.take_succ_eq_append_getElem hlt]
    rw [List.getElem?_eq_getElem hlt] at hx
    injection hx with hx
    rw [hx]
  have ha := Append_any h.at_ h.size hj hge (hT.below h.bel hTb) hTb x hxl hl hnl hf.len (by have := hf.small.cs; omega) (by have := hf.small.now; omega) hf.few (by omega)
  refine ha.mono ?_
  rintro e w' ⟨rfl, hjt⟩
  have hS : appF (name ++ endL) (ss.take (i + 1)) 0 s2 = wrS (name ++ endL) (logB (ss.take i)).length (frameOf (textB x)) (appF (name ++ endL) (ss.take i) 0 s2) := by rw [ht, appF_snoc, Nat.zero_add]
  have hL : (logB (ss.take (i + 1))).length = (logB (ss.take i)).length + (12 + x.length) := by rw [ht, logB_snoc, List.length_append, frameOf_length]; simp [textB]; omega
  refine ⟨rfl, ?_, by rw [hL]; exact hjt.blk, hjt.keeps⟩
  rw [hS]
  exact h.jto (S' := wrS (name ++ endL) (logB (ss.take i)).length (frameOf (textB x)) (appF (name ++ endL) (ss.take i) 0 s2)) hjt
theorem row_rec {w w0 : World} {base n c B0 : Nat} {A : Option Addr} {rs : List Rcd} {xs : List Value} (h : w.ownsRow base 33 15 (.slice A n c) n xs) (ht : ThingsO w0 B0 shRecord (rs.map Rcd.da) xs) (hn : rs.length = n) {i : Nat} {r : Rcd} (hr : rs[i]? = some r) :
    ∃ g A3 c3 B3 d3 A4 c4 B4 d4, A = some ⟨g, 0, none⟩ ∧ g < w.heap.size ∧ w.rangeAt g (i * 15) [.int .i64 r.kind, .int .i64 r.term, .int .i64 r.vote, .int .i64 r.ent.idx, .int .i64 r.ent.term, .int .i64 r.ent.kind, .slice A3 r.ent.v.length c3, .slice B3 r.ent.l.length d3, .string (text r.ent.b), .int .i64 r.at_, .int .i64 r.snp.idx, .int .i64 r.snp.term, .slice A4 r.snp.v.length c4, .slice B4 r.snp.l.length d4, .string (text r.snp.b)] := by
  have hi := (List.getElem?_eq_some_iff.1 hr).1
  obtain ⟨vs, hC, hx⟩ := ht i r.da (by rw [List.getElem?_map, hr]; rfl)
  obtain ⟨r', A3, c3, B3, d3, A4, c4, B4, d4, hd, rfl, _⟩ := Rcd.open_ hC
  obtain rfl := Rcd.da_inj hd
  rcases h.2 with ⟨h0, _⟩ | ⟨g, cap', cur, e, hb, hg, h1, h2, h3, h4⟩
  · have := h.1
    omega
  · injection e with e1 e2 e3
    have hB : Blk w g 33 cur.toList := by simpa [Blk] using hg
    refine ⟨g, A3, c3, B3, d3, A4, c4, B4, d4, e1, hB.lt, fun q u hq => ?_⟩
    have hq15 : q < 15 := (List.getElem?_eq_some_iff.1 hq).1
    have h7 := hx q u hq
    rw [show shRecord.length = 15 from rfl, ← h4, List.getElem?_take_of_lt (by omega)] at h7
    exact (hB.cell _).trans h7
set_option maxHeartbeats 6400000 in
theorem begin0_any {w : World} {base d s : Nat} {j0 : Value} {at0 gen0 : Int} {k : Kep} {A : Option Addr} {c : Nat} {B : Option Addr} {d' : Nat} {E : Option Addr} {n : Nat} {s0 s1 s2 s4 sw s5 : DS} (h : DiskAt w base d s0.lasts s0.now s0.cs) (hbw : base ≤ w.heap.size) (hT : Tab w) (hN : NmAt w) (hTb : 3 < base) (hs : Blk w s 53 [.pointer (some ⟨d, 0, none⟩), j0, .int .i64 at0, .int .i64 gen0, .int .i64 k.term, .int .i64 k.vote, .int .i64 k.snp.idx, .int .i64 k.snp.term, .slice A k.snp.v.length c, .slice B k.snp.l.length d', .string (text k.snp.b), .slice E k.ents.length n]) (hge : base ≤ s)
    (hk : k.snp.v = [] ∧ k.snp.l = [] ∧ k.ents = []) (hr : ∀ r ∈ recs k, RcOk r) (ss : List (List UInt8)) (hss : ss = gnS 1 :: ((recs k).map rcS ++ [enS]))
    (h1 : SyncS (nmA ++ endM) (rmS (nmA ++ endM) s0) s1) (h2 : SyncS (nmA ++ endL) (rmS (nmA ++ endL) s1) s2) (hs0 : Small s0) (hs1 : Small s1) (hs2 : Small s2) (hnl : s2.now.get (nmA ++ endL) = none) (hnm : s2.now.get (nmA ++ endM) = none)
    (hf : ∀ i, i ≤ ss.length → Fit (nmA ++ endL) (logB (ss.take i)).length (appF (nmA ++ endL) (ss.take i) 0 s2)) (h4 : SyncS (nmA ++ endL) (appF (nmA ++ endL) ss 0 s2) s4) (hs4 : Small s4) (hl4 : s4.now.length ≤ 15) (hm4 : (s4.now.get (nmA ++ endM)).getD [] = []) (hw : sw = wrS (nmA ++ endM) 0 (frameOf (low (logB ss).length 4)) s4) (hsw : Small sw) (h5 : SyncS (nmA ++ endM) sw s5) :
    Calls Tryz.prog 16 #[.pointer (some ⟨s, 0, none⟩), .int .i64 0, .int .i64 1] w fun e w' => e = .returned (.tuple #[]) ∧ ∃ j, base ≤ j ∧ DiskAt w' base d s5.lasts s5.now s5.cs ∧ Blk w' s 53 [.pointer (some ⟨d, 0, none⟩), (.pointer (some ⟨j, 0, none⟩)), .int .i64 0, .int .i64 1, .int .i64 k.term, .int .i64 k.vote, .int .i64 k.snp.idx, .int .i64 k.snp.term, .slice A k.snp.v.length c, .slice B k.snp.l.length d', .string (text k.snp.b), .slice E k.ents.length n] ∧ Blk w' j 96 (jCs d nmA (logB ss).length 12 (logB ss).length ss.length ss.length) ∧ Below base w w' ∧ Keeps [80, 106, 96, 53] w w' := by
  have HIK : Hid ((Tryz.prog.info? 38).map (·.size) = some 8) := Lib.hid (by kernel_rfl)
  have HIR : Hid ((Tryz.prog.info? 33).map (·.size) = some 15) := Lib.hid (by kernel_rfl)
  have H := Lib.hid (BgSt.mk h hs hbw (Below.refl _ _) (Keeps.refl _ _))
  have HT := Lib.hid hT
  have HN := Lib.hid hN
  have HRC := Lib.hid hr
  have HSS := Lib.hid hss
  have HK := Lib.hid hk
  have HF := Lib.hid hf
  have HNL := Lib.hid hnl
  have HNM := Lib.hid hnm
  have HW := Lib.hid hw
  have HM4 := Lib.hid hm4
  have hgb : 0 < base := by omega
  clear h hT hN hs hr hss hk hf hnl hnm hw hm4
  go_enter Tryz.func16, Tryz.ntmps16
  go_wp2_with fail
  refine wp_region_held_drew (S := fun w' => w'.cell? ⟨s, 0, none⟩ = some (.pointer (some ⟨d, 0, none⟩)) ∧ w'.cell? ⟨0, 0, none⟩ = some (.string (text nmA))) (by kernel_rfl) ⟨H.out.stb.cell 0, HN.out.1⟩ (fun HD => ?_)
  refine wpAnyH_take (i := 0) (oi := ⟨some 13, _, _, _, _, _⟩) (v := (.pointer (some ⟨s, 0, none⟩))) rfl (by kernel_rfl) (by kernel_rfl) (by kernel_rfl) (fun _ _ _ h => h) (Or.inl ⟨by rfl, ?_⟩) HD ?_
  · intro w' hw'
    (go_simp; try with_reducible rfl)
  (try simp only [Act.put, List.setIfInBounds_toArray, List.set_cons_zero, List.set_cons_succ])
  refine wpAnyH_take (i := 1) (oi := ⟨some 14, _, _, _, _, _⟩) (v := (.pointer (some ⟨s, 0, none⟩))) rfl (by kernel_rfl) (by kernel_rfl) (by kernel_rfl) (fun _ _ _ h => h) (Or.inl ⟨by rfl, ?_⟩) HD ?_
  · intro w' hw'
    (go_simp; try with_reducible rfl)
  (try simp only [Act.put, List.setIfInBounds_toArray, List.set_cons_zero, List.set_cons_succ])
  refine wpAnyH_take (i := 2) (oi := ⟨some 15, _, _, _, _, _⟩) (v := (.pointer (some ⟨s, 0, none⟩))) rfl (by kernel_rfl) (by kernel_rfl) (by kernel_rfl) (fun _ _ _ h => h) (Or.inl ⟨by rfl, ?_⟩) HD ?_
  · intro w' hw'
    (go_simp; try with_reducible rfl)
  (try simp only [Act.put, List.setIfInBounds_toArray, List.set_cons_zero, List.set_cons_succ])
  refine wpAnyH_take (i := 3) (oi := ⟨some 16, _, _, _, _, _⟩) (v := (.pointer (some ⟨d, 0, none⟩))) rfl (by kernel_rfl) (by kernel_rfl) (by kernel_rfl) (fun _ _ _ h => h) (Or.inl ⟨by rfl, ?_⟩) HD ?_
  · intro w' hw'
    (go_simp; try with_reducible rfl)
  (try simp only [Act.put, List.setIfInBounds_toArray, List.set_cons_zero, List.set_cons_succ])
  refine wpAnyH_take (i := 4) (oi := ⟨some 17, _, _, _, _, _⟩) (v := (.int .i64 0)) rfl (by kernel_rfl) (by kernel_rfl) (by kernel_rfl) (fun _ _ _ h => h) (Or.inl ⟨by rfl, ?_⟩) HD ?_
  · intro w' hw'
    (go_simp; try with_reducible rfl)
  (try simp only [Act.put, List.setIfInBounds_toArray, List.set_cons_zero, List.set_cons_succ])
  refine wpAnyH_take (i := 5) (oi := ⟨some 18, _, _, _, _, _⟩) (v := (.pointer (some ⟨0, 0, none⟩))) rfl (by kernel_rfl) (by kernel_rfl) (by kernel_rfl) (fun _ _ _ h => h) (Or.inl ⟨by rfl, ?_⟩) HD ?_
  · intro w' hw'
    (go_simp; try with_reducible rfl)
  (try simp only [Act.put, List.setIfInBounds_toArray, List.set_cons_zero, List.set_cons_succ])
  refine wpAnyH_take (i := 6) (oi := ⟨some 19, _, _, _, _, _⟩) (v := (.string (text nmA))) rfl (by kernel_rfl) (by kernel_rfl) (by kernel_rfl) (fun _ _ _ h => h) (Or.inl ⟨by rfl, ?_⟩) HD ?_
  · intro w' hw'
    (go_simp; try with_reducible rfl)
  (try simp only [Act.put, List.setIfInBounds_toArray, List.set_cons_zero, List.set_cons_succ])
  refine wpAnyH_ready (rs := [7]) (by kernel_rfl) (by simp) ?_
  refine AllReadyH.cons (o := ⟨some 20, _, _, _, _, _⟩) rfl (fun K hK => ?_) AllReadyH.nil
  go_simp
  go_at_call 19
  have H1 := Lib.hid H.out.drew
  refine (Drop_any H1.out.at_ H1.out.size nmA (by decide) (by decide) (by decide) (by decide) h1 h2 hs0 hs1).mono ?_
  rintro e w1 ⟨rfl, hd1⟩
  have H2 := Lib.hid (H1.out.dto hd1)
  have HN2 := Lib.hid (HN.out.below H2.out.bel hgb)
  clear hd1 H1 H
  refine hK.out _ _ ⟨H2.out.stb.cell 0, HN2.out.1⟩ (fun HD => ?_)
  clear hK K
  (try simp only [Act.put, List.setIfInBounds_toArray, List.set_cons_zero, List.set_cons_succ])
  refine wpAnyH_ready (rs := [8]) (by kernel_rfl) (by simp) ?_
  refine AllReadyH.cons (o := ⟨some 21, _, _, _, _, _⟩) rfl (fun K hK => ?_) AllReadyH.nil
  go_simp
  go_at_call 18
  refine (smust_ok w1).mono ?_
  rintro e w2 ⟨rfl, rfl⟩
  refine hK.out _ _ HD (fun HD => ?_)
  clear hK K
  (try simp only [Act.put, List.setIfInBounds_toArray, List.set_cons_zero, List.set_cons_succ])
  refine wpAnyH_done (by kernel_rfl) ?_ _
  clear HD
  go_wp2_with fail
  refine wp_region_held_drew (S := fun w' => w'.cell? ⟨s, 0, none⟩ = some (.pointer (some ⟨d, 0, none⟩)) ∧ w'.cell? ⟨0, 0, none⟩ = some (.string (text nmA))) (by kernel_rfl) ⟨H2.out.stb.cell 0, HN2.out.1⟩ (fun HD => ?_)
  refine wpAnyH_take (i := 0) (oi := ⟨some 23, _, _, _, _, _⟩) (v := (.pointer (some ⟨s, 0, none⟩))) rfl (by kernel_rfl) (by kernel_rfl) (by kernel_rfl) (fun _ _ _ h => h) (Or.inl ⟨by rfl, ?_⟩) HD ?_
  · intro w' hw'
    (go_simp; try with_reducible rfl)
  (try simp only [Act.put, List.setIfInBounds_toArray, List.set_cons_zero, List.set_cons_succ])
  refine wpAnyH_take (i := 1) (oi := ⟨some 24, _, _, _, _, _⟩) (v := (.pointer (some ⟨s, 0, none⟩))) rfl (by kernel_rfl) (by kernel_rfl) (by kernel_rfl) (fun _ _ _ h => h) (Or.inl ⟨by rfl, ?_⟩) HD ?_
  · intro w' hw'
    (go_simp; try with_reducible rfl)
  (try simp only [Act.put, List.setIfInBounds_toArray, List.set_cons_zero, List.set_cons_succ])
  refine wpAnyH_take (i := 2) (oi := ⟨some 25, _, _, _, _, _⟩) (v := (.pointer (some ⟨s, 0, none⟩))) rfl (by kernel_rfl) (by kernel_rfl) (by kernel_rfl) (fun _ _ _ h => h) (Or.inl ⟨by rfl, ?_⟩) HD ?_
  · intro w' hw'
    (go_simp; try with_reducible rfl)
  (try simp only [Act.put, List.setIfInBounds_toArray, List.set_cons_zero, List.set_cons_succ])
  refine wpAnyH_take (i := 3) (oi := ⟨some 26, _, _, _, _, _⟩) (v := (.pointer (some ⟨d, 0, none⟩))) rfl (by kernel_rfl) (by kernel_rfl) (by kernel_rfl) (fun _ _ _ h => h) (Or.inl ⟨by rfl, ?_⟩) HD ?_
  · intro w' hw'
    (go_simp; try with_reducible rfl)
  (try simp only [Act.put, List.setIfInBounds_toArray, List.set_cons_zero, List.set_cons_succ])
  refine wpAnyH_take (i := 4) (oi := ⟨some 27, _, _, _, _, _⟩) (v := (.int .i64 0)) rfl (by kernel_rfl) (by kernel_rfl) (by kernel_rfl) (fun _ _ _ h => h) (Or.inl ⟨by rfl, ?_⟩) HD ?_
  · intro w' hw'
    (go_simp; try with_reducible rfl)
  (try simp only [Act.put, List.setIfInBounds_toArray, List.set_cons_zero, List.set_cons_succ])
  refine wpAnyH_take (i := 5) (oi := ⟨some 28, _, _, _, _, _⟩) (v := (.pointer (some ⟨0, 0, none⟩))) rfl (by kernel_rfl) (by kernel_rfl) (by kernel_rfl) (fun _ _ _ h => h) (Or.inl ⟨by rfl, ?_⟩) HD ?_
  · intro w' hw'
    (go_simp; try with_reducible rfl)
  (try simp only [Act.put, List.setIfInBounds_toArray, List.set_cons_zero, List.set_cons_succ])
  refine wpAnyH_take (i := 6) (oi := ⟨some 29, _, _, _, _, _⟩) (v := (.string (text nmA))) rfl (by kernel_rfl) (by kernel_rfl) (by kernel_rfl) (fun _ _ _ h => h) (Or.inl ⟨by rfl, ?_⟩) HD ?_
  · intro w' hw'
    (go_simp; try with_reducible rfl)
  (try simp only [Act.put, List.setIfInBounds_toArray, List.set_cons_zero, List.set_cons_succ])
  refine wpAnyH_ready (rs := [7]) (by kernel_rfl) (by simp) ?_
  refine AllReadyH.cons (o := ⟨some 30, _, _, _, _, _⟩) rfl (fun K hK => ?_) AllReadyH.nil
  go_simp
  go_at_call 31
  have H3 := Lib.hid H2.out.drew
  have ho := jOpen_empty (name := nmA) (ss := []) (ns := []) H3.out.at_ H3.out.size (HT.out.below H3.out.bel (by omega)) hTb (by decide) (by decide) hs2 (by rw [HNL.out]; rfl) (by rw [HNM.out]; rfl) (by simp) (by simp) (by simp [logB, flat]) (by simp [logB, markB, flat])
  refine ho.mono ?_
  clear ho
  rintro e w3 ⟨A1, c1, rfl, hO⟩
  simp only [List.length_nil]
  obtain ⟨j, hj, hje⟩ : ∃ j, base ≤ j ∧ w1.drew.heap.size + 1 + 1 + 1 = j := ⟨_, by have := H3.out.size; omega, rfl⟩
  have HJ4 : Hid (Blk w3 j 96 (jCs d nmA 0 0 0 0 0)) := Lib.hid (by rw [← hje]; exact hO.o.j)
  rw [hje]
  have H4 := Lib.hid (H3.out.below hO.bel)
  have HN4 := Lib.hid (HN.out.below H4.out.bel hgb)
  clear hO hje H2 H3 HN2
  refine hK.out _ _ ⟨H4.out.stb.cell 0, HN4.out.1⟩ (fun HD => ?_)
  clear hK K
  (try simp only [Act.put, List.setIfInBounds_toArray, List.set_cons_zero, List.set_cons_succ])
  refine wpAnyH_take (i := 8) (oi := ⟨some 22, _, _, _, _, _⟩) (v := (.tuple #[(.pointer (some ⟨j, 0, none⟩)), .slice A1 0 c1, .int .i64 0])) rfl (by kernel_rfl) (by kernel_rfl) (by kernel_rfl) (fun _ _ _ h => h) (Or.inl ⟨by rfl, ?_⟩) HD ?_
  · intro w' hw'
    (go_simp; try with_reducible rfl)
  (try simp only [Act.put, List.setIfInBounds_toArray, List.set_cons_zero, List.set_cons_succ])
  refine wpAnyH_take (i := 9) (oi := ⟨some 31, _, _, _, _, _⟩) (v := (.pointer (some ⟨j, 0, none⟩))) rfl (by kernel_rfl) (by kernel_rfl) (by kernel_rfl) (fun _ _ _ h => h) (Or.inl ⟨by rfl, ?_⟩) HD ?_
  · intro w' hw'
    (go_simp; try with_reducible rfl)
  (try simp only [Act.put, List.setIfInBounds_toArray, List.set_cons_zero, List.set_cons_succ])
  refine wpAnyH_take (i := 10) (oi := ⟨some 32, _, _, _, _, _⟩) (v := (.slice A1 0 c1)) rfl (by kernel_rfl) (by kernel_rfl) (by kernel_rfl) (fun _ _ _ h => h) (Or.inl ⟨by rfl, ?_⟩) HD ?_
  · intro w' hw'
    (go_simp; try with_reducible rfl)
  (try simp only [Act.put, List.setIfInBounds_toArray, List.set_cons_zero, List.set_cons_succ])
  refine wpAnyH_take (i := 11) (oi := ⟨some 33, _, _, _, _, _⟩) (v := (.int .i64 0)) rfl (by kernel_rfl) (by kernel_rfl) (by kernel_rfl) (fun _ _ _ h => h) (Or.inl ⟨by rfl, ?_⟩) HD ?_
  · intro w' hw'
    (go_simp; try with_reducible rfl)
  (try simp only [Act.put, List.setIfInBounds_toArray, List.set_cons_zero, List.set_cons_succ])
  refine wpAnyH_take (i := 12) (oi := ⟨some 6, _, _, _, _, _⟩) (v := (.pointer (some ⟨j, 0, none⟩))) rfl (by kernel_rfl) (by kernel_rfl) (by kernel_rfl) (fun _ _ _ h => h) (Or.inl ⟨by rfl, ?_⟩) HD ?_
  · intro w' hw'
    (go_simp; try with_reducible rfl)
  (try simp only [Act.put, List.setIfInBounds_toArray, List.set_cons_zero, List.set_cons_succ])
  refine wpAnyH_take (i := 13) (oi := ⟨some 7, _, _, _, _, _⟩) (v := (.slice A1 0 c1)) rfl (by kernel_rfl) (by kernel_rfl) (by kernel_rfl) (fun _ _ _ h => h) (Or.inl ⟨by rfl, ?_⟩) HD ?_
  · intro w' hw'
    (go_simp; try with_reducible rfl)
  (try simp only [Act.put, List.setIfInBounds_toArray, List.set_cons_zero, List.set_cons_succ])
  refine wpAnyH_take (i := 14) (oi := ⟨some 8, _, _, _, _, _⟩) (v := (.int .i64 0)) rfl (by kernel_rfl) (by kernel_rfl) (by kernel_rfl) (fun _ _ _ h => h) (Or.inl ⟨by rfl, ?_⟩) HD ?_
  · intro w' hw'
    (go_simp; try with_reducible rfl)
  (try simp only [Act.put, List.setIfInBounds_toArray, List.set_cons_zero, List.set_cons_succ])
  refine wpAnyH_done (by kernel_rfl) ?_ _
  clear HD
  go_wp2_with fail
  refine (smust_ok w3).mono ?_
  rintro e w4 ⟨rfl, rfl⟩
  go_wp2_with fail
  refine (itoa_any 1 (by decide) _).mono ?_
  rintro e w4 ⟨rfl, rfl⟩
  have hcat : ∀ l : List UInt8, (⟨#[103]⟩ : ByteArray) ++ text l = text (103 :: l) := fun l => text_app [103] l
  go_wp2_with fail
  have HX : Hid (∀ (wa : World) (i : Nat) (x : List UInt8), BgSt w wa base d s [.pointer (some ⟨d, 0, none⟩), j0, .int .i64 at0, .int .i64 gen0, .int .i64 k.term, .int .i64 k.vote, .int .i64 k.snp.idx, .int .i64 k.snp.term, .slice A k.snp.v.length c, .slice B k.snp.l.length d', .string (text k.snp.b), .slice E k.ents.length n] (appF (nmA ++ endL) (ss.take i) 0 s2) → Blk wa j 96 (jCs d nmA (logB (ss.take i)).length 0 0 i 0) → ss[i]? = some x → x.length ≤ 60000 → i ≤ 1000 →
      Calls Tryz.prog 29 #[.pointer (some ⟨j, 0, none⟩), .string (text x)] wa fun e w' => e = .returned (.int .i64 0) ∧ BgSt w w' base d s [.pointer (some ⟨d, 0, none⟩), j0, .int .i64 at0, .int .i64 gen0, .int .i64 k.term, .int .i64 k.vote, .int .i64 k.snp.idx, .int .i64 k.snp.term, .slice A k.snp.v.length c, .slice B k.snp.l.length d', .string (text k.snp.b), .slice E k.ents.length n] (appF (nmA ++ endL) (ss.take (i + 1)) 0 s2) ∧ Blk w' j 96 (jCs d nmA (logB (ss.take (i + 1))).length 0 0 (i + 1) 0) ∧ Keeps [80, 106, 96] wa w') := Lib.hid (fun wa i x a b c e f => append_bg a b hj HT.out hTb (by decide) (by decide) c e (HF.out i (by have := (List.getElem?_eq_some_iff.1 c).1; omega)) f)
  have hs0e : BgSt w w3 base d s [.pointer (some ⟨d, 0, none⟩), j0, .int .i64 at0, .int .i64 gen0, .int .i64 k.term, .int .i64 k.vote, .int .i64 k.snp.idx, .int .i64 k.snp.term, .slice A k.snp.v.length c, .slice B k.snp.l.length d', .string (text k.snp.b), .slice E k.ents.length n] (appF (nmA ++ endL) (ss.take 0) 0 s2) := H4.out
  have hj0e : Blk w3 j 96 (jCs d nmA (logB (ss.take 0)).length 0 0 0 0) := HJ4.out
  have HL1 := Lib.hid (HX.out w3 0 (103 :: digS 1) hs0e hj0e (by rw [HSS.out]; rfl) (by decide) (by omega))
  clear hs0e hj0e H4 HJ4 HN4
  refine HL1.out.mono ?_
  rintro e w5 ⟨rfl, h5a, h5b, _⟩
  have H5 := Lib.hid h5a
  have HJ5 := Lib.hid h5b
  clear h5a h5b HL1
  go_wp2_with fail
  refine (smust_ok w5).mono ?_
  rintro e w6 ⟨rfl, rfl⟩
  have HSB := Lib.hid H5.out.stb
  go_wp2_with (first
    | (with_reducible refine wpList_load_at rfl 38 _ rfl s 4 rfl HSB [.pointer (some ⟨d, 0, none⟩), j0, .int .i64 at0, .int .i64 gen0] [.int .i64 k.term, .int .i64 k.vote, .int .i64 k.snp.idx, .int .i64 k.snp.term, .slice A k.snp.v.length c, .slice B k.snp.l.length d', .string (text k.snp.b), .slice E k.ents.length n] [] rfl rfl (by simp) Tryz.underlying38 rfl HIK ?_)
    | fail)
  have hKA : KepAt w5 (· < w5.heap.size) k A B E := ⟨by rw [HK.out.1]; exact RowsAt.nil, by rw [HK.out.2.1]; exact RowsAt.nil, by rw [HK.out.2.2]; exact RowsAt.nil⟩
  have hKS : k.Small := ⟨⟨by rw [HK.out.1]; decide, by rw [HK.out.2.1]; decide⟩, by rw [HK.out.2.2]; decide, by rw [HK.out.2.2]; simp⟩
  refine (records_own k A c B d' E n w5 hKA hKS).mono ?_
  clear hKA hKS
  rintro e w7 ⟨Ar, cr, xs, rfl, ho7, hth7, hb7⟩
  have HO7 := Lib.hid ho7
  have HTH := Lib.hid hth7
  have H7 := Lib.hid (H5.out.below hb7)
  have HJ7 := Lib.hid (HJ5.out.below hb7 HJ5.out.lt)
  have HRL : Hid ((recs k).length + 2 = ss.length) := Lib.hid (by rw [HSS.out]; simp)
  have hN3 : (recs k).length ≤ 100 := Nat.le_trans (recs_len k) (by rw [HK.out.2.2]; decide)
  clear ho7 hth7 hb7 H5 HJ5 HSB
  go_wp2_with fail
  go_loopw [48] (fun i wr => ∃ (q : Nat), q ≤ (recs k).length ∧ i = .int .i64 q ∧ Hid (BgSt w wr base d s [.pointer (some ⟨d, 0, none⟩), j0, .int .i64 at0, .int .i64 gen0, .int .i64 k.term, .int .i64 k.vote, .int .i64 k.snp.idx, .int .i64 k.snp.term, .slice A k.snp.v.length c, .slice B k.snp.l.length d', .string (text k.snp.b), .slice E k.ents.length n] (appF (nmA ++ endL) (ss.take (q + 1)) 0 s2)) ∧ Hid (Blk wr j 96 (jCs d nmA (logB (ss.take (q + 1))).length 0 0 (q + 1) 0)) ∧ Hid (wr.ownsRow w5.heap.size 33 15 (.slice Ar (recs k).length cr) (recs k).length xs)) (fun i _ => (recs k).length - (intOf i).toNat)
  case atStart => exact ⟨0, by omega, rfl, H7, HJ7, HO7⟩
  case round =>
    obtain ⟨q, hq, rfl, HS, HJ, HO⟩ := hrel
    by_cases hlt : q < (recs k).length
    · have hrq : (recs k)[q]? = some (recs k)[q] := List.getElem?_eq_getElem hlt
      have hro := HRC.out _ (List.getElem_mem hlt)
      have hsx : ss[q + 1]? = some (rcS (recs k)[q]) := by
        rw [HSS.out, List.getElem?_cons_succ, List.getElem?_append_left (by simpa using hlt), List.getElem?_map, hrq]
        rfl
      generalize (recs k)[q] = r at *
      obtain ⟨g, A3, c3, B3, d3, A4, c4, B4, d4, rfl, hg, hrg⟩ := row_rec HO.out HTH.out rfl hrq
      have HRG := Lib.hid hrg
      have HRO := Lib.hid hro
      have HSX := Lib.hid hsx
      have HRB : Hid (Blk (wr.alloc (.cells #[.int .i64 r.kind, .int .i64 r.term, .int .i64 r.vote, .int .i64 r.ent.idx, .int .i64 r.ent.term, .int .i64 r.ent.kind, .slice A3 r.ent.v.length c3, .slice B3 r.ent.l.length d3, .string (text r.ent.b), .int .i64 r.at_, .int .i64 r.snp.idx, .int .i64 r.snp.term, .slice A4 r.snp.v.length c4, .slice B4 r.snp.l.length d4, .string (text r.snp.b)] 33)) wr.heap.size 33 [.int .i64 r.kind, .int .i64 r.term, .int .i64 r.vote, .int .i64 r.ent.idx, .int .i64 r.ent.term, .int .i64 r.ent.kind, .slice A3 r.ent.v.length c3, .slice B3 r.ent.l.length d3, .string (text r.ent.b), .int .i64 r.at_, .int .i64 r.snp.idx, .int .i64 r.snp.term, .slice A4 r.snp.v.length c4, .slice B4 r.snp.l.length d4, .string (text r.snp.b)]) := Lib.hid (Blk.new wr _ [.int .i64 r.kind, .int .i64 r.term, .int .i64 r.vote, .int .i64 r.ent.idx, .int .i64 r.ent.term, .int .i64 r.ent.kind, .slice A3 r.ent.v.length c3, .slice B3 r.ent.l.length d3, .string (text r.ent.b), .int .i64 r.at_, .int .i64 r.snp.idx, .int .i64 r.snp.term, .slice A4 r.snp.v.length c4, .slice B4 r.snp.l.length d4, .string (text r.snp.b)])
      have HIL : Hid ((Tryz.prog.info? 33).map (·.size) = some ([.int .i64 r.kind, .int .i64 r.term, .int .i64 r.vote, .int .i64 r.ent.idx, .int .i64 r.ent.term, .int .i64 r.ent.kind, .slice A3 r.ent.v.length c3, .slice B3 r.ent.l.length d3, .string (text r.ent.b), .int .i64 r.at_, .int .i64 r.snp.idx, .int .i64 r.snp.term, .slice A4 r.snp.v.length c4, .slice B4 r.snp.l.length d4, .string (text r.snp.b)] : List Value).length) := HIR
      clear hrg hro hsx hrq
      go_wp2_with (first
        | (with_reducible refine wpList_load_mid rfl 33 _ rfl g (q * 15) rfl [.int .i64 r.kind, .int .i64 r.term, .int .i64 r.vote, .int .i64 r.ent.idx, .int .i64 r.ent.term, .int .i64 r.ent.kind, .slice A3 r.ent.v.length c3, .slice B3 r.ent.l.length d3, .string (text r.ent.b), .int .i64 r.at_, .int .i64 r.snp.idx, .int .i64 r.snp.term, .slice A4 r.snp.v.length c4, .slice B4 r.snp.l.length d4, .string (text r.snp.b)] _ HRG.out Tryz.underlying33 rfl HIL.out ?_)
        | (with_reducible refine wpList_load_blk rfl 33 _ rfl wr.heap.size rfl HRB (by simp) Tryz.underlying33 rfl HIR ?_)
        | fail)
      have hcels : Cels (wr.alloc (.cells #[.int .i64 r.kind, .int .i64 r.term, .int .i64 r.vote, .int .i64 r.ent.idx, .int .i64 r.ent.term, .int .i64 r.ent.kind, .slice A3 r.ent.v.length c3, .slice B3 r.ent.l.length d3, .string (text r.ent.b), .int .i64 r.at_, .int .i64 r.snp.idx, .int .i64 r.snp.term, .slice A4 r.snp.v.length c4, .slice B4 r.snp.l.length d4, .string (text r.snp.b)] 33)) (· < (wr.alloc (.cells #[.int .i64 r.kind, .int .i64 r.term, .int .i64 r.vote, .int .i64 r.ent.idx, .int .i64 r.ent.term, .int .i64 r.ent.kind, .slice A3 r.ent.v.length c3, .slice B3 r.ent.l.length d3, .string (text r.ent.b), .int .i64 r.at_, .int .i64 r.snp.idx, .int .i64 r.snp.term, .slice A4 r.snp.v.length c4, .slice B4 r.snp.l.length d4, .string (text r.snp.b)] 33)).heap.size) shRecord r.da [.int .i64 r.kind, .int .i64 r.term, .int .i64 r.vote, .int .i64 r.ent.idx, .int .i64 r.ent.term, .int .i64 r.ent.kind, .slice A3 r.ent.v.length c3, .slice B3 r.ent.l.length d3, .string (text r.ent.b), .int .i64 r.at_, .int .i64 r.snp.idx, .int .i64 r.snp.term, .slice A4 r.snp.v.length c4, .slice B4 r.snp.l.length d4, .string (text r.snp.b)] :=
        Rcd.mk_ r c3 d3 c4 d4 (by rw [HRO.out.ev]; exact RowsAt.nil) (by rw [HRO.out.el]; exact RowsAt.nil) (by rw [HRO.out.sv]; exact RowsAt.nil) (by rw [HRO.out.sl]; exact RowsAt.nil)
      refine (wput_Record r.da [.int .i64 r.kind, .int .i64 r.term, .int .i64 r.vote, .int .i64 r.ent.idx, .int .i64 r.ent.term, .int .i64 r.ent.kind, .slice A3 r.ent.v.length c3, .slice B3 r.ent.l.length d3, .string (text r.ent.b), .int .i64 r.at_, .int .i64 r.snp.idx, .int .i64 r.snp.term, .slice A4 r.snp.v.length c4, .slice B4 r.snp.l.length d4, .string (text r.snp.b)] _ hcels (record_le _)).mono ?_
      clear hcels
      rintro e w8 ⟨⟨A5, n5, c5, rfl, rfl, hc5, hr5⟩, hb8⟩
      rw [show (lays shRecord r.da ([], 0)).2 = 0 from HRO.out.put]
      have kcv := run_text (c := c5) Tryz.underlying72 Tryz.underlying5 Tryz.underlying9 hr5
      rw [show out (lays shRecord r.da ([], 0)) = rcB r from rfl] at kcv ⊢
      have hb8' : Below wr.heap.size wr w8 := ((Below.refl wr.heap.size wr).alloc (Nat.le_refl _) _).trans (hb8.mono (by simp))
      have H8 := Lib.hid (HS.out.below hb8')
      have HJ8 := Lib.hid (HJ.out.below hb8' HJ.out.lt)
      have HO8 := Lib.hid (HO.out.below_ hb8')
      have hrl := HRO.out.len
      have hts : (text (rcB r)).size ≤ 1000 := by simpa [text, ByteArray.size] using hrl
      clear hb8 hb8' hr5 HRG HRB HIL
      go_wp2_with fail
      refine (smust_ok w8).mono ?_
      rintro e w9 ⟨rfl, rfl⟩
      have hcat : ∀ l : List UInt8, (⟨#[114]⟩ : ByteArray) ++ text l = text (114 :: l) := fun l => text_app [114] l
      have HA := Lib.hid (HX.out w8 (q + 1) (rcS r) H8.out HJ8.out HSX.out (by simp [rcS]; omega) (by omega))
      unfold rcS at HA
      go_wp2_with fail
      refine HA.out.mono ?_
      rintro e w9 ⟨rfl, h9a, h9b, h9c⟩
      have H9 := Lib.hid h9a
      have HJ9 := Lib.hid h9b
      have HO9 := Lib.hid (HO8.out.keeps h9c (by decide))
      clear h9a h9b h9c HA kcv hcat
      go_wp2_with fail
      refine (smust_ok w9).mono ?_
      rintro e w10 ⟨rfl, rfl⟩
      go_wp2_with fail
      go_roundw
      case rel => exact ⟨q + 1, by omega, by go_num, H9, HJ9, HO9⟩
      case measure => simp [intOf]; omega
    · obtain rfl : q = (recs k).length := by omega
      go_wp2_with fail
      have hse : ss[(recs k).length + 1]? = some enS := by
        rw [HSS.out, List.getElem?_cons_succ, List.getElem?_append_right (by simp)]
        simp
      have HA := Lib.hid (HX.out wr ((recs k).length + 1) enS HS.out HJ.out hse (by decide) (by omega))
      clear hse
      refine HA.out.mono ?_
      rintro e w9 ⟨rfl, h9a, h9b, _⟩
      have hall : ss.take ((recs k).length + 1 + 1) = ss := List.take_of_length_le (by have := HRL.out; omega)
      rw [hall] at h9a h9b
      rw [show (recs k).length + 1 + 1 = ss.length from HRL.out] at h9b
      have H9 := Lib.hid h9a
      have HJ9 := Lib.hid h9b
      clear h9a h9b HA hall
      go_wp2_with fail
      refine (smust_ok w9).mono ?_
      rintro e w10 ⟨rfl, rfl⟩
      go_wp2_with fail
      have hfl := HF.out ss.length (Nat.le_refl _)
      rw [List.take_length] at hfl
      have hlg : (logB ss).length ≤ 500000 := by rw [← hfl.len]; exact Nat.le_trans (FM.get_le_sum _) hfl.small.now
      have hlp : 0 < (logB ss).length := by rw [HSS.out, logB_cons]; omega
      have HSY := Lib.hid (jSync_any (s0 := appF (nmA ++ endL) ss 0 s2) H9.out.at_ H9.out.size HJ9.out hj (HT.out.below H9.out.bel (by omega)) hTb (by decide) (by decide) (by decide) h4 HW.out h5 hfl.small hs4 hl4 hsw (by rw [HM4.out]; rfl) (by omega) (by omega))
      clear hfl hlp
      refine HSY.out.mono ?_
      rintro e w10 ⟨rfl, hjt⟩
      have H10 := Lib.hid (H9.out.jto hjt)
      have HJ10 := Lib.hid hjt.blk
      clear hjt HSY H9 HJ9
      go_wp2_with fail
      refine (smust_ok w10).mono ?_
      rintro e w11 ⟨rfl, rfl⟩
      have q1 : w10.cell? ⟨s, 1, none⟩ = some j0 := H10.out.stb.cell 1
      have q2 : w10.cell? ⟨s, 2, none⟩ = some (.int .i64 at0) := H10.out.stb.cell 2
      have q3 : w10.cell? ⟨s, 3, none⟩ = some (.int .i64 gen0) := H10.out.stb.cell 3
      have f1 : w10.frozen? ⟨s, 1, none⟩ = false := H10.out.stb.frozen 1
      have f2 : w10.frozen? ⟨s, 2, none⟩ = false := H10.out.stb.frozen 2
      have f3 : w10.frozen? ⟨s, 3, none⟩ = false := H10.out.stb.frozen 3
      have hjs : j ≠ s := fun e => by
        have h1 := HJ10.out
        have h2 := H10.out.stb
        rw [e] at h1
        unfold Blk at h1 h2
        rw [h1] at h2
        injection h2 with h2
        injection h2 with _ h2
        exact absurd h2 (by decide)
      go_wp2_with fail
      go_end0
      refine ⟨rfl, j, hj, ?_, ?_, ?_, ?_, ?_⟩
      · exact ((H10.out.at_.same (SameD.set H10.out.stb.typ (by decide) _)).same (SameD.set (H10.out.stb.set_ 1 (.pointer (some ⟨j, 0, none⟩))).typ (by decide) _)).same (SameD.set ((H10.out.stb.set_ 1 (.pointer (some ⟨j, 0, none⟩))).set_ 2 (.int .i64 0)).typ (by decide) _)
      · exact ((H10.out.stb.set_ 1 (.pointer (some ⟨j, 0, none⟩))).set_ 2 (.int .i64 0)).set_ 3 (.int .i64 1)
      · have hbj := ((HJ10.out.far (p := ⟨s, 1, none⟩) hjs (.pointer (some ⟨j, 0, none⟩))).far (p := ⟨s, 2, none⟩) hjs (.int .i64 0)).far (p := ⟨s, 3, none⟩) hjs (.int .i64 1)
        simpa [jCs] using hbj
      · exact ((H10.out.bel.setCell hge _).setCell hge _).setCell hge _
      · exact (((H10.out.keeps.more (by simp)).step H10.out.stb.typ (by simp)).step (H10.out.stb.set_ 1 (.pointer (some ⟨j, 0, none⟩))).typ (by simp)).step ((H10.out.stb.set_ 1 (.pointer (some ⟨j, 0, none⟩))).set_ 2 (.int .i64 0)).typ (by simp)
end Go.Proofs.YtkdmfjpfanmgmaaGreatDoor
namespace Go.Proofs.YtkdmfjpfanmgmaaGreatDoor
open Go.RowKit Le Go.Maps
set_option maxRecDepth 100000
set_option linter.unusedSimpArgs false
set_option linter.unusedVariables false
set_option maxHeartbeats 6400000 in
theorem begin1_any {w : World} {base d s : Nat} {j0 : Value} {at0 gen0 : Int} {k : Kep} {A : Option Addr} {c : Nat} {B : Option Addr} {d' : Nat} {E : Option Addr} {n : Nat} {s0 s1 s2 s4 sw s5 : DS} (h : DiskAt w base d s0.lasts s0.now s0.cs) (hbw : base ≤ w.heap.size) (hT : Tab w) (hN : NmAt w) (hTb : 3 < base) (hs : Blk w s 53 [.pointer (some ⟨d, 0, none⟩), j0, .int .i64 at0, .int .i64 gen0, .int .i64 k.term, .int .i64 k.vote, .int .i64 k.snp.idx, .int .i64 k.snp.term, .slice A k.snp.v.length c, .slice B k.snp.l.length d', .string (text k.snp.b), .slice E k.ents.length n]) (hge : base ≤ s)
    (hk : k.snp.v = [] ∧ k.snp.l = [] ∧ k.ents = []) (hr : ∀ r ∈ recs k, RcOk r) (ss : List (List UInt8)) (hss : ss = gnS 2 :: ((recs k).map rcS ++ [enS]))
    (h1 : SyncS (nmB ++ endM) (rmS (nmB ++ endM) s0) s1) (h2 : SyncS (nmB ++ endL) (rmS (nmB ++ endL) s1) s2) (hs0 : Small s0) (hs1 : Small s1) (hs2 : Small s2) (hnl : s2.now.get (nmB ++ endL) = none) (hnm : s2.now.get (nmB ++ endM) = none)
    (hf : ∀ i, i ≤ ss.length → Fit (nmB ++ endL) (logB (ss.take i)).length (appF (nmB ++ endL) (ss.take i) 0 s2)) (h4 : SyncS (nmB ++ endL) (appF (nmB ++ endL) ss 0 s2) s4) (hs4 : Small s4) (hl4 : s4.now.length ≤ 15) (hm4 : (s4.now.get (nmB ++ endM)).getD [] = []) (hw : sw = wrS (nmB ++ endM) 0 (frameOf (low (logB ss).length 4)) s4) (hsw : Small sw) (h5 : SyncS (nmB ++ endM) sw s5) :
    Calls Tryz.prog 16 #[.pointer (some ⟨s, 0, none⟩), .int .i64 1, .int .i64 2] w fun e w' => e = .returned (.tuple #[]) ∧ ∃ j, base ≤ j ∧ DiskAt w' base d s5.lasts s5.now s5.cs ∧ Blk w' s 53 [.pointer (some ⟨d, 0, none⟩), (.pointer (some ⟨j, 0, none⟩)), .int .i64 1, .int .i64 2, .int .i64 k.term, .int .i64 k.vote, .int .i64 k.snp.idx, .int .i64 k.snp.term, .slice A k.snp.v.length c, .slice B k.snp.l.length d', .string (text k.snp.b), .slice E k.ents.length n] ∧ Blk w' j 96 (jCs d nmB (logB ss).length 12 (logB ss).length ss.length ss.length) ∧ Below base w w' ∧ Keeps [80, 106, 96, 53] w w' := by
  have HIK : Hid ((Tryz.prog.info? 38).map (·.size) = some 8) := Lib.hid (by kernel_rfl)
  have HIR : Hid ((Tryz.prog.info? 33).map (·.size) = some 15) := Lib.hid (by kernel_rfl)
  have H := Lib.hid (BgSt.mk h hs hbw (Below.refl _ _) (Keeps.refl _ _))
  have HT := Lib.hid hT
  have HN := Lib.hid hN
  have HRC := Lib.hid hr
  have HSS := Lib.hid hss
  have HK := Lib.hid hk
  have HF := Lib.hid hf
  have HNL := Lib.hid hnl
  have HNM := Lib.hid hnm
  have HW := Lib.hid hw
  have HM4 := Lib.hid hm4
  have hgb : 0 < base := by omega
  clear h hT hN hs hr hss hk hf hnl hnm hw hm4
  go_enter Tryz.func16, Tryz.ntmps16
  go_wp2_with fail
  refine wp_region_held_drew (S := fun w' => w'.cell? ⟨s, 0, none⟩ = some (.pointer (some ⟨d, 0, none⟩)) ∧ w'.cell? ⟨0, 1, none⟩ = some (.string (text nmB))) (by kernel_rfl) ⟨H.out.stb.cell 0, HN.out.2⟩ (fun HD => ?_)
  refine wpAnyH_take (i := 0) (oi := ⟨some 13, _, _, _, _, _⟩) (v := (.pointer (some ⟨s, 0, none⟩))) rfl (by kernel_rfl) (by kernel_rfl) (by kernel_rfl) (fun _ _ _ h => h) (Or.inl ⟨by rfl, ?_⟩) HD ?_
  · intro w' hw'
    (go_simp; try with_reducible rfl)
  (try simp only [Act.put, List.setIfInBounds_toArray, List.set_cons_zero, List.set_cons_succ])
  refine wpAnyH_take (i := 1) (oi := ⟨some 14, _, _, _, _, _⟩) (v := (.pointer (some ⟨s, 0, none⟩))) rfl (by kernel_rfl) (by kernel_rfl) (by kernel_rfl) (fun _ _ _ h => h) (Or.inl ⟨by rfl, ?_⟩) HD ?_
  · intro w' hw'
    (go_simp; try with_reducible rfl)
  (try simp only [Act.put, List.setIfInBounds_toArray, List.set_cons_zero, List.set_cons_succ])
  refine wpAnyH_take (i := 2) (oi := ⟨some 15, _, _, _, _, _⟩) (v := (.pointer (some ⟨s, 0, none⟩))) rfl (by kernel_rfl) (by kernel_rfl) (by kernel_rfl) (fun _ _ _ h => h) (Or.inl ⟨by rfl, ?_⟩) HD ?_
  · intro w' hw'
    (go_simp; try with_reducible rfl)
  (try simp only [Act.put, List.setIfInBounds_toArray, List.set_cons_zero, List.set_cons_succ])
  refine wpAnyH_take (i := 3) (oi := ⟨some 16, _, _, _, _, _⟩) (v := (.pointer (some ⟨d, 0, none⟩))) rfl (by kernel_rfl) (by kernel_rfl) (by kernel_rfl) (fun _ _ _ h => h) (Or.inl ⟨by rfl, ?_⟩) HD ?_
  · intro w' hw'
    (go_simp; try with_reducible rfl)
  (try simp only [Act.put, List.setIfInBounds_toArray, List.set_cons_zero, List.set_cons_succ])
  refine wpAnyH_take (i := 4) (oi := ⟨some 17, _, _, _, _, _⟩) (v := (.int .i64 1)) rfl (by kernel_rfl) (by kernel_rfl) (by kernel_rfl) (fun _ _ _ h => h) (Or.inl ⟨by rfl, ?_⟩) HD ?_
  · intro w' hw'
    (go_simp; try with_reducible rfl)
  (try simp only [Act.put, List.setIfInBounds_toArray, List.set_cons_zero, List.set_cons_succ])
  refine wpAnyH_take (i := 5) (oi := ⟨some 18, _, _, _, _, _⟩) (v := (.pointer (some ⟨0, 1, none⟩))) rfl (by kernel_rfl) (by kernel_rfl) (by kernel_rfl) (fun _ _ _ h => h) (Or.inl ⟨by rfl, ?_⟩) HD ?_
  · intro w' hw'
    (go_simp; try with_reducible rfl)
  (try simp only [Act.put, List.setIfInBounds_toArray, List.set_cons_zero, List.set_cons_succ])
  refine wpAnyH_take (i := 6) (oi := ⟨some 19, _, _, _, _, _⟩) (v := (.string (text nmB))) rfl (by kernel_rfl) (by kernel_rfl) (by kernel_rfl) (fun _ _ _ h => h) (Or.inl ⟨by rfl, ?_⟩) HD ?_
  · intro w' hw'
    (go_simp; try with_reducible rfl)
  (try simp only [Act.put, List.setIfInBounds_toArray, List.set_cons_zero, List.set_cons_succ])
  refine wpAnyH_ready (rs := [7]) (by kernel_rfl) (by simp) ?_
  refine AllReadyH.cons (o := ⟨some 20, _, _, _, _, _⟩) rfl (fun K hK => ?_) AllReadyH.nil
  go_simp
  go_at_call 19
  have H1 := Lib.hid H.out.drew
  refine (Drop_any H1.out.at_ H1.out.size nmB (by decide) (by decide) (by decide) (by decide) h1 h2 hs0 hs1).mono ?_
  rintro e w1 ⟨rfl, hd1⟩
  have H2 := Lib.hid (H1.out.dto hd1)
  have HN2 := Lib.hid (HN.out.below H2.out.bel hgb)
  clear hd1 H1 H
  refine hK.out _ _ ⟨H2.out.stb.cell 0, HN2.out.2⟩ (fun HD => ?_)
  clear hK K
  (try simp only [Act.put, List.setIfInBounds_toArray, List.set_cons_zero, List.set_cons_succ])
  refine wpAnyH_ready (rs := [8]) (by kernel_rfl) (by simp) ?_
  refine AllReadyH.cons (o := ⟨some 21, _, _, _, _, _⟩) rfl (fun K hK => ?_) AllReadyH.nil
  go_simp
  go_at_call 18
  refine (smust_ok w1).mono ?_
  rintro e w2 ⟨rfl, rfl⟩
  refine hK.out _ _ HD (fun HD => ?_)
  clear hK K
  (try simp only [Act.put, List.setIfInBounds_toArray, List.set_cons_zero, List.set_cons_succ])
  refine wpAnyH_done (by kernel_rfl) ?_ _
  clear HD
  go_wp2_with fail
  refine wp_region_held_drew (S := fun w' => w'.cell? ⟨s, 0, none⟩ = some (.pointer (some ⟨d, 0, none⟩)) ∧ w'.cell? ⟨0, 1, none⟩ = some (.string (text nmB))) (by kernel_rfl) ⟨H2.out.stb.cell 0, HN2.out.2⟩ (fun HD => ?_)
  refine wpAnyH_take (i := 0) (oi := ⟨some 23, _, _, _, _, _⟩) (v := (.pointer (some ⟨s, 0, none⟩))) rfl (by kernel_rfl) (by kernel_rfl) (by kernel_rfl) (fun _ _ _ h => h) (Or.inl ⟨by rfl, ?_⟩) HD ?_
  · intro w' hw'
    (go_simp; try with_reducible rfl)
  (try simp only [Act.put, List.setIfInBounds_toArray, List.set_cons_zero, List.set_cons_succ])
  refine wpAnyH_take (i := 1) (oi := ⟨some 24, _, _, _, _, _⟩) (v := (.pointer (some ⟨s, 0, none⟩))) rfl (by kernel_rfl) (by kernel_rfl) (by kernel_rfl) (fun _ _ _ h => h) (Or.inl ⟨by rfl, ?_⟩) HD ?_
  · intro w' hw'
    (go_simp; try with_reducible rfl)
  (try simp only [Act.put, List.setIfInBounds_toArray, List.set_cons_zero, List.set_cons_succ])
  refine wpAnyH_take (i := 2) (oi := ⟨some 25, _, _, _, _, _⟩) (v := (.pointer (some ⟨s, 0, none⟩))) rfl (by kernel_rfl) (by kernel_rfl) (by kernel_rfl) (fun _ _ _ h => h) (Or.inl ⟨by rfl, ?_⟩) HD ?_
  · intro w' hw'
    (go_simp; try with_reducible rfl)
  (try simp only [Act.put, List.setIfInBounds_toArray, List.set_cons_zero, List.set_cons_succ])
  refine wpAnyH_take (i := 3) (oi := ⟨some 26, _, _, _, _, _⟩) (v := (.pointer (some ⟨d, 0, none⟩))) rfl (by kernel_rfl) (by kernel_rfl) (by kernel_rfl) (fun _ _ _ h => h) (Or.inl ⟨by rfl, ?_⟩) HD ?_
  · intro w' hw'
    (go_simp; try with_reducible rfl)
  (try simp only [Act.put, List.setIfInBounds_toArray, List.set_cons_zero, List.set_cons_succ])
  refine wpAnyH_take (i := 4) (oi := ⟨some 27, _, _, _, _, _⟩) (v := (.int .i64 1)) rfl (by kernel_rfl) (by kernel_rfl) (by kernel_rfl) (fun _ _ _ h => h) (Or.inl ⟨by rfl, ?_⟩) HD ?_
  · intro w' hw'
    (go_simp; try with_reducible rfl)
  (try simp only [Act.put, List.setIfInBounds_toArray, List.set_cons_zero, List.set_cons_succ])
  refine wpAnyH_take (i := 5) (oi := ⟨some 28, _, _, _, _, _⟩) (v := (.pointer (some ⟨0, 1, none⟩))) rfl (by kernel_rfl) (by kernel_rfl) (by kernel_rfl) (fun _ _ _ h => h) (Or.inl ⟨by rfl, ?_⟩) HD ?_
  · intro w' hw'
    (go_simp; try with_reducible rfl)
  (try simp only [Act.put, List.setIfInBounds_toArray, List.set_cons_zero, List.set_cons_succ])
  refine wpAnyH_take (i := 6) (oi := ⟨some 29, _, _, _, _, _⟩) (v := (.string (text nmB))) rfl (by kernel_rfl) (by kernel_rfl) (by kernel_rfl) (fun _ _ _ h => h) (Or.inl ⟨by rfl, ?_⟩) HD ?_
  · intro w' hw'
    (go_simp; try with_reducible rfl)
  (try simp only [Act.put, List.setIfInBounds_toArray, List.set_cons_zero, List.set_cons_succ])
  refine wpAnyH_ready (rs := [7]) (by kernel_rfl) (by simp) ?_
  refine AllReadyH.cons (o := ⟨some 30, _, _, _, _, _⟩) rfl (fun K hK => ?_) AllReadyH.nil
  go_simp
  go_at_call 31
  have H3 := Lib.hid H2.out.drew
  have ho := jOpen_empty (name := nmB) (ss := []) (ns := []) H3.out.at_ H3.out.size (HT.out.below H3.out.bel (by omega)) hTb (by decide) (by decide) hs2 (by rw [HNL.out]; rfl) (by rw [HNM.out]; rfl) (by simp) (by simp) (by simp [logB, flat]) (by simp [logB, markB, flat])
  refine ho.mono ?_
  clear ho
  rintro e w3 ⟨A1, c1, rfl, hO⟩
  simp only [List.length_nil]
  obtain ⟨j, hj, hje⟩ : ∃ j, base ≤ j ∧ w1.drew.heap.size + 1 + 1 + 1 = j := ⟨_, by have := H3.out.size; omega, rfl⟩
  have HJ4 : Hid (Blk w3 j 96 (jCs d nmB 0 0 0 0 0)) := Lib.hid (by rw [← hje]; exact hO.o.j)
  rw [hje]
  have H4 := Lib.hid (H3.out.below hO.bel)
  have HN4 := Lib.hid (HN.out.below H4.out.bel hgb)
  clear hO hje H2 H3 HN2
  refine hK.out _ _ ⟨H4.out.stb.cell 0, HN4.out.2⟩ (fun HD => ?_)
  clear hK K
  (try simp only [Act.put, List.setIfInBounds_toArray, List.set_cons_zero, List.set_cons_succ])
  refine wpAnyH_take (i := 8) (oi := ⟨some 22, _, _, _, _, _⟩) (v := (.tuple #[(.pointer (some ⟨j, 0, none⟩)), .slice A1 0 c1, .int .i64 0])) rfl (by kernel_rfl) (by kernel_rfl) (by kernel_rfl) (fun _ _ _ h => h) (Or.inl ⟨by rfl, ?_⟩) HD ?_
  · intro w' hw'
    (go_simp; try with_reducible rfl)
  (try simp only [Act.put, List.setIfInBounds_toArray, List.set_cons_zero, List.set_cons_succ])
  refine wpAnyH_take (i := 9) (oi := ⟨some 31, _, _, _, _, _⟩) (v := (.pointer (some ⟨j, 0, none⟩))) rfl (by kernel_rfl) (by kernel_rfl) (by kernel_rfl) (fun _ _ _ h => h) (Or.inl ⟨by rfl, ?_⟩) HD ?_
  · intro w' hw'
    (go_simp; try with_reducible rfl)
  (try simp only [Act.put, List.setIfInBounds_toArray, List.set_cons_zero, List.set_cons_succ])
  refine wpAnyH_take (i := 10) (oi := ⟨some 32, _, _, _, _, _⟩) (v := (.slice A1 0 c1)) rfl (by kernel_rfl) (by kernel_rfl) (by kernel_rfl) (fun _ _ _ h => h) (Or.inl ⟨by rfl, ?_⟩) HD ?_
  · intro w' hw'
    (go_simp; try with_reducible rfl)
  (try simp only [Act.put, List.setIfInBounds_toArray, List.set_cons_zero, List.set_cons_succ])
  refine wpAnyH_take (i := 11) (oi := ⟨some 33, _, _, _, _, _⟩) (v := (.int .i64 0)) rfl (by kernel_rfl) (by kernel_rfl) (by kernel_rfl) (fun _ _ _ h => h) (Or.inl ⟨by rfl, ?_⟩) HD ?_
  · intro w' hw'
    (go_simp; try with_reducible rfl)
  (try simp only [Act.put, List.setIfInBounds_toArray, List.set_cons_zero, List.set_cons_succ])
  refine wpAnyH_take (i := 12) (oi := ⟨some 6, _, _, _, _, _⟩) (v := (.pointer (some ⟨j, 0, none⟩))) rfl (by kernel_rfl) (by kernel_rfl) (by kernel_rfl) (fun _ _ _ h => h) (Or.inl ⟨by rfl, ?_⟩) HD ?_
  · intro w' hw'
    (go_simp; try with_reducible rfl)
  (try simp only [Act.put, List.setIfInBounds_toArray, List.set_cons_zero, List.set_cons_succ])
  refine wpAnyH_take (i := 13) (oi := ⟨some 7, _, _, _, _, _⟩) (v := (.slice A1 0 c1)) rfl (by kernel_rfl) (by kernel_rfl) (by kernel_rfl) (fun _ _ _ h => h) (Or.inl ⟨by rfl, ?_⟩) HD ?_
  · intro w' hw'
    (go_simp; try with_reducible rfl)
  (try simp only [Act.put, List.setIfInBounds_toArray, List.set_cons_zero, List.set_cons_succ])
  refine wpAnyH_take (i := 14) (oi := ⟨some 8, _, _, _, _, _⟩) (v := (.int .i64 0)) rfl (by kernel_rfl) (by kernel_rfl) (by kernel_rfl) (fun _ _ _ h => h) (Or.inl ⟨by rfl, ?_⟩) HD ?_
  · intro w' hw'
    (go_simp; try with_reducible rfl)
  (try simp only [Act.put, List.setIfInBounds_toArray, List.set_cons_zero, List.set_cons_succ])
  refine wpAnyH_done (by kernel_rfl) ?_ _
  clear HD
  go_wp2_with fail
  refine (smust_ok w3).mono ?_
  rintro e w4 ⟨rfl, rfl⟩
  go_wp2_with fail
  refine (itoa_any 2 (by decide) _).mono ?_
  rintro e w4 ⟨rfl, rfl⟩
  have hcat : ∀ l : List UInt8, (⟨#[103]⟩ : ByteArray) ++ text l = text (103 :: l) := fun l => text_app [103] l
  go_wp2_with fail
  have HX : Hid (∀ (wa : World) (i : Nat) (x : List UInt8), BgSt w wa base d s [.pointer (some ⟨d, 0, none⟩), j0, .int .i64 at0, .int .i64 gen0, .int .i64 k.term, .int .i64 k.vote, .int .i64 k.snp.idx, .int .i64 k.snp.term, .slice A k.snp.v.length c, .slice B k.snp.l.length d', .string (text k.snp.b), .slice E k.ents.length n] (appF (nmB ++ endL) (ss.take i) 0 s2) → Blk wa j 96 (jCs d nmB (logB (ss.take i)).length 0 0 i 0) → ss[i]? = some x → x.length ≤ 60000 → i ≤ 1000 →
      Calls Tryz.prog 29 #[.pointer (some ⟨j, 0, none⟩), .string (text x)] wa fun e w' => e = .returned (.int .i64 0) ∧ BgSt w w' base d s [.pointer (some ⟨d, 0, none⟩), j0, .int .i64 at0, .int .i64 gen0, .int .i64 k.term, .int .i64 k.vote, .int .i64 k.snp.idx, .int .i64 k.snp.term, .slice A k.snp.v.length c, .slice B k.snp.l.length d', .string (text k.snp.b), .slice E k.ents.length n] (appF (nmB ++ endL) (ss.take (i + 1)) 0 s2) ∧ Blk w' j 96 (jCs d nmB (logB (ss.take (i + 1))).length 0 0 (i + 1) 0) ∧ Keeps [80, 106, 96] wa w') := Lib.hid (fun wa i x a b c e f => append_bg a b hj HT.out hTb (by decide) (by decide) c e (HF.out i (by have := (List.getElem?_eq_some_iff.1 c).1; omega)) f)
  have hs0e : BgSt w w3 base d s [.pointer (some ⟨d, 0, none⟩), j0, .int .i64 at0, .int .i64 gen0, .int .i64 k.term, .int .i64 k.vote, .int .i64 k.snp.idx, .int .i64 k.snp.term, .slice A k.snp.v.length c, .slice B k.snp.l.length d', .string (text k.snp.b), .slice E k.ents.length n] (appF (nmB ++ endL) (ss.take 0) 0 s2) := H4.out
  have hj0e : Blk w3 j 96 (jCs d nmB (logB (ss.take 0)).length 0 0 0 0) := HJ4.out
  have HL1 := Lib.hid (HX.out w3 0 (103 :: digS 2) hs0e hj0e (by rw [HSS.out]; rfl) (by decide) (by omega))
  clear hs0e hj0e H4 HJ4 HN4
  refine HL1.out.mono ?_
  rintro e w5 ⟨rfl, h5a, h5b, _⟩
  have H5 := Lib.hid h5a
  have HJ5 := Lib.hid h5b
  clear h5a h5b HL1
  go_wp2_with fail
  refine (smust_ok w5).mono ?_
  rintro e w6 ⟨rfl, rfl⟩
  have HSB := Lib.hid H5.out.stb
  go_wp2_with (first
    | (with_reducible refine wpList_load_at rfl 38 _ rfl s 4 rfl HSB [.pointer (some ⟨d, 0, none⟩), j0, .int .i64 at0, .int .i64 gen0] [.int .i64 k.term, .int .i64 k.vote, .int .i64 k.snp.idx, .int .i64 k.snp.term, .slice A k.snp.v.length c, .slice B k.snp.l.length d', .string (text k.snp.b), .slice E k.ents.length n] [] rfl rfl (by simp) Tryz.underlying38 rfl HIK ?_)
    | fail)
  have hKA : KepAt w5 (· < w5.heap.size) k A B E := ⟨by rw [HK.out.1]; exact RowsAt.nil, by rw [HK.out.2.1]; exact RowsAt.nil, by rw [HK.out.2.2]; exact RowsAt.nil⟩
  have hKS : k.Small := ⟨⟨by rw [HK.out.1]; decide, by rw [HK.out.2.1]; decide⟩, by rw [HK.out.2.2]; decide, by rw [HK.out.2.2]; simp⟩
  refine (records_own k A c B d' E n w5 hKA hKS).mono ?_
  clear hKA hKS
  rintro e w7 ⟨Ar, cr, xs, rfl, ho7, hth7, hb7⟩
  have HO7 := Lib.hid ho7
  have HTH := Lib.hid hth7
  have H7 := Lib.hid (H5.out.below hb7)
  have HJ7 := Lib.hid (HJ5.out.below hb7 HJ5.out.lt)
  have HRL : Hid ((recs k).length + 2 = ss.length) := Lib.hid (by rw [HSS.out]; simp)
  have hN3 : (recs k).length ≤ 100 := Nat.le_trans (recs_len k) (by rw [HK.out.2.2]; decide)
  clear ho7 hth7 hb7 H5 HJ5 HSB
  go_wp2_with fail
  go_loopw [48] (fun i wr => ∃ (q : Nat), q ≤ (recs k).length ∧ i = .int .i64 q ∧ Hid (BgSt w wr base d s [.pointer (some ⟨d, 0, none⟩), j0, .int .i64 at0, .int .i64 gen0, .int .i64 k.term, .int .i64 k.vote, .int .i64 k.snp.idx, .int .i64 k.snp.term, .slice A k.snp.v.length c, .slice B k.snp.l.length d', .string (text k.snp.b), .slice E k.ents.length n] (appF (nmB ++ endL) (ss.take (q + 1)) 0 s2)) ∧ Hid (Blk wr j 96 (jCs d nmB (logB (ss.take (q + 1))).length 0 0 (q + 1) 0)) ∧ Hid (wr.ownsRow w5.heap.size 33 15 (.slice Ar (recs k).length cr) (recs k).length xs)) (fun i _ => (recs k).length - (intOf i).toNat)
  case atStart => exact ⟨0, by omega, rfl, H7, HJ7, HO7⟩
  case round =>
    obtain ⟨q, hq, rfl, HS, HJ, HO⟩ := hrel
    by_cases hlt : q < (recs k).length
    · have hrq : (recs k)[q]? = some (recs k)[q] := List.getElem?_eq_getElem hlt
      have hro := HRC.out _ (List.getElem_mem hlt)
      have hsx : ss[q + 1]? = some (rcS (recs k)[q]) := by
        rw [HSS.out, List.getElem?_cons_succ, List.getElem?_append_left (by simpa using hlt), List.getElem?_map, hrq]
        rfl
      generalize (recs k)[q] = r at *
      obtain ⟨g, A3, c3, B3, d3, A4, c4, B4, d4, rfl, hg, hrg⟩ := row_rec HO.out HTH.out rfl hrq
      have HRG := Lib.hid hrg
      have HRO := Lib.hid hro
      have HSX := Lib.hid hsx
      have HRB : Hid (Blk (wr.alloc (.cells #[.int .i64 r.kind, .int .i64 r.term, .int .i64 r.vote, .int .i64 r.ent.idx, .int .i64 r.ent.term, .int .i64 r.ent.kind, .slice A3 r.ent.v.length c3, .slice B3 r.ent.l.length d3, .string (text r.ent.b), .int .i64 r.at_, .int .i64 r.snp.idx, .int .i64 r.snp.term, .slice A4 r.snp.v.length c4, .slice B4 r.snp.l.length d4, .string (text r.snp.b)] 33)) wr.heap.size 33 [.int .i64 r.kind, .int .i64 r.term, .int .i64 r.vote, .int .i64 r.ent.idx, .int .i64 r.ent.term, .int .i64 r.ent.kind, .slice A3 r.ent.v.length c3, .slice B3 r.ent.l.length d3, .string (text r.ent.b), .int .i64 r.at_, .int .i64 r.snp.idx, .int .i64 r.snp.term, .slice A4 r.snp.v.length c4, .slice B4 r.snp.l.length d4, .string (text r.snp.b)]) := Lib.hid (Blk.new wr _ [.int .i64 r.kind, .int .i64 r.term, .int .i64 r.vote, .int .i64 r.ent.idx, .int .i64 r.ent.term, .int .i64 r.ent.kind, .slice A3 r.ent.v.length c3, .slice B3 r.ent.l.length d3, .string (text r.ent.b), .int .i64 r.at_, .int .i64 r.snp.idx, .int .i64 r.snp.term, .slice A4 r.snp.v.length c4, .slice B4 r.snp.l.length d4, .string (text r.snp.b)])
      have HIL : Hid ((Tryz.prog.info? 33).map (·.size) = some ([.int .i64 r.kind, .int .i64 r.term, .int .i64 r.vote, .int .i64 r.ent.idx, .int .i64 r.ent.term, .int .i64 r.ent.kind, .slice A3 r.ent.v.length c3, .slice B3 r.ent.l.length d3, .string (text r.ent.b), .int .i64 r.at_, .int .i64 r.snp.idx, .int .i64 r.snp.term, .slice A4 r.snp.v.length c4, .slice B4 r.snp.l.length d4, .string (text r.snp.b)] : List Value).length) := HIR
      clear hrg hro hsx hrq
      go_wp2_with (first
        | (with_reducible refine wpList_load_mid rfl 33 _ rfl g (q * 15) rfl [.int .i64 r.kind, .int .i64 r.term, .int .i64 r.vote, .int .i64 r.ent.idx, .int .i64 r.ent.term, .int .i64 r.ent.kind, .slice A3 r.ent.v.length c3, .slice B3 r.ent.l.length d3, .string (text r.ent.b), .int .i64 r.at_, .int .i64 r.snp.idx, .int .i64 r.snp.term, .slice A4 r.snp.v.length c4, .slice B4 r.snp.l.length d4, .string (text r.snp.b)] _ HRG.out Tryz.underlying33 rfl HIL.out ?_)
        | (with_reducible refine wpList_load_blk rfl 33 _ rfl wr.heap.size rfl HRB (by simp) Tryz.underlying33 rfl HIR ?_)
        | fail)
      have hcels : Cels (wr.alloc (.cells #[.int .i64 r.kind, .int .i64 r.term, .int .i64 r.vote, .int .i64 r.ent.idx, .int .i64 r.ent.term, .int .i64 r.ent.kind, .slice A3 r.ent.v.length c3, .slice B3 r.ent.l.length d3, .string (text r.ent.b), .int .i64 r.at_, .int .i64 r.snp.idx, .int .i64 r.snp.term, .slice A4 r.snp.v.length c4, .slice B4 r.snp.l.length d4, .string (text r.snp.b)] 33)) (· < (wr.alloc (.cells #[.int .i64 r.kind, .int .i64 r.term, .int .i64 r.vote, .int .i64 r.ent.idx, .int .i64 r.ent.term, .int .i64 r.ent.kind, .slice A3 r.ent.v.length c3, .slice B3 r.ent.l.length d3, .string (text r.ent.b), .int .i64 r.at_, .int .i64 r.snp.idx, .int .i64 r.snp.term, .slice A4 r.snp.v.length c4, .slice B4 r.snp.l.length d4, .string (text r.snp.b)] 33)).heap.size) shRecord r.da [.int .i64 r.kind, .int .i64 r.term, .int .i64 r.vote, .int .i64 r.ent.idx, .int .i64 r.ent.term, .int .i64 r.ent.kind, .slice A3 r.ent.v.length c3, .slice B3 r.ent.l.length d3, .string (text r.ent.b), .int .i64 r.at_, .int .i64 r.snp.idx, .int .i64 r.snp.term, .slice A4 r.snp.v.length c4, .slice B4 r.snp.l.length d4, .string (text r.snp.b)] :=
        Rcd.mk_ r c3 d3 c4 d4 (by rw [HRO.out.ev]; exact RowsAt.nil) (by rw [HRO.out.el]; exact RowsAt.nil) (by rw [HRO.out.sv]; exact RowsAt.nil) (by rw [HRO.out.sl]; exact RowsAt.nil)
      refine (wput_Record r.da [.int .i64 r.kind, .int .i64 r.term, .int .i64 r.vote, .int .i64 r.ent.idx, .int .i64 r.ent.term, .int .i64 r.ent.kind, .slice A3 r.ent.v.length c3, .slice B3 r.ent.l.length d3, .string (text r.ent.b), .int .i64 r.at_, .int .i64 r.snp.idx, .int .i64 r.snp.term, .slice A4 r.snp.v.length c4, .slice B4 r.snp.l.length d4, .string (text r.snp.b)] _ hcels (record_le _)).mono ?_
      clear hcels
      rintro e w8 ⟨⟨A5, n5, c5, rfl, rfl, hc5, hr5⟩, hb8⟩
      rw [show (lays shRecord r.da ([], 0)).2 = 0 from HRO.out.put]
      have kcv := run_text (c := c5) Tryz.underlying72 Tryz.underlying5 Tryz.underlying9 hr5
      rw [show out (lays shRecord r.da ([], 0)) = rcB r from rfl] at kcv ⊢
      have hb8' : Below wr.heap.size wr w8 := ((Below.refl wr.heap.size wr).alloc (Nat.le_refl _) _).trans (hb8.mono (by simp))
      have H8 := Lib.hid (HS.out.below hb8')
      have HJ8 := Lib.hid (HJ.out.below hb8' HJ.out.lt)
      have HO8 := Lib.hid (HO.out.below_ hb8')
      have hrl := HRO.out.len
      have hts : (text (rcB r)).size ≤ 1000 := by simpa [text, ByteArray.size] using hrl
      clear hb8 hb8' hr5 HRG HRB HIL
      go_wp2_with fail
      refine (smust_ok w8).mono ?_
      rintro e w9 ⟨rfl, rfl⟩
      have hcat : ∀ l : List UInt8, (⟨#[114]⟩ : ByteArray) ++ text l = text (114 :: l) := fun l => text_app [114] l
      have HA := Lib.hid (HX.out w8 (q + 1) (rcS r) H8.out HJ8.out HSX.out (by simp [rcS]; omega) (by omega))
      unfold rcS at HA
      go_wp2_with fail
      refine HA.out.mono ?_
      rintro e w9 ⟨rfl, h9a, h9b, h9c⟩
      have H9 := Lib.hid h9a
      have HJ9 := Lib.hid h9b
      have HO9 := Lib.hid (HO8.out.keeps h9c (by decide))
      clear h9a h9b h9c HA kcv hcat
      go_wp2_with fail
      refine (smust_ok w9).mono ?_
      rintro e w10 ⟨rfl, rfl⟩
      go_wp2_with fail
      go_roundw
      case rel => exact ⟨q + 1, by omega, by go_num, H9, HJ9, HO9⟩
      case measure => simp [intOf]; omega
    · obtain rfl : q = (recs k).length := by omega
      go_wp2_with fail
      have hse : ss[(recs k).length + 1]? = some enS := by
        rw [HSS.out, List.getElem?_cons_succ, List.getElem?_append_right (by simp)]
        simp
      have HA := Lib.hid (HX.out wr ((recs k).length + 1) enS HS.out HJ.out hse (by decide) (by omega))
      clear hse
      refine HA.out.mono ?_
      rintro e w9 ⟨rfl, h9a, h9b, _⟩
      have hall : ss.take ((recs k).length + 1 + 1) = ss := List.take_of_length_le (by have := HRL.out; omega)
      rw [hall] at h9a h9b
      rw [show (recs k).length + 1 + 1 = ss.length from HRL.out] at h9b
      have H9 := Lib.hid h9a
      have HJ9 := Lib.hid h9b
      clear h9a h9b HA hall
      go_wp2_with fail
      refine (smust_ok w9).mono ?_
      rintro e w10 ⟨rfl, rfl⟩
      go_wp2_with fail
      have hfl := HF.out ss.length (Nat.le_refl _)
      rw [List.take_length] at hfl
      have hlg : (logB ss).length ≤ 500000 := by rw [← hfl.len]; exact Nat.le_trans (FM.get_le_sum _) hfl.small.now
      have hlp : 0 < (logB ss).length := by rw [HSS.out, logB_cons]; omega
      have HSY := Lib.hid (jSync_any (s0 := appF (nmB ++ endL) ss 0 s2) H9.out.at_ H9.out.size HJ9.out hj (HT.out.below H9.out.bel (by omega)) hTb (by decide) (by decide) (by decide) h4 HW.out h5 hfl.small hs4 hl4 hsw (by rw [HM4.out]; rfl) (by omega) (by omega))
      clear hfl hlp
      refine HSY.out.mono ?_
      rintro e w10 ⟨rfl, hjt⟩
      have H10 := Lib.hid (H9.out.jto hjt)
      have HJ10 := Lib.hid hjt.blk
      clear hjt HSY H9 HJ9
      go_wp2_with fail
      refine (smust_ok w10).mono ?_
      rintro e w11 ⟨rfl, rfl⟩
      have q1 : w10.cell? ⟨s, 1, none⟩ = some j0 := H10.out.stb.cell 1
      have q2 : w10.cell? ⟨s, 2, none⟩ = some (.int .i64 at0) := H10.out.stb.cell 2
      have q3 : w10.cell? ⟨s, 3, none⟩ = some (.int .i64 gen0) := H10.out.stb.cell 3
      have f1 : w10.frozen? ⟨s, 1, none⟩ = false := H10.out.stb.frozen 1
      have f2 : w10.frozen? ⟨s, 2, none⟩ = false := H10.out.stb.frozen 2
      have f3 : w10.frozen? ⟨s, 3, none⟩ = false := H10.out.stb.frozen 3
      have hjs : j ≠ s := fun e => by
        have h1 := HJ10.out
        have h2 := H10.out.stb
        rw [e] at h1
        unfold Blk at h1 h2
        rw [h1] at h2
        injection h2 with h2
        injection h2 with _ h2
        exact absurd h2 (by decide)
      go_wp2_with fail
      go_end0
      refine ⟨rfl, j, hj, ?_, ?_, ?_, ?_, ?_⟩
      · exact ((H10.out.at_.same (SameD.set H10.out.stb.typ (by decide) _)).same (SameD.set (H10.out.stb.set_ 1 (.pointer (some ⟨j, 0, none⟩))).typ (by decide) _)).same (SameD.set ((H10.out.stb.set_ 1 (.pointer (some ⟨j, 0, none⟩))).set_ 2 (.int .i64 1)).typ (by decide) _)
      · exact ((H10.out.stb.set_ 1 (.pointer (some ⟨j, 0, none⟩))).set_ 2 (.int .i64 1)).set_ 3 (.int .i64 2)
      · have hbj := ((HJ10.out.far (p := ⟨s, 1, none⟩) hjs (.pointer (some ⟨j, 0, none⟩))).far (p := ⟨s, 2, none⟩) hjs (.int .i64 1)).far (p := ⟨s, 3, none⟩) hjs (.int .i64 2)
        simpa [jCs] using hbj
      · exact ((H10.out.bel.setCell hge _).setCell hge _).setCell hge _
      · exact (((H10.out.keeps.more (by simp)).step H10.out.stb.typ (by simp)).step (H10.out.stb.set_ 1 (.pointer (some ⟨j, 0, none⟩))).typ (by simp)).step ((H10.out.stb.set_ 1 (.pointer (some ⟨j, 0, none⟩))).set_ 2 (.int .i64 1)).typ (by simp)
end Go.Proofs.YtkdmfjpfanmgmaaGreatDoor
