/- Joined by mkmerge.py from the proof's texts Stb8. Conditions: each theorem's own hypotheses. -/
import Derived.Test.YtkdmfjpfanmgmaaGreatDoorM45
import Derived.Deep.Cut
namespace Go.Proofs.YtkdmfjpfanmgmaaGreatDoor
open Go.RowKit Le Go.Maps
set_option maxRecDepth 100000
set_option linter.unusedSimpArgs false
set_option linter.unusedVariables false
/-- The blocks that Open makes. -/
structure OpSt (w w' : World) (base d : Nat) (sc ac : List Value) (S : DS) : Prop where
  p : Blk w' w.heap.size 35 [(.pointer (some ⟨w.heap.size + 1 + 1 + 1, 0, none⟩))]
  k : Blk w' (w.heap.size + 1) 38 [.int .i64 0, .int .i64 0, .int .i64 0, .int .i64 0, .slice none 0 0, .slice none 0 0, .string ⟨#[]⟩, .slice none 0 0]
  e : Blk w' (w.heap.size + 1 + 1) 39 [.int .i64 0]
  s : Blk w' (w.heap.size + 1 + 1 + 1) 53 sc
  a : Blk w' (w.heap.size + 1 + 1 + 1 + 1) 56 ac
  at_ : DiskAt w' base d S.lasts S.now S.cs
  ge : base ≤ w.heap.size
  bel : Below base w w'
  keeps : Keeps [80, 106, 96] w w'
theorem OpSt.below {w w1 w2 : World} {base d : Nat} {sc ac : List Value} {S : DS} (h : OpSt w w1 base d sc ac S) (hb : Below w1.heap.size w1 w2) : OpSt w w2 base d sc ac S :=
  ⟨h.p.below hb h.p.lt, h.k.below hb h.k.lt, h.e.below hb h.e.lt, h.s.below hb h.s.lt, h.a.below hb h.a.lt, h.at_.same (SameD.of_below hb), h.ge, h.bel.trans (hb.mono (Nat.le_trans h.ge h.bel.size)), h.keeps.then_below hb⟩
theorem OpSt.size {w w1 : World} {base d : Nat} {sc ac : List Value} {S : DS} (h : OpSt w w1 base d sc ac S) : base ≤ w1.heap.size := Nat.le_trans h.ge h.bel.size
theorem OpSt.drew {w w1 : World} {base d : Nat} {sc ac : List Value} {S : DS} (h : OpSt w w1 base d sc ac S) : OpSt w w1.drew base d sc ac S := h.below (Below.refl _ _).drew
/-- The told's array is written. -/
theorem same_stored {w w' : World} {g : Nat} {t : TypeId} {cs0 cs : List Value} (hB : Blk w g t cs0) (h : Stored w w' g t cs) (ht : [80, 106, 5, 9, 3, 72].contains t = false) : SameD w w' :=
  ⟨Nat.le_of_eq h.size.symm, fun k o ho hd => by
    by_cases hk : k = g
    · subst hk
      unfold Blk at hB
      rw [ho] at hB
      injection hB with hB
      subst hB
      simp only [isD] at hd
      rw [ht] at hd
      cases hd
    · exact (h.far k hk).trans ho⟩
theorem OpSt.stA {w w1 w2 : World} {base d : Nat} {sc ac ac' : List Value} {S : DS} (h : OpSt w w1 base d sc ac S) (hs : Stored w1 w2 (w.heap.size + 1 + 1 + 1 + 1) 56 ac') : OpSt w w2 base d sc ac' S :=
  ⟨hs.other h.p (by omega), hs.other h.k (by omega), hs.other h.e (by omega), hs.other h.s (by omega), hs.blk, h.at_.same (same_stored h.a hs (by decide)), h.ge, hs.below h.bel (by have := h.ge; omega), h.keeps.below_new (hs.bel.mono (by omega))⟩
theorem sopn_start {w : World} {base d : Nat} {S : DS} (h : DiskAt w base d S.lasts S.now S.cs) (hb : base ≤ w.heap.size) (W : World)
    (hW : W = (((((w.alloc (.cells #[(.pointer (some ⟨w.heap.size + 1 + 1 + 1, 0, none⟩))] 35)).alloc (.cells #[.int .i64 0, .int .i64 0, .int .i64 0, .int .i64 0, .slice none 0 0, .slice none 0 0, .string ⟨#[]⟩, .slice none 0 0] 38)).alloc (.cells #[.int .i64 0] 39)).alloc (.cells #[.pointer (some ⟨d, 0, none⟩), .pointer none, .int .i64 0, .int .i64 0, .int .i64 0, .int .i64 0, .int .i64 0, .int .i64 0, .slice none 0 0, .slice none 0 0, .string ⟨#[]⟩, .slice none 0 0] 53)).alloc (.cells #[.pointer none, .int .i64 0, .bool false, .int .i64 0, .int .i64 0, .int .i64 0, .int .i64 0, .slice none 0 0, .slice none 0 0, .string ⟨#[]⟩, .slice none 0 0, .pointer none, .int .i64 0, .bool false, .int .i64 0, .int .i64 0, .int .i64 0, .int .i64 0, .slice none 0 0, .slice none 0 0, .string ⟨#[]⟩, .slice none 0 0] 56))) : OpSt w W base d [.pointer (some ⟨d, 0, none⟩), .pointer none, .int .i64 0, .int .i64 0, .int .i64 0, .int .i64 0, .int .i64 0, .int .i64 0, .slice none 0 0, .slice none 0 0, .string ⟨#[]⟩, .slice none 0 0] [.pointer none, .int .i64 0, .bool false, .int .i64 0, .int .i64 0, .int .i64 0, .int .i64 0, .slice none 0 0, .slice none 0 0, .string ⟨#[]⟩, .slice none 0 0, .pointer none, .int .i64 0, .bool false, .int .i64 0, .int .i64 0, .int .i64 0, .int .i64 0, .slice none 0 0, .slice none 0 0, .string ⟨#[]⟩, .slice none 0 0] S := by
  have q1 := Blk.new w 35 [(.pointer (some ⟨w.heap.size + 1 + 1 + 1, 0, none⟩))]
  have q2 := Blk.new (w.alloc (.cells #[(.pointer (some ⟨w.heap.size + 1 + 1 + 1, 0, none⟩))] 35)) 38 [.int .i64 0, .int .i64 0, .int .i64 0, .int .i64 0, .slice none 0 0, .slice none 0 0, .string ⟨#[]⟩, .slice none 0 0]
  have q3 := Blk.new ((w.alloc (.cells #[(.pointer (some ⟨w.heap.size + 1 + 1 + 1, 0, none⟩))] 35)).alloc (.cells #[.int .i64 0, .int .i64 0, .int .i64 0, .int .i64 0, .slice none 0 0, .slice none 0 0, .string ⟨#[]⟩, .slice none 0 0] 38)) 39 [.int .i64 0]
  have q4 := Blk.new (((w.alloc (.cells #[(.pointer (some ⟨w.heap.size + 1 + 1 + 1, 0, none⟩))] 35)).alloc (.cells #[.int .i64 0, .int .i64 0, .int .i64 0, .int .i64 0, .slice none 0 0, .slice none 0 0, .string ⟨#[]⟩, .slice none 0 0] 38)).alloc (.cells #[.int .i64 0] 39)) 53 [.pointer (some ⟨d, 0, none⟩), .pointer none, .int .i64 0, .int .i64 0, .int .i64 0, .int .i64 0, .int .i64 0, .int .i64 0, .slice none 0 0, .slice none 0 0, .string ⟨#[]⟩, .slice none 0 0]
  have q5 := Blk.new ((((w.alloc (.cells #[(.pointer (some ⟨w.heap.size + 1 + 1 + 1, 0, none⟩))] 35)).alloc (.cells #[.int .i64 0, .int .i64 0, .int .i64 0, .int .i64 0, .slice none 0 0, .slice none 0 0, .string ⟨#[]⟩, .slice none 0 0] 38)).alloc (.cells #[.int .i64 0] 39)).alloc (.cells #[.pointer (some ⟨d, 0, none⟩), .pointer none, .int .i64 0, .int .i64 0, .int .i64 0, .int .i64 0, .int .i64 0, .int .i64 0, .slice none 0 0, .slice none 0 0, .string ⟨#[]⟩, .slice none 0 0] 53)) 56 [.pointer none, .int .i64 0, .bool false, .int .i64 0, .int .i64 0, .int .i64 0, .int .i64 0, .slice none 0 0, .slice none 0 0, .string ⟨#[]⟩, .slice none 0 0, .pointer none, .int .i64 0, .bool false, .int .i64 0, .int .i64 0, .int .i64 0, .int .i64 0, .slice none 0 0, .slice none 0 0, .string ⟨#[]⟩, .slice none 0 0]
  simp only [World.size_alloc] at q2 q3 q4 q5
  have hbel : Below w.heap.size w W := by
    rw [hW]
    exact (((((Below.refl _ _).alloc (Nat.le_refl _) _).alloc (by simp) _).alloc (by simp; omega) _).alloc (by simp; omega) _).alloc (by simp; omega) _
  refine ⟨?_, ?_, ?_, ?_, ?_, h.same (SameD.of_below hbel), hb, hbel.mono hb, Keeps.of_below hbel (Nat.le_refl _)⟩
  · rw [hW]; exact (((q1.alloc _).alloc _).alloc _).alloc _
  · rw [hW]; exact ((q2.alloc _).alloc _).alloc _
  · rw [hW]; exact (q3.alloc _).alloc _
  · rw [hW]; exact q4.alloc _
  · rw [hW]; exact q5
/-- What has been told behind q rounds. -/
def acOf : Nat → List Value → Prop
  | 0, ac => ac = [.pointer none, .int .i64 0, .bool false, .int .i64 0, .int .i64 0, .int .i64 0, .int .i64 0, .slice none 0 0, .slice none 0 0, .string ⟨#[]⟩, .slice none 0 0, .pointer none, .int .i64 0, .bool false, .int .i64 0, .int .i64 0, .int .i64 0, .int .i64 0, .slice none 0 0, .slice none 0 0, .string ⟨#[]⟩, .slice none 0 0]
  | 1, ac => ∃ j0, ac = [.pointer (some ⟨j0, 0, none⟩), .int .i64 0, .bool false, .int .i64 0, .int .i64 0, .int .i64 0, .int .i64 0, .slice none 0 0, .slice none 0 0, .string ⟨#[]⟩, .slice none 0 0, .pointer none, .int .i64 0, .bool false, .int .i64 0, .int .i64 0, .int .i64 0, .int .i64 0, .slice none 0 0, .slice none 0 0, .string ⟨#[]⟩, .slice none 0 0]
  | _, ac => ∃ j0 j1, ac = [.pointer (some ⟨j0, 0, none⟩), .int .i64 0, .bool false, .int .i64 0, .int .i64 0, .int .i64 0, .int .i64 0, .slice none 0 0, .slice none 0 0, .string ⟨#[]⟩, .slice none 0 0, .pointer (some ⟨j1, 0, none⟩), .int .i64 0, .bool false, .int .i64 0, .int .i64 0, .int .i64 0, .int .i64 0, .slice none 0 0, .slice none 0 0, .string ⟨#[]⟩, .slice none 0 0]
set_option maxHeartbeats 6400000 in
theorem sopen_fresh {w : World} {base d : Nat} {s0 s1 s2 s4 sw s5 : DS} (h : DiskAt w base d s0.lasts s0.now s0.cs) (hbw : base ≤ w.heap.size) (hT : Tab w) (hN : NmAt w) (hTb : 3 < base)
    (hgt : ∀ q, q < 2 → s0.now.get (nmOf q ++ endL) = none ∧ s0.now.get (nmOf q ++ endM) = none) (hr : ∀ r ∈ recs Kep.zero, RcOk r) (ss : List (List UInt8)) (hss : ss = gnS 1 :: ((recs Kep.zero).map rcS ++ [enS]))
    (h1 : SyncS (nmA ++ endM) (rmS (nmA ++ endM) s0) s1) (h2 : SyncS (nmA ++ endL) (rmS (nmA ++ endL) s1) s2) (hs0 : Small s0) (hs1 : Small s1) (hs2 : Small s2) (hnl : s2.now.get (nmA ++ endL) = none) (hnm : s2.now.get (nmA ++ endM) = none)
    (hf : ∀ i, i ≤ ss.length → Fit (nmA ++ endL) (logB (ss.take i)).length (appF (nmA ++ endL) (ss.take i) 0 s2)) (h4 : SyncS (nmA ++ endL) (appF (nmA ++ endL) ss 0 s2) s4) (hs4 : Small s4) (hl4 : s4.now.length ≤ 15) (hm4 : (s4.now.get (nmA ++ endM)).getD [] = []) (hw : sw = wrS (nmA ++ endM) 0 (frameOf (low (logB ss).length 4)) s4) (hsw : Small sw) (h5 : SyncS (nmA ++ endM) sw s5) :
    Calls Tryz.prog 5 #[.pointer (some ⟨d, 0, none⟩)] w fun e w' => ∃ s j, e = .returned (.tuple #[.pointer (some ⟨s, 0, none⟩), .agg #[.int .i64 0, .int .i64 0, .int .i64 0, .int .i64 0, .slice none 0 0, .slice none 0 0, .string ⟨#[]⟩, .slice none 0 0], .int .i64 0]) ∧ base ≤ s ∧ base ≤ j ∧ DiskAt w' base d s5.lasts s5.now s5.cs ∧ Blk w' s 53 [.pointer (some ⟨d, 0, none⟩), .pointer (some ⟨j, 0, none⟩), .int .i64 0, .int .i64 1, .int .i64 0, .int .i64 0, .int .i64 0, .int .i64 0, .slice none 0 0, .slice none 0 0, .string ⟨#[]⟩, .slice none 0 0] ∧ Blk w' j 96 (jCs d nmA (logB ss).length 12 (logB ss).length ss.length ss.length) ∧ Below base w w' ∧ Keeps [80, 106, 96, 53] w w' := by
  have HIT : Hid ((Tryz.prog.info? 55).map (·.size) = some 11) := Lib.hid (by kernel_rfl)
  have HIK : Hid ((Tryz.prog.info? 38).map (·.size) = some 8) := Lib.hid (by kernel_rfl)
  have H := Lib.hid h
  have HT := Lib.hid hT
  have HN := Lib.hid hN
  have HGT := Lib.hid hgt
  have HBG := Lib.hid (fun (wa : World) (s : Nat) (a : DiskAt wa base d s0.lasts s0.now s0.cs) b (c : Tab wa) (e : NmAt wa) f g => begin0_any (w := wa) (s := s) (j0 := .pointer none) (at0 := 0) (gen0 := 0) (k := Kep.zero) (A := none) (c := 0) (B := none) (d' := 0) (E := none) (n := 0) a b c e hTb f g ⟨rfl, rfl, rfl⟩ hr ss hss h1 h2 hs0 hs1 hs2 hnl hnm hf h4 hs4 hl4 hm4 hw hsw h5)
  have hgb : 0 < base := by omega
  have n0 : w.cell? ⟨0, 0, none⟩ = some (.string (text nmA)) := hN.1
  have n1 : w.cell? ⟨0, 1, none⟩ = some (.string (text nmB)) := hN.2
  have i0 : ∀ w, (Instr.index 57 (.agg #[.string (text nmA), .string (text nmB)]) (.int .i64 0)).run Tryz.prog w = .ok (.string (text nmA)) w := fun _ => by kernel_rfl
  have i1 : ∀ w, (Instr.index 57 (.agg #[.string (text nmA), .string (text nmB)]) (.int .i64 1)).run Tryz.prog w = .ok (.string (text nmB)) w := fun _ => by kernel_rfl
  clear h hT hN hgt hr hss h1 h2 hnl hnm hf h4 hm4 hw h5
  go_enter_defers Tryz.func5, Tryz.ntmps5
  go_wp2_with fail
  refine (Down_any (H.out.same (SameD.of_below (((Below.refl w.heap.size w).alloc (Nat.le_refl _) _).alloc (by simp) _ |>.alloc (by simp; omega) _)))).mono ?_
  rintro e w1 ⟨rfl, rfl⟩
  go_upto_region 10 with (fail)
  refine at_worldC _ fun W hW => ?_
  have HO0 := Lib.hid (sopn_start H.out hbw W hW)
  clear hW n0 n1
  have HNW := Lib.hid (HN.out.below HO0.out.bel hgb)
  have n0 : W.cell? ⟨0, 0, none⟩ = some (.string (text nmA)) := HNW.out.1
  have n1 : W.cell? ⟨0, 1, none⟩ = some (.string (text nmB)) := HNW.out.2
  go_wp2_with fail
  clear n0 n1
  go_loopw [22, 5] (fun i b wr => ∃ (q : Nat) (ac : List Value), q ≤ 2 ∧ i = .int .i64 q ∧ b = .int .i64 (-1) ∧ Hid (acOf q ac) ∧ Hid (OpSt w wr base d [.pointer (some ⟨d, 0, none⟩), .pointer none, .int .i64 0, .int .i64 0, .int .i64 0, .int .i64 0, .int .i64 0, .int .i64 0, .slice none 0 0, .slice none 0 0, .string ⟨#[]⟩, .slice none 0 0] ac s0)) (fun i _ _ => 2 - (intOf i).toNat)
  case atStart => exact ⟨0, _, by omega, rfl, rfl, Lib.hid rfl, HO0⟩
  case round =>
    obtain ⟨q, ac, hq, rfl, rfl, hac, HO⟩ := hrel
    replace hac := hac.out
    have hq2 : q = 0 ∨ q = 1 ∨ q = 2 := by omega
    rcases hq2 with rfl | rfl | rfl
    · subst hac
      have hgl := HGT.out 0 (by omega)
      go_wp2_with fail
      refine (read_empty (name := nmA) HO.out.at_ HO.out.size (HT.out.below HO.out.bel (by omega)) hTb (by decide) (by decide) hs0 hgl.1 hgl.2).mono ?_
      rintro e w1 ⟨jq, rfl, hjq, _, hb1⟩
      rw [show (toldE jq).toArray = #[.pointer (some ⟨jq, 0, none⟩), .int .i64 0, .bool false, .int .i64 0, .int .i64 0, .int .i64 0, .int .i64 0, .slice none 0 0, .slice none 0 0, .string ⟨#[]⟩, .slice none 0 0] from rfl]
      have HO1 := Lib.hid (HO.out.below hb1)
      have HA1 := Lib.hid HO1.out.a
      clear hb1 hgl hjq
      go_wp2_with (first
        | ((with_reducible refine wpList_store_at rfl 55 _ _ rfl (w.heap.size + 1 + 1 + 1 + 1) 0 rfl HA1 [] [.pointer none, .int .i64 0, .bool false, .int .i64 0, .int .i64 0, .int .i64 0, .int .i64 0, .slice none 0 0, .slice none 0 0, .string ⟨#[]⟩, .slice none 0 0] [.pointer none, .int .i64 0, .bool false, .int .i64 0, .int .i64 0, .int .i64 0, .int .i64 0, .slice none 0 0, .slice none 0 0, .string ⟨#[]⟩, .slice none 0 0] [.pointer (some ⟨jq, 0, none⟩), .int .i64 0, .bool false, .int .i64 0, .int .i64 0, .int .i64 0, .int .i64 0, .slice none 0 0, .slice none 0 0, .string ⟨#[]⟩, .slice none 0 0] rfl rfl rfl (by simp) (by simp) HIT (by simp [Value.oneCell']) ?_)
           intro w2 V)
        | fail)
      have HO2 : Hid (OpSt w w2 base d [.pointer (some ⟨d, 0, none⟩), .pointer none, .int .i64 0, .int .i64 0, .int .i64 0, .int .i64 0, .int .i64 0, .int .i64 0, .slice none 0 0, .slice none 0 0, .string ⟨#[]⟩, .slice none 0 0] [.pointer (some ⟨jq, 0, none⟩), .int .i64 0, .bool false, .int .i64 0, .int .i64 0, .int .i64 0, .int .i64 0, .slice none 0 0, .slice none 0 0, .string ⟨#[]⟩, .slice none 0 0, .pointer none, .int .i64 0, .bool false, .int .i64 0, .int .i64 0, .int .i64 0, .int .i64 0, .slice none 0 0, .slice none 0 0, .string ⟨#[]⟩, .slice none 0 0] s0) := Lib.hid (HO1.out.stA V.out)
      have HN2 := Lib.hid (HN.out.below HO2.out.bel hgb)
      clear HO1 HA1 V
      have cf : w2.cell? ⟨w.heap.size + 1 + 1 + 1 + 1, 2, none⟩ = some (.bool false) := HO2.out.a.cell 2
      refine wp_region_noPanic ?_
      refine wp_region_held_drew (S := fun w' => w'.cell? ⟨w.heap.size + 1 + 1 + 1 + 1, 2, none⟩ = some (.bool false)) (by kernel_rfl) cf (fun HD => ?_)
      refine wpAnyH_take (i := 0) (oi := ⟨some 31, _, _, _, _, _⟩) (v := (.int .i64 0)) rfl (by kernel_rfl) (by kernel_rfl) (by kernel_rfl) (fun _ _ _ h => h) (Or.inl ⟨by rfl, ?_⟩) HD ?_
      · intro w' hw'
        (go_simp; try with_reducible rfl)
      (try simp only [Act.put, List.setIfInBounds_toArray, List.set_cons_zero, List.set_cons_succ])
      refine wpAnyH_take (i := 1) (oi := ⟨some 32, _, _, _, _, _⟩) (v := (.pointer (some ⟨w.heap.size + 1 + 1 + 1 + 1, 0, none⟩))) rfl (by kernel_rfl) (by kernel_rfl) (by kernel_rfl) (fun _ _ _ h => h) (Or.inl ⟨by rfl, ?_⟩) HD ?_
      · intro w' hw'
        (go_simp; try with_reducible rfl)
      (try simp only [Act.put, List.setIfInBounds_toArray, List.set_cons_zero, List.set_cons_succ])
      refine wpAnyH_take (i := 2) (oi := ⟨some 33, _, _, _, _, _⟩) (v := (.pointer (some ⟨w.heap.size + 1 + 1 + 1 + 1, 2, none⟩))) rfl (by kernel_rfl) (by kernel_rfl) (by kernel_rfl) (fun _ _ _ h => h) (Or.inl ⟨by rfl, ?_⟩) HD ?_
      · intro w' hw'
        (go_simp; try with_reducible rfl)
      (try simp only [Act.put, List.setIfInBounds_toArray, List.set_cons_zero, List.set_cons_succ])
      refine wpAnyH_take (i := 3) (oi := ⟨some 34, _, _, _, _, _⟩) (v := (.bool false)) rfl (by kernel_rfl) (by kernel_rfl) (by kernel_rfl) (fun _ _ _ h => h) (Or.inl ⟨by rfl, ?_⟩) HD ?_
      · intro w' hw'
        (go_simp; try with_reducible rfl)
      (try simp only [Act.put, List.setIfInBounds_toArray, List.set_cons_zero, List.set_cons_succ])
      refine wpAnyH_take (i := 4) (oi := ⟨some 35, _, _, _, _, _⟩) (v := (.bool false)) rfl (by kernel_rfl) (by kernel_rfl) (by kernel_rfl) (fun _ _ _ h => h) (Or.inl ⟨by rfl, ?_⟩) HD ?_
      · intro w' hw'
        (go_simp; try with_reducible rfl)
      (try simp only [Act.put, List.setIfInBounds_toArray, List.set_cons_zero, List.set_cons_succ])
      refine wpAnyH_take (i := 5) (oi := ⟨some 36, _, _, _, _, _⟩) (v := undef) rfl (by kernel_rfl) (by kernel_rfl) (by kernel_rfl) (fun _ _ _ h => h) (Or.inr ⟨by rfl, rfl⟩) HD ?_
      (try simp only [Act.put, List.setIfInBounds_toArray, List.set_cons_zero, List.set_cons_succ])
      refine wpAnyH_take (i := 6) (oi := ⟨some 37, _, _, _, _, _⟩) (v := undef) rfl (by kernel_rfl) (by kernel_rfl) (by kernel_rfl) (fun _ _ _ h => h) (Or.inr ⟨by rfl, rfl⟩) HD ?_
      (try simp only [Act.put, List.setIfInBounds_toArray, List.set_cons_zero, List.set_cons_succ])
      refine wpAnyH_take (i := 7) (oi := ⟨some 38, _, _, _, _, _⟩) (v := undef) rfl (by kernel_rfl) (by kernel_rfl) (by kernel_rfl) (fun _ _ _ h => h) (Or.inr ⟨by rfl, rfl⟩) HD ?_
      (try simp only [Act.put, List.setIfInBounds_toArray, List.set_cons_zero, List.set_cons_succ])
      refine wpAnyH_take (i := 8) (oi := ⟨some 39, _, _, _, _, _⟩) (v := undef) rfl (by kernel_rfl) (by kernel_rfl) (by kernel_rfl) (fun _ _ _ h => h) (Or.inr ⟨by rfl, rfl⟩) HD ?_
      (try simp only [Act.put, List.setIfInBounds_toArray, List.set_cons_zero, List.set_cons_succ])
      refine wpAnyH_take (i := 9) (oi := ⟨some 40, _, _, _, _, _⟩) (v := undef) rfl (by kernel_rfl) (by kernel_rfl) (by kernel_rfl) (fun _ _ _ h => h) (Or.inr ⟨by rfl, rfl⟩) HD ?_
      (try simp only [Act.put, List.setIfInBounds_toArray, List.set_cons_zero, List.set_cons_succ])
      refine wpAnyH_take (i := 10) (oi := ⟨some 41, _, _, _, _, _⟩) (v := undef) rfl (by kernel_rfl) (by kernel_rfl) (by kernel_rfl) (fun _ _ _ h => h) (Or.inr ⟨by rfl, rfl⟩) HD ?_
      (try simp only [Act.put, List.setIfInBounds_toArray, List.set_cons_zero, List.set_cons_succ])
      refine wpAnyH_take (i := 11) (oi := ⟨some 42, _, _, _, _, _⟩) (v := undef) rfl (by kernel_rfl) (by kernel_rfl) (by kernel_rfl) (fun _ _ _ h => h) (Or.inr ⟨by rfl, rfl⟩) HD ?_
      (try simp only [Act.put, List.setIfInBounds_toArray, List.set_cons_zero, List.set_cons_succ])
      refine wpAnyH_take (i := 12) (oi := ⟨some 43, _, _, _, _, _⟩) (v := undef) rfl (by kernel_rfl) (by kernel_rfl) (by kernel_rfl) (fun _ _ _ h => h) (Or.inr ⟨by rfl, rfl⟩) HD ?_
      (try simp only [Act.put, List.setIfInBounds_toArray, List.set_cons_zero, List.set_cons_succ])
      refine wpAnyH_take (i := 13) (oi := ⟨some 44, _, _, _, _, _⟩) (v := undef) rfl (by kernel_rfl) (by kernel_rfl) (by kernel_rfl) (fun _ _ _ h => h) (Or.inr ⟨by rfl, rfl⟩) HD ?_
      (try simp only [Act.put, List.setIfInBounds_toArray, List.set_cons_zero, List.set_cons_succ])
      refine wpAnyH_take (i := 14) (oi := ⟨some 45, _, _, _, _, _⟩) (v := undef) rfl (by kernel_rfl) (by kernel_rfl) (by kernel_rfl) (fun _ _ _ h => h) (Or.inr ⟨by rfl, rfl⟩) HD ?_
      (try simp only [Act.put, List.setIfInBounds_toArray, List.set_cons_zero, List.set_cons_succ])
      refine wpAnyH_take (i := 15) (oi := ⟨some 46, _, _, _, _, _⟩) (v := undef) rfl (by kernel_rfl) (by kernel_rfl) (by kernel_rfl) (fun _ _ _ h => h) (Or.inr ⟨by rfl, rfl⟩) HD ?_
      (try simp only [Act.put, List.setIfInBounds_toArray, List.set_cons_zero, List.set_cons_succ])
      refine wpAnyH_take (i := 16) (oi := ⟨some 47, _, _, _, _, _⟩) (v := undef) rfl (by kernel_rfl) (by kernel_rfl) (by kernel_rfl) (fun _ _ _ h => h) (Or.inr ⟨by rfl, rfl⟩) HD ?_
      (try simp only [Act.put, List.setIfInBounds_toArray, List.set_cons_zero, List.set_cons_succ])
      refine wpAnyH_take (i := 17) (oi := ⟨some 48, _, _, _, _, _⟩) (v := undef) rfl (by kernel_rfl) (by kernel_rfl) (by kernel_rfl) (fun _ _ _ h => h) (Or.inr ⟨by rfl, rfl⟩) HD ?_
      (try simp only [Act.put, List.setIfInBounds_toArray, List.set_cons_zero, List.set_cons_succ])
      refine wpAnyH_take (i := 18) (oi := ⟨some 49, _, _, _, _, _⟩) (v := (.bool false)) rfl (by kernel_rfl) (by kernel_rfl) (by kernel_rfl) (fun _ _ _ h => h) (Or.inl ⟨by rfl, ?_⟩) HD ?_
      · intro w' hw'
        (go_simp; try with_reducible rfl)
      (try simp only [Act.put, List.setIfInBounds_toArray, List.set_cons_zero, List.set_cons_succ])
      refine wpAnyH_done (by kernel_rfl) (NoPanic.normal ?_) _
      clear HD cf
      have HO3 := Lib.hid HO2.out.drew
      have HN3 := Lib.hid (HN2.out.below (Below.refl base w2).drew hgb)
      go_wp2_with fail
      go_roundw
      case rel => exact ⟨1, _, by omega, by go_num, rfl, Lib.hid ⟨jq, rfl⟩, HO3⟩
      case measure => simp [intOf]
    · obtain ⟨j0, rfl⟩ := hac
      have hgl := HGT.out 1 (by omega)
      go_wp2_with fail
      refine (read_empty (name := nmB) HO.out.at_ HO.out.size (HT.out.below HO.out.bel (by omega)) hTb (by decide) (by decide) hs0 hgl.1 hgl.2).mono ?_
      rintro e w1 ⟨jq, rfl, hjq, _, hb1⟩
      rw [show (toldE jq).toArray = #[.pointer (some ⟨jq, 0, none⟩), .int .i64 0, .bool false, .int .i64 0, .int .i64 0, .int .i64 0, .int .i64 0, .slice none 0 0, .slice none 0 0, .string ⟨#[]⟩, .slice none 0 0] from rfl]
      have HO1 := Lib.hid (HO.out.below hb1)
      have HA1 := Lib.hid HO1.out.a
      clear hb1 hgl hjq
      go_wp2_with (first
        | ((with_reducible refine wpList_store_at rfl 55 _ _ rfl (w.heap.size + 1 + 1 + 1 + 1) 11 rfl HA1 [.pointer (some ⟨j0, 0, none⟩), .int .i64 0, .bool false, .int .i64 0, .int .i64 0, .int .i64 0, .int .i64 0, .slice none 0 0, .slice none 0 0, .string ⟨#[]⟩, .slice none 0 0] [.pointer none, .int .i64 0, .bool false, .int .i64 0, .int .i64 0, .int .i64 0, .int .i64 0, .slice none 0 0, .slice none 0 0, .string ⟨#[]⟩, .slice none 0 0] [] [.pointer (some ⟨jq, 0, none⟩), .int .i64 0, .bool false, .int .i64 0, .int .i64 0, .int .i64 0, .int .i64 0, .slice none 0 0, .slice none 0 0, .string ⟨#[]⟩, .slice none 0 0] rfl rfl rfl (by simp) (by simp) HIT (by simp [Value.oneCell']) ?_)
           intro w2 V)
        | fail)
      have HO2 : Hid (OpSt w w2 base d [.pointer (some ⟨d, 0, none⟩), .pointer none, .int .i64 0, .int .i64 0, .int .i64 0, .int .i64 0, .int .i64 0, .int .i64 0, .slice none 0 0, .slice none 0 0, .string ⟨#[]⟩, .slice none 0 0] [.pointer (some ⟨j0, 0, none⟩), .int .i64 0, .bool false, .int .i64 0, .int .i64 0, .int .i64 0, .int .i64 0, .slice none 0 0, .slice none 0 0, .string ⟨#[]⟩, .slice none 0 0, .pointer (some ⟨jq, 0, none⟩), .int .i64 0, .bool false, .int .i64 0, .int .i64 0, .int .i64 0, .int .i64 0, .slice none 0 0, .slice none 0 0, .string ⟨#[]⟩, .slice none 0 0] s0) := Lib.hid (HO1.out.stA V.out)
      have HN2 := Lib.hid (HN.out.below HO2.out.bel hgb)
      clear HO1 HA1 V
      have cf : w2.cell? ⟨w.heap.size + 1 + 1 + 1 + 1, 13, none⟩ = some (.bool false) := HO2.out.a.cell 13
      refine wp_region_noPanic ?_
      refine wp_region_held_drew (S := fun w' => w'.cell? ⟨w.heap.size + 1 + 1 + 1 + 1, 13, none⟩ = some (.bool false)) (by kernel_rfl) cf (fun HD => ?_)
      refine wpAnyH_take (i := 0) (oi := ⟨some 31, _, _, _, _, _⟩) (v := (.int .i64 1)) rfl (by kernel_rfl) (by kernel_rfl) (by kernel_rfl) (fun _ _ _ h => h) (Or.inl ⟨by rfl, ?_⟩) HD ?_
      · intro w' hw'
        (go_simp; try with_reducible rfl)
      (try simp only [Act.put, List.setIfInBounds_toArray, List.set_cons_zero, List.set_cons_succ])
      refine wpAnyH_take (i := 1) (oi := ⟨some 32, _, _, _, _, _⟩) (v := (.pointer (some ⟨w.heap.size + 1 + 1 + 1 + 1, 11, none⟩))) rfl (by kernel_rfl) (by kernel_rfl) (by kernel_rfl) (fun _ _ _ h => h) (Or.inl ⟨by rfl, ?_⟩) HD ?_
      · intro w' hw'
        (go_simp; try with_reducible rfl)
      (try simp only [Act.put, List.setIfInBounds_toArray, List.set_cons_zero, List.set_cons_succ])
      refine wpAnyH_take (i := 2) (oi := ⟨some 33, _, _, _, _, _⟩) (v := (.pointer (some ⟨w.heap.size + 1 + 1 + 1 + 1, 13, none⟩))) rfl (by kernel_rfl) (by kernel_rfl) (by kernel_rfl) (fun _ _ _ h => h) (Or.inl ⟨by rfl, ?_⟩) HD ?_
      · intro w' hw'
        (go_simp; try with_reducible rfl)
      (try simp only [Act.put, List.setIfInBounds_toArray, List.set_cons_zero, List.set_cons_succ])
      refine wpAnyH_take (i := 3) (oi := ⟨some 34, _, _, _, _, _⟩) (v := (.bool false)) rfl (by kernel_rfl) (by kernel_rfl) (by kernel_rfl) (fun _ _ _ h => h) (Or.inl ⟨by rfl, ?_⟩) HD ?_
      · intro w' hw'
        (go_simp; try with_reducible rfl)
      (try simp only [Act.put, List.setIfInBounds_toArray, List.set_cons_zero, List.set_cons_succ])
      refine wpAnyH_take (i := 4) (oi := ⟨some 35, _, _, _, _, _⟩) (v := (.bool false)) rfl (by kernel_rfl) (by kernel_rfl) (by kernel_rfl) (fun _ _ _ h => h) (Or.inl ⟨by rfl, ?_⟩) HD ?_
      · intro w' hw'
        (go_simp; try with_reducible rfl)
      (try simp only [Act.put, List.setIfInBounds_toArray, List.set_cons_zero, List.set_cons_succ])
      refine wpAnyH_take (i := 5) (oi := ⟨some 36, _, _, _, _, _⟩) (v := undef) rfl (by kernel_rfl) (by kernel_rfl) (by kernel_rfl) (fun _ _ _ h => h) (Or.inr ⟨by rfl, rfl⟩) HD ?_
      (try simp only [Act.put, List.setIfInBounds_toArray, List.set_cons_zero, List.set_cons_succ])
      refine wpAnyH_take (i := 6) (oi := ⟨some 37, _, _, _, _, _⟩) (v := undef) rfl (by kernel_rfl) (by kernel_rfl) (by kernel_rfl) (fun _ _ _ h => h) (Or.inr ⟨by rfl, rfl⟩) HD ?_
      (try simp only [Act.put, List.setIfInBounds_toArray, List.set_cons_zero, List.set_cons_succ])
      refine wpAnyH_take (i := 7) (oi := ⟨some 38, _, _, _, _, _⟩) (v := undef) rfl (by kernel_rfl) (by kernel_rfl) (by kernel_rfl) (fun _ _ _ h => h) (Or.inr ⟨by rfl, rfl⟩) HD ?_
      (try simp only [Act.put, List.setIfInBounds_toArray, List.set_cons_zero, List.set_cons_succ])
      refine wpAnyH_take (i := 8) (oi := ⟨some 39, _, _, _, _, _⟩) (v := undef) rfl (by kernel_rfl) (by kernel_rfl) (by kernel_rfl) (fun _ _ _ h => h) (Or.inr ⟨by rfl, rfl⟩) HD ?_
      (try simp only [Act.put, List.setIfInBounds_toArray, List.set_cons_zero, List.set_cons_succ])
      refine wpAnyH_take (i := 9) (oi := ⟨some 40, _, _, _, _, _⟩) (v := undef) rfl (by kernel_rfl) (by kernel_rfl) (by kernel_rfl) (fun _ _ _ h => h) (Or.inr ⟨by rfl, rfl⟩) HD ?_
      (try simp only [Act.put, List.setIfInBounds_toArray, List.set_cons_zero, List.set_cons_succ])
      refine wpAnyH_take (i := 10) (oi := ⟨some 41, _, _, _, _, _⟩) (v := undef) rfl (by kernel_rfl) (by kernel_rfl) (by kernel_rfl) (fun _ _ _ h => h) (Or.inr ⟨by rfl, rfl⟩) HD ?_
      (try simp only [Act.put, List.setIfInBounds_toArray, List.set_cons_zero, List.set_cons_succ])
      refine wpAnyH_take (i := 11) (oi := ⟨some 42, _, _, _, _, _⟩) (v := undef) rfl (by kernel_rfl) (by kernel_rfl) (by kernel_rfl) (fun _ _ _ h => h) (Or.inr ⟨by rfl, rfl⟩) HD ?_
      (try simp only [Act.put, List.setIfInBounds_toArray, List.set_cons_zero, List.set_cons_succ])
      refine wpAnyH_take (i := 12) (oi := ⟨some 43, _, _, _, _, _⟩) (v := undef) rfl (by kernel_rfl) (by kernel_rfl) (by kernel_rfl) (fun _ _ _ h => h) (Or.inr ⟨by rfl, rfl⟩) HD ?_
      (try simp only [Act.put, List.setIfInBounds_toArray, List.set_cons_zero, List.set_cons_succ])
      refine wpAnyH_take (i := 13) (oi := ⟨some 44, _, _, _, _, _⟩) (v := undef) rfl (by kernel_rfl) (by kernel_rfl) (by kernel_rfl) (fun _ _ _ h => h) (Or.inr ⟨by rfl, rfl⟩) HD ?_
      (try simp only [Act.put, List.setIfInBounds_toArray, List.set_cons_zero, List.set_cons_succ])
      refine wpAnyH_take (i := 14) (oi := ⟨some 45, _, _, _, _, _⟩) (v := undef) rfl (by kernel_rfl) (by kernel_rfl) (by kernel_rfl) (fun _ _ _ h => h) (Or.inr ⟨by rfl, rfl⟩) HD ?_
      (try simp only [Act.put, List.setIfInBounds_toArray, List.set_cons_zero, List.set_cons_succ])
      refine wpAnyH_take (i := 15) (oi := ⟨some 46, _, _, _, _, _⟩) (v := undef) rfl (by kernel_rfl) (by kernel_rfl) (by kernel_rfl) (fun _ _ _ h => h) (Or.inr ⟨by rfl, rfl⟩) HD ?_
      (try simp only [Act.put, List.setIfInBounds_toArray, List.set_cons_zero, List.set_cons_succ])
      refine wpAnyH_take (i := 16) (oi := ⟨some 47, _, _, _, _, _⟩) (v := undef) rfl (by kernel_rfl) (by kernel_rfl) (by kernel_rfl) (fun _ _ _ h => h) (Or.inr ⟨by rfl, rfl⟩) HD ?_
      (try simp only [Act.put, List.setIfInBounds_toArray, List.set_cons_zero, List.set_cons_succ])
      refine wpAnyH_take (i := 17) (oi := ⟨some 48, _, _, _, _, _⟩) (v := undef) rfl (by kernel_rfl) (by kernel_rfl) (by kernel_rfl) (fun _ _ _ h => h) (Or.inr ⟨by rfl, rfl⟩) HD ?_
      (try simp only [Act.put, List.setIfInBounds_toArray, List.set_cons_zero, List.set_cons_succ])
      refine wpAnyH_take (i := 18) (oi := ⟨some 49, _, _, _, _, _⟩) (v := (.bool false)) rfl (by kernel_rfl) (by kernel_rfl) (by kernel_rfl) (fun _ _ _ h => h) (Or.inl ⟨by rfl, ?_⟩) HD ?_
      · intro w' hw'
        (go_simp; try with_reducible rfl)
      (try simp only [Act.put, List.setIfInBounds_toArray, List.set_cons_zero, List.set_cons_succ])
      refine wpAnyH_done (by kernel_rfl) (NoPanic.normal ?_) _
      clear HD cf
      have HO3 := Lib.hid HO2.out.drew
      have HN3 := Lib.hid (HN2.out.below (Below.refl base w2).drew hgb)
      go_wp2_with fail
      go_roundw
      case rel => exact ⟨2, _, by omega, by go_num, rfl, Lib.hid ⟨j0, jq, rfl⟩, HO3⟩
      case measure => simp [intOf]
    · obtain ⟨j0, j1, rfl⟩ := hac
      have cp : wr.cell? ⟨w.heap.size, 0, none⟩ = some (.pointer (some ⟨w.heap.size + 1 + 1 + 1, 0, none⟩)) := HO.out.p.cell 0
      go_wp2_with fail
      clear cp
      have hs0b : Blk wr (w.heap.size + 1 + 1 + 1) 53 [.pointer (some ⟨d, 0, none⟩), .pointer none, .int .i64 0, .int .i64 0, .int .i64 0, .int .i64 0, .int .i64 0, .int .i64 0, .slice none 0 0, .slice none 0 0, .string ⟨#[]⟩, .slice none 0 0] := HO.out.s
      refine (HBG.out wr (w.heap.size + 1 + 1 + 1) HO.out.at_ HO.out.size (HT.out.below HO.out.bel (by omega)) (HN.out.below HO.out.bel hgb) hs0b (by omega)).mono ?_
      rintro e w2 ⟨rfl, j, hj, hd2, hb2, hj2, hbel2, hk2⟩
      have HP := Lib.hid (HO.out.p.keeps hk2 (by decide))
      have HK := Lib.hid (HO.out.k.keeps hk2 (by decide))
      have HE := Lib.hid (HO.out.e.keeps hk2 (by decide))
      have HB2 : Hid (Blk w2 (w.heap.size + 1 + 1 + 1) 53 [.pointer (some ⟨d, 0, none⟩), .pointer (some ⟨j, 0, none⟩), .int .i64 0, .int .i64 1, .int .i64 0, .int .i64 0, .int .i64 0, .int .i64 0, .slice none 0 0, .slice none 0 0, .string ⟨#[]⟩, .slice none 0 0]) := Lib.hid hb2
      have HD2 := Lib.hid hd2
      have HJ2 := Lib.hid hj2
      have HBL2 := Lib.hid (HO.out.bel.trans hbel2)
      have HKL2 := Lib.hid ((HO.out.keeps.more (by simp)).trans hk2)
      clear hs0b hd2 hb2 hj2 hbel2 hk2 HBG
      have cp : w2.cell? ⟨w.heap.size, 0, none⟩ = some (.pointer (some ⟨w.heap.size + 1 + 1 + 1, 0, none⟩)) := HP.out.cell 0
      have fp : w2.frozen? ⟨w.heap.size, 0, none⟩ = false := HP.out.frozen 0
      have HK3 : Hid (Blk (w2.setCell ⟨w.heap.size, 0, none⟩ (.pointer (some ⟨w.heap.size + 1 + 1 + 1, 0, none⟩))) (w.heap.size + 1) 38 [.int .i64 0, .int .i64 0, .int .i64 0, .int .i64 0, .slice none 0 0, .slice none 0 0, .string ⟨#[]⟩, .slice none 0 0]) := Lib.hid (HK.out.far (by dsimp only; omega) _)
      have HE3 : Hid (Blk (w2.setCell ⟨w.heap.size, 0, none⟩ (.pointer (some ⟨w.heap.size + 1 + 1 + 1, 0, none⟩))) (w.heap.size + 1 + 1) 39 [.int .i64 0]) := Lib.hid (HE.out.far (by dsimp only; omega) _)
      have HP3 : Hid (Blk (w2.setCell ⟨w.heap.size, 0, none⟩ (.pointer (some ⟨w.heap.size + 1 + 1 + 1, 0, none⟩))) w.heap.size 35 [(.pointer (some ⟨w.heap.size + 1 + 1 + 1, 0, none⟩))]) := Lib.hid (HP.out.set_ 0 _)
      go_wp2_with (first
        | ((with_reducible refine wpList_store_blk rfl 38 _ _ rfl (w.heap.size + 1) [.int .i64 0, .int .i64 0, .int .i64 0, .int .i64 0, .slice none 0 0, .slice none 0 0, .string ⟨#[]⟩, .slice none 0 0] rfl rfl HK3 (by simp) (by simp) HIK (by simp [Value.oneCell']) ?_)
           intro w3 V
           have HE4 := Lib.hid (V.out.other HE3.out (by omega))
           have ce : w3.cell? ⟨w.heap.size + 1 + 1, 0, none⟩ = some (.int .i64 0) := HE4.out.cell 0
           have fe : w3.frozen? ⟨w.heap.size + 1 + 1, 0, none⟩ = false := HE4.out.frozen 0)
        | fail)
      clear cp fp ce fe
      have HP5 := Lib.hid ((V.out.other HP3.out (by omega)).far (p := ⟨w.heap.size + 1 + 1, 0, none⟩) (by dsimp only; omega) (.int .i64 0))
      have HK5 := Lib.hid (V.out.blk.far (p := ⟨w.heap.size + 1 + 1, 0, none⟩) (by dsimp only; omega) (.int .i64 0))
      have HE5 := Lib.hid (HE4.out.set_ 0 (.int .i64 0))
      have hne1 : w.heap.size + 1 + 1 + 1 ≠ w.heap.size + 1 := by omega
      have HS5 := Lib.hid ((V.out.other (HB2.out.far (p := ⟨w.heap.size, 0, none⟩) (by dsimp only; omega) (.pointer (some ⟨w.heap.size + 1 + 1 + 1, 0, none⟩))) hne1).far (p := ⟨w.heap.size + 1 + 1, 0, none⟩) (by dsimp only; omega) (.int .i64 0))
      have HQ : Hid (Keeps [35, 38, 39] w2 (w3.setCell ⟨w.heap.size + 1 + 1, 0, none⟩ (.int .i64 0))) := Lib.hid (((Keeps.set_ (ts := [35, 38, 39]) (i := 0) HP.out.typ (by simp) (.pointer (some ⟨w.heap.size + 1 + 1 + 1, 0, none⟩))).trans (V.out.keeps.more (by simp))).step HE4.out.typ (by simp))
      have HBL5 : Hid (Below w.heap.size w2 (w3.setCell ⟨w.heap.size + 1 + 1, 0, none⟩ (.int .i64 0))) := Lib.hid ((V.out.below ((Below.refl w.heap.size w2).setCell (by dsimp only; omega) _) (by omega)).setCell (by dsimp only; omega) _)
      have HD5 : Hid (DiskAt (w3.setCell ⟨w.heap.size + 1 + 1, 0, none⟩ (.int .i64 0)) base d s5.lasts s5.now s5.cs) := Lib.hid (((HD2.out.same (SameD.set (p := ⟨w.heap.size, 0, none⟩) HP.out.typ (by decide) (.pointer (some ⟨w.heap.size + 1 + 1 + 1, 0, none⟩)))).same (same_stored HK3.out V.out (by decide))).same (SameD.set (p := ⟨w.heap.size + 1 + 1, 0, none⟩) HE4.out.typ (by decide) (.int .i64 0)))
      clear HP3 HE3 HK3 V
      generalize w3.setCell ⟨w.heap.size + 1 + 1, 0, none⟩ (.int .i64 0) = w5 at *
      refine leaves_cons (f := 14) (args := #[(.pointer (some ⟨w.heap.size + 1 + 1, 0, none⟩))]) (by simp) (by simp [go_sem]) ?_
      refine (scaught_idle _ _).mono ?_
      rintro e u' w'' ⟨rfl, rfl, rfl⟩
      refine leaves_cons (f := 13) (args := #[(.pointer (some ⟨w.heap.size + 1 + 1, 0, none⟩)), (.pointer (some ⟨w.heap.size, 0, none⟩)), (.pointer (some ⟨w.heap.size + 1, 0, none⟩))]) (by simp [settle]) (by simp [go_sem]) ?_
      refine (sopenD_ok _ _ _ _ _ (HE5.out.cell 0)).mono ?_
      rintro e u' w'' ⟨rfl, rfl, rfl⟩
      have h0 : w''.cell? ⟨w.heap.size, 0, none⟩ = some (.pointer (some ⟨w.heap.size + 1 + 1 + 1, 0, none⟩)) := HP5.out.cell 0
      have h2 : w''.cell? ⟨w.heap.size + 1 + 1, 0, none⟩ = some (.int .i64 0) := HE5.out.cell 0
      have k0 : w''.cell? ⟨w.heap.size + 1, 0, none⟩ = some (.int .i64 0) := HK5.out.cell 0
      have k1 : w''.cell? ⟨w.heap.size + 1, 1, none⟩ = some (.int .i64 0) := HK5.out.cell 1
      have k2 : w''.cell? ⟨w.heap.size + 1, 2, none⟩ = some (.int .i64 0) := HK5.out.cell 2
      have k3 : w''.cell? ⟨w.heap.size + 1, 3, none⟩ = some (.int .i64 0) := HK5.out.cell 3
      have k4 : w''.cell? ⟨w.heap.size + 1, 4, none⟩ = some (.slice none 0 0) := HK5.out.cell 4
      have k5 : w''.cell? ⟨w.heap.size + 1, 5, none⟩ = some (.slice none 0 0) := HK5.out.cell 5
      have k6 : w''.cell? ⟨w.heap.size + 1, 6, none⟩ = some (.string ⟨#[]⟩) := HK5.out.cell 6
      have k7 : w''.cell? ⟨w.heap.size + 1, 7, none⟩ = some (.slice none 0 0) := HK5.out.cell 7
      simp [Leaves, settle, results, Tryz.results5, go_sem, h0, h2, k0, k1, k2, k3, k4, k5, k6, k7]
      exact ⟨by omega, j, hj, HD5.out, HS5.out, HJ2.out.keeps HQ.out (by decide), HBL2.out.trans (HBL5.out.mono hbw), HKL2.out.below_new HBL5.out⟩
end Go.Proofs.YtkdmfjpfanmgmaaGreatDoor
