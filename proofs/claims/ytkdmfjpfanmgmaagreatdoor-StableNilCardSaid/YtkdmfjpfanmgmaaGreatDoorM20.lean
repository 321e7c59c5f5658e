/- Joined by mkmerge.py from the proof's texts Disk5. Conditions: each theorem's own hypotheses. -/
import Derived.Test.YtkdmfjpfanmgmaaGreatDoorM18
import Derived.Test.YtkdmfjpfanmgmaaGreatDoorM19
namespace Go.Proofs.YtkdmfjpfanmgmaaGreatDoor
open Go.RowKit Le Go.Maps
set_option maxRecDepth 100000
set_option linter.unusedSimpArgs false
set_option linter.unusedVariables false
set_option maxHeartbeats 800000 in
theorem doRm_any {w : World} {base b p : Nat} {F : FM} {f : List UInt8} (h : FilesAt w base b F) (h1 : Box w base p 9 (.string (text f))) (hf : f.length ≤ maxLen) :
    Calls Tryz.prog 77 #[.map (some b), .pointer (some ⟨p, 0, none⟩)] w fun e w' => e = .returned (.tuple #[]) ∧ MapTo w w' base b (F.del f) := by
  have a0 : w.cell? ⟨p, 0, none⟩ = some (.string (text f)) := h1.2.cell 0
  obtain ⟨w2, hu, h9, h10⟩ := h.del hf 0
  have HF := Lib.hid h
  have H9 := Lib.hid h9
  have H10 := Lib.hid h10
  clear h h1 h9 h10
  go_enter Tryz.func77, Tryz.ntmps77
  go_wp2_with fail
  go_end0
  exact ⟨rfl, H9.out, Below.turned H10.out HF.out.ge, SameC.turned H10.out, Keeps.turned H10.out, fun k hk hne => (turned_same H10.out).2 k hne⟩
/-- A change may be made. -/
def Chg.Ok : Chg → FM → Prop
  | .wr f i b, F => f.length ≤ 64 ∧ i ≤ ((F.get f).getD []).length ∧ 0 < b.length ∧ ((F.get f).getD []).length ≤ 1048576 ∧ b.length ≤ 1048576 ∧ F.length < maxLen
  | .rm f, F => f.length ≤ 64
theorem ChgsAt.app {w : World} {base : Nat} {v : List Value} {c : Chg} : ∀ {cs : List Chg} {xs : List Value}, ChgsAt w base xs cs → ChgAt w base v c → ChgsAt w base (xs ++ v) (cs ++ [c])
  | [], xs, h, hv => by
    have : xs = [] := h
    subst this
    exact ⟨v, [], by simp, hv, rfl⟩
  | a :: cs, _, ⟨u, r, e, h1, h2⟩, hv => ⟨u, r ++ v, by rw [e, List.append_assoc], h1, h2.app hv⟩
theorem info_change : (Tryz.prog.info? 106).map (fun i => (i.zero, i.size, i.bytes)) = some (some (.agg #[.string ⟨#[]⟩, .nilFunc, .int .i64 0, .slice none 0 0, .bool false]), 5, 64) := by kernel_rfl
set_option maxHeartbeats 3200000 in
theorem dChange_any {w : World} {base d : Nat} {lasts now : FM} {cs : List Chg} {vs : List Value} {c : Chg} (h : DiskAt w base d lasts now cs) (hc : ChgAt w base vs c) (hk : c.Ok now) (hbw : base ≤ w.heap.size) (hcs : cs.length ≤ 1000) :
    Calls Tryz.prog 76 #[.pointer (some ⟨d, 0, none⟩), .agg vs.toArray] w fun e w' => e = .returned (.int .i64 0) ∧ DiskTo w w' base d lasts (c.run now) (cs ++ [c]) := by
  cases c with
  | wr f i m =>
    obtain ⟨i0, hi0, hz0, hz1, hz2⟩ := info_parts info_change
    have hc0 := hc
    obtain ⟨p, q, r, A, c, rfl, h1, h2, h3, h4, h5, h6⟩ := hc
    obtain ⟨k1, k2, k3, k4, k5, k6⟩ := hk
    obtain ⟨m1, m2, C, cap, xs, g1, g2, g3, g4, g5, g6⟩ := h.blk
    have b2 : w.cell? ⟨d, 2, none⟩ = some (.map (some m2)) := g1.cell 2
    have HG1 := Lib.hid g1
    have HN1 := Lib.hid g3
    have HN2 := Lib.hid g4
    have HO := Lib.hid g5
    have HC := Lib.hid g6
    have hOB : ∀ k, (Value.slice C cs.length cap).ownBlock = some k → k < w.heap.size := fun k e => (g5.lt k e).2
    have hge := h.ge
    have hd := g1.lt
    have B1 := Lib.hid h1
    have B2 := Lib.hid h2
    have B3 := Lib.hid h3
    have B4 := Lib.hid h6
    clear h1 h2 h3 h6
    clear h g1 g3 g4 g5 g6
    go_enter Tryz.func76, Tryz.ntmps76
    go_wp2_with fail
    have c1 : (w.alloc (.cells #[.string (text f), .func (.func 82) #[] #[.pointer (some ⟨p, 0, none⟩), .pointer (some ⟨q, 0, none⟩), .pointer (some ⟨r, 0, none⟩)], .int .i64 i, .slice A m.length c, .bool true] 106)).cell? ⟨w.heap.size, 1, none⟩ = some (.func (.func 82) #[] #[.pointer (some ⟨p, 0, none⟩), .pointer (some ⟨q, 0, none⟩), .pointer (some ⟨r, 0, none⟩)]) := (Blk.new w 106 [.string (text f), .func (.func 82) #[] #[.pointer (some ⟨p, 0, none⟩), .pointer (some ⟨q, 0, none⟩), .pointer (some ⟨r, 0, none⟩)], .int .i64 i, .slice A m.length c, .bool true]).cell 1
    have c2 : (w.alloc (.cells #[.string (text f), .func (.func 82) #[] #[.pointer (some ⟨p, 0, none⟩), .pointer (some ⟨q, 0, none⟩), .pointer (some ⟨r, 0, none⟩)], .int .i64 i, .slice A m.length c, .bool true] 106)).cell? ⟨d, 2, none⟩ = some (.map (some m2)) := (HG1.out.alloc _).cell 2
    refine wp_region_held_drew (S := fun w' => w'.cell? ⟨w.heap.size, 1, none⟩ = some (.func (.func 82) #[] #[.pointer (some ⟨p, 0, none⟩), .pointer (some ⟨q, 0, none⟩), .pointer (some ⟨r, 0, none⟩)]) ∧ w'.cell? ⟨d, 2, none⟩ = some (.map (some m2))) (by kernel_rfl) ⟨c1, c2⟩ (fun HD => ?_)
    clear c1 c2
    refine wpAnyH_take (i := 0) (oi := ⟨some 5, _, _, _, _, _⟩) (v := (.pointer (some ⟨w.heap.size, 1, none⟩))) rfl (by kernel_rfl) (by kernel_rfl) (by kernel_rfl) (fun _ _ _ h => h) (Or.inl ⟨by rfl, ?_⟩) HD ?_
    · intro w' hw'
      (go_simp; try with_reducible rfl)
    (try simp only [Act.put, List.setIfInBounds_toArray, List.set_cons_zero, List.set_cons_succ])
    refine wpAnyH_take (i := 1) (oi := ⟨some 6, _, _, _, _, _⟩) (v := (.func (.func 82) #[] #[.pointer (some ⟨p, 0, none⟩), .pointer (some ⟨q, 0, none⟩), .pointer (some ⟨r, 0, none⟩)])) rfl (by kernel_rfl) (by kernel_rfl) (by kernel_rfl) (fun _ _ _ h => h) (Or.inl ⟨by rfl, ?_⟩) HD ?_
    · intro w' hw'
      (go_simp; try with_reducible rfl)
    (try simp only [Act.put, List.setIfInBounds_toArray, List.set_cons_zero, List.set_cons_succ])
    refine wpAnyH_take (i := 2) (oi := ⟨some 7, _, _, _, _, _⟩) (v := (.pointer (some ⟨d, 0, none⟩))) rfl (by kernel_rfl) (by kernel_rfl) (by kernel_rfl) (fun _ _ _ h => h) (Or.inl ⟨by rfl, ?_⟩) HD ?_
    · intro w' hw'
      (go_simp; try with_reducible rfl)
    (try simp only [Act.put, List.setIfInBounds_toArray, List.set_cons_zero, List.set_cons_succ])
    refine wpAnyH_take (i := 3) (oi := ⟨some 8, _, _, _, _, _⟩) (v := (.pointer (some ⟨d, 0, none⟩))) rfl (by kernel_rfl) (by kernel_rfl) (by kernel_rfl) (fun _ _ _ h => h) (Or.inl ⟨by rfl, ?_⟩) HD ?_
    · intro w' hw'
      (go_simp; try with_reducible rfl)
    (try simp only [Act.put, List.setIfInBounds_toArray, List.set_cons_zero, List.set_cons_succ])
    refine wpAnyH_take (i := 4) (oi := ⟨some 9, _, _, _, _, _⟩) (v := (.pointer (some ⟨d, 2, none⟩))) rfl (by kernel_rfl) (by kernel_rfl) (by kernel_rfl) (fun _ _ _ h => h) (Or.inl ⟨by rfl, ?_⟩) HD ?_
    · intro w' hw'
      (go_simp; try with_reducible rfl)
    (try simp only [Act.put, List.setIfInBounds_toArray, List.set_cons_zero, List.set_cons_succ])
    refine wpAnyH_take (i := 5) (oi := ⟨some 10, _, _, _, _, _⟩) (v := (.map (some m2))) rfl (by kernel_rfl) (by kernel_rfl) (by kernel_rfl) (fun _ _ _ h => h) (Or.inl ⟨by rfl, ?_⟩) HD ?_
    · intro w' hw'
      (go_simp; try with_reducible rfl)
    (try simp only [Act.put, List.setIfInBounds_toArray, List.set_cons_zero, List.set_cons_succ])
    refine wpAnyH_ready (rs := [6]) (by kernel_rfl) (by simp) ?_
    refine AllReadyH.cons (o := ⟨some 11, _, _, _, _, _⟩) rfl (fun K hK => ?_) AllReadyH.nil
    go_simp
    have hb0 : Below w.heap.size w ((w.alloc (.cells #[.string (text f), .func (.func 82) #[] #[.pointer (some ⟨p, 0, none⟩), .pointer (some ⟨q, 0, none⟩), .pointer (some ⟨r, 0, none⟩)], .int .i64 i, .slice A m.length c, .bool true] 106)).drew) := (show Below w.heap.size w (w.alloc (.cells #[.string (text f), .func (.func 82) #[] #[.pointer (some ⟨p, 0, none⟩), .pointer (some ⟨q, 0, none⟩), .pointer (some ⟨r, 0, none⟩)], .int .i64 i, .slice A m.length c, .bool true] 106)) from (by repeat (first | with_reducible exact (Below.refl w.heap.size w) | (with_reducible refine Below.setCell ?_ (by dsimp only; (first | omega | (simp; done) | (simp; omega))) _) | (with_reducible refine Below.alloc ?_ (by (first | omega | (simp; done) | (simp; omega))) _) | with_reducible refine Below.drew ?_))).drew
    go_at_call 82
    refine (doWr_any (HN2.out.same (SameD.of_below hb0)) (B1.out.same (SameC.of_below hb0) (by decide)) (B2.out.same (SameC.of_below hb0) (by decide)) (B3.out.same (SameC.of_below hb0) (by decide)) (B4.out.same (SameC.of_below hb0)) (by unfold maxLen; omega) k2 k3 k4 k5 k6 (Nat.le_trans hbw hb0.size)).mono ?_
    rintro e w1 ⟨rfl, hM⟩
    have P1 := Lib.hid (((Blk.new w 106 [.string (text f), .func (.func 82) #[] #[.pointer (some ⟨p, 0, none⟩), .pointer (some ⟨q, 0, none⟩), .pointer (some ⟨r, 0, none⟩)], .int .i64 i, .slice A m.length c, .bool true]).drew).keeps hM.keeps (by simp))
    have P2 := Lib.hid (((HG1.out.alloc _).drew).keeps hM.keeps (by simp))
    have hzw := hb0.size
    have HN3 := Lib.hid ((HN1.out.same (SameD.of_below hb0)).other hM.c (hM.others m1 (Nat.lt_of_lt_of_le HN1.out.lt hzw) g2))
    have HM := Lib.hid hM.at_
    have HO2 := Lib.hid ((ownsRow_same HO.out (SameD.of_below hb0)).keeps hM.keeps (by simp))
    have HC2 := Lib.hid (HC.out.same ((SameC.of_below hb0).trans hM.c))
    have HBB := Lib.hid ((hb0.mono hbw).trans hM.bel)
    have HKK : Hid (Keeps [80, 106] w w1) := Lib.hid ((Keeps.of_below hb0 (Nat.le_refl _)).trans (hM.keeps.more (by simp)))
    have hzx : w.heap.size < w1.heap.size := P1.out.lt
    refine hK.out _ _ ⟨P1.out.cell 1, P2.out.cell 2⟩ (fun HD => ?_)
    clear hK K HD hM hb0 HG1 HN1 HN2 HO HC b2
    (try simp only [Act.put, List.setIfInBounds_toArray, List.set_cons_zero, List.set_cons_succ])
    refine wpAnyH_done (by kernel_rfl) ?_ _
    have q3 : w1.cell? ⟨d, 3, none⟩ = some (.slice C cs.length cap) := P2.out.cell 3
    go_wp2_with fail
    have HI : Hid ((Tryz.prog.info? 106).map (·.size) = some 5) := Lib.hid (by kernel_rfl)
    refine wp_region_last 10 (S := fun w' => w'.cell? ⟨d, 3, none⟩ = some (.slice C cs.length cap) ∧ w'.rangeAt w.heap.size 0 [.string (text f), .func (.func 82) #[] #[.pointer (some ⟨p, 0, none⟩), .pointer (some ⟨q, 0, none⟩), .pointer (some ⟨r, 0, none⟩)], .int .i64 i, .slice A m.length c, .bool true]) (by kernel_rfl) ⟨q3, P1.out.drew.range0⟩ (fun HD => ?_)
    refine LastH.take (i := 0) (oi := ⟨some 12, _, _, _, _, _⟩) (v := (.pointer (some ⟨d, 0, none⟩))) rfl (by kernel_rfl) (by kernel_rfl) (by kernel_rfl) (by kernel_rfl) (fun _ _ _ h => h) (Or.inl ⟨by rfl, ?_⟩) HD ?_
    · intro w' hw'
      (go_simp; try with_reducible rfl)
    (try simp only [Act.put, List.setIfInBounds_toArray, List.set_cons_zero, List.set_cons_succ])
    refine LastH.take (i := 1) (oi := ⟨some 13, _, _, _, _, _⟩) (v := (.pointer (some ⟨d, 0, none⟩))) rfl (by kernel_rfl) (by kernel_rfl) (by kernel_rfl) (by kernel_rfl) (fun _ _ _ h => h) (Or.inl ⟨by rfl, ?_⟩) HD ?_
    · intro w' hw'
      (go_simp; try with_reducible rfl)
    (try simp only [Act.put, List.setIfInBounds_toArray, List.set_cons_zero, List.set_cons_succ])
    refine LastH.take (i := 2) (oi := ⟨some 14, _, _, _, _, _⟩) (v := (.pointer (some ⟨d, 0, none⟩))) rfl (by kernel_rfl) (by kernel_rfl) (by kernel_rfl) (by kernel_rfl) (fun _ _ _ h => h) (Or.inl ⟨by rfl, ?_⟩) HD ?_
    · intro w' hw'
      (go_simp; try with_reducible rfl)
    (try simp only [Act.put, List.setIfInBounds_toArray, List.set_cons_zero, List.set_cons_succ])
    refine LastH.take (i := 3) (oi := ⟨some 15, _, _, _, _, _⟩) (v := (.pointer (some ⟨d, 3, none⟩))) rfl (by kernel_rfl) (by kernel_rfl) (by kernel_rfl) (by kernel_rfl) (fun _ _ _ h => h) (Or.inl ⟨by rfl, ?_⟩) HD ?_
    · intro w' hw'
      (go_simp; try with_reducible rfl)
    (try simp only [Act.put, List.setIfInBounds_toArray, List.set_cons_zero, List.set_cons_succ])
    refine LastH.take (i := 4) (oi := ⟨some 16, _, _, _, _, _⟩) (v := (.slice C cs.length cap)) rfl (by kernel_rfl) (by kernel_rfl) (by kernel_rfl) (by kernel_rfl) (fun _ _ _ h => h) (Or.inl ⟨by rfl, ?_⟩) HD ?_
    · intro w' hw'
      (go_simp; try with_reducible rfl)
    (try simp only [Act.put, List.setIfInBounds_toArray, List.set_cons_zero, List.set_cons_succ])
    refine LastH.take (i := 5) (oi := ⟨some 17, _, _, _, _, _⟩) (v := _) rfl (by kernel_rfl) (by kernel_rfl) (by kernel_rfl) (by kernel_rfl) (fun _ _ _ h => h) (yieldsIf_load_mid (by rfl) _ _ rfl (w.heap.size) 0 rfl [.string (text f), .func (.func 82) #[] #[.pointer (some ⟨p, 0, none⟩), .pointer (some ⟨q, 0, none⟩), .pointer (some ⟨r, 0, none⟩)], .int .i64 i, .slice A m.length c, .bool true] _ (fun _ h => h.2) Tryz.underlying106 rfl HI.out) HD ?_
    (try simp only [Act.put, List.setIfInBounds_toArray, List.set_cons_zero, List.set_cons_succ])
    refine LastH.one (i := 6) (o := ⟨some 18, _, _, _, _, _⟩) (by kernel_rfl) rfl (fun K hK => ?_)
    go_simp
    refine hK.out _ _ ⟨((P2.out.alloc _).drew).cell 3, (P1.out.alloc _).drew.range0⟩ ?_
    clear hK K HD
    (try simp only [Act.put, List.setIfInBounds_toArray, List.set_cons_zero, List.set_cons_succ])
    refine LastH.one (i := 7) (o := ⟨some 19, _, _, _, _, _⟩) (by kernel_rfl) rfl (fun K hK => ?_)
    have HO3 : Hid (((w1.alloc (.cells #[.string (text f), .func (.func 82) #[] #[.pointer (some ⟨p, 0, none⟩), .pointer (some ⟨q, 0, none⟩), .pointer (some ⟨r, 0, none⟩)], .int .i64 i, .slice A m.length c, .bool true] 106)).drew).ownsRow base 106 5 (.slice C cs.length cap) cs.length xs) := Lib.hid (HO2.out.alloc _).drew
    have hbz : base ≤ ((w1.alloc (.cells #[.string (text f), .func (.func 82) #[] #[.pointer (some ⟨p, 0, none⟩), .pointer (some ⟨q, 0, none⟩), .pointer (some ⟨r, 0, none⟩)], .int .i64 i, .slice A m.length c, .bool true] 106)).drew).heap.size := by have := HBB.out.size; simp; omega
    refine step_appN rfl _ _ _ rfl base 106 i0 _ 5 64 Tryz.underlying78 hi0 hz0 hz1 hz2 rfl (by decide) (.slice C cs.length cap) cs.length xs rfl HO3.out ⟨w1.heap.size, 0, none⟩ 1 [.string (text f), .func (.func 82) #[] #[.pointer (some ⟨p, 0, none⟩), .pointer (some ⟨q, 0, none⟩), .pointer (some ⟨r, 0, none⟩)], .int .i64 i, .slice A m.length c, .bool true] rfl rfl (Blk.news (Blk.new w1 106 [.string (text f), .func (.func 82) #[] #[.pointer (some ⟨p, 0, none⟩), .pointer (some ⟨q, 0, none⟩), .pointer (some ⟨r, 0, none⟩)], .int .i64 i, .slice A m.length c, .bool true]).drew) (by simp [Value.oneCell']) (by unfold maxLen; omega) (by omega) hbz ?_
    intro A5 c5 w5 HO5 HG5
    have S0 := Lib.hid ((P2.out.alloc (.cells #[.string (text f), .func (.func 82) #[] #[.pointer (some ⟨p, 0, none⟩), .pointer (some ⟨q, 0, none⟩), .pointer (some ⟨r, 0, none⟩)], .int .i64 i, .slice A m.length c, .bool true] 106)).drew.grown HG5.out (blk_own_ne ((P2.out.alloc _).drew) HO3.out (by decide)))
    have S1 := Lib.hid ((P1.out.alloc (.cells #[.string (text f), .func (.func 82) #[] #[.pointer (some ⟨p, 0, none⟩), .pointer (some ⟨q, 0, none⟩), .pointer (some ⟨r, 0, none⟩)], .int .i64 i, .slice A m.length c, .bool true] 106)).drew.grown HG5.out (by intro e; have := hOB _ e.symm; omega))
    refine hK.out _ _ ⟨S0.out.cell 3, S1.out.range0⟩ ?_
    clear hK K
    have HD : w5.cell? ⟨d, 3, none⟩ = some (.slice C cs.length cap) ∧ w5.rangeAt w.heap.size 0 [.string (text f), .func (.func 82) #[] #[.pointer (some ⟨p, 0, none⟩), .pointer (some ⟨q, 0, none⟩), .pointer (some ⟨r, 0, none⟩)], .int .i64 i, .slice A m.length c, .bool true] := ⟨S0.out.cell 3, S1.out.range0⟩
    (try simp only [Act.put, List.setIfInBounds_toArray, List.set_cons_zero, List.set_cons_succ])
    refine LastH.one (i := 8) (o := ⟨some 20, _, _, _, _, _⟩) (by kernel_rfl) rfl (fun K hK => ?_)
    go_simp
    refine hK.out _ _ HD ?_
    clear hK K
    (try simp only [Act.put, List.setIfInBounds_toArray, List.set_cons_zero, List.set_cons_succ])
    refine LastH.one (i := 9) (o := ⟨some 21, _, _, _, _, _⟩) (by kernel_rfl) rfl (fun K hK => ?_)
    go_simp
    refine hK.out _ _ HD ?_
    clear hK K
    (try simp only [Act.put, List.setIfInBounds_toArray, List.set_cons_zero, List.set_cons_succ])
    clear HD
    have f3 : w5.frozen? ⟨d, 3, none⟩ = false := S0.out.frozen 3
    have b3 : w5.cell? ⟨d, 3, none⟩ = some (.slice C cs.length cap) := S0.out.cell 3
    refine LastH.end_ (i := 10) (o := ⟨none, _, _, _, _, _⟩) (by kernel_rfl) rfl rfl (fun K hK => ?_)
    go_simp
    refine hK.out _ _ (LastH.done (by kernel_rfl) ?_ _)
    clear hK K
    have hbw1 : Below w1.heap.size w1 (w1.alloc (.cells #[.string (text f), .func (.func 82) #[] #[.pointer (some ⟨p, 0, none⟩), .pointer (some ⟨q, 0, none⟩), .pointer (some ⟨r, 0, none⟩)], .int .i64 i, .slice A m.length c, .bool true] 106)).drew := (show Below w1.heap.size w1 (w1.alloc (.cells #[.string (text f), .func (.func 82) #[] #[.pointer (some ⟨p, 0, none⟩), .pointer (some ⟨q, 0, none⟩), .pointer (some ⟨r, 0, none⟩)], .int .i64 i, .slice A m.length c, .bool true] 106)) from (by repeat (first | with_reducible exact (Below.refl w1.heap.size w1) | (with_reducible refine Below.setCell ?_ (by dsimp only; (first | omega | (simp; done) | (simp; omega))) _) | (with_reducible refine Below.alloc ?_ (by (first | omega | (simp; done) | (simp; omega))) _) | with_reducible refine Below.drew ?_))).drew
    have hcl := hc0.same ((SameC.of_keeps HKK.out).trans (SameC.of_below hbw1))
    have KK : Keeps [80, 106] w1 (w5.setCell ⟨d, 3, none⟩ (.slice A5 (cs.length + 1) c5)) := ((Keeps.of_below hbw1 (Nat.le_refl _)).trans (Keeps.grown HO3.out HG5.out (by simp) HG5.out.size)).trans (Keeps.set_ S0.out.typ (by simp) _)
    have KM : KeepM w1 (w5.setCell ⟨d, 3, none⟩ (.slice A5 (cs.length + 1) c5)) := ((KeepM.of_below hbw1).trans (KeepM.grown HO3.out HG5.out)).trans (KeepM.set S0.out.typ _)
    have HT : Hid (DiskTo w (w5.setCell ⟨d, 3, none⟩ (.slice A5 (cs.length + 1) c5)) base d lasts ((Chg.wr f i m).run now) (cs ++ [Chg.wr f i m])) := Lib.hid ⟨⟨hge, m1, m2, A5, c5, xs ++ [.string (text f), .func (.func 82) #[] #[.pointer (some ⟨p, 0, none⟩), .pointer (some ⟨q, 0, none⟩), .pointer (some ⟨r, 0, none⟩)], .int .i64 i, .slice A m.length c, .bool true], by have := S0.out.set_ 3 (.slice A5 (cs.length + 1) c5); simpa using this, g2, HN3.out.keep (SameC.of_keeps KK) KM, HM.out.keep (SameC.of_keeps KK) KM, by have := HO5.out.keeps (Keeps.set_ (i := 3) (ts := [80]) S0.out.typ (by simp) (.slice A5 (cs.length + 1) c5)) (by decide); simpa using this, (HC2.out.same (SameC.of_keeps KK)).app (hc0.same ((SameC.of_keeps HKK.out).trans (SameC.of_keeps KK)))⟩, ?_, HKK.out.trans KK⟩
    rotate_left
    · exact ((HBB.out.trans (hbw1.mono (by have := HBB.out.size; omega))).grown HG5.out hbz (own_block_ge HO3.out)).setCell hge _
    clear KK KM hcl
    go_wp2_with fail
    refine (step_any HT.out.at_).mono ?_
    rintro e w6 ⟨rfl, rfl⟩
    go_wp2_with fail
    go_ret
    exact ⟨rfl, HT.out⟩
  | rm f =>
    obtain ⟨i0, hi0, hz0, hz1, hz2⟩ := info_parts info_change
    have hc0 := hc
    obtain ⟨p, rfl, h1⟩ := hc
    have k1 : f.length ≤ 64 := hk
    obtain ⟨m1, m2, C, cap, xs, g1, g2, g3, g4, g5, g6⟩ := h.blk
    have b2 : w.cell? ⟨d, 2, none⟩ = some (.map (some m2)) := g1.cell 2
    have HG1 := Lib.hid g1
    have HN1 := Lib.hid g3
    have HN2 := Lib.hid g4
    have HO := Lib.hid g5
    have HC := Lib.hid g6
    have hOB : ∀ k, (Value.slice C cs.length cap).ownBlock = some k → k < w.heap.size := fun k e => (g5.lt k e).2
    have hge := h.ge
    have hd := g1.lt
    have B1 := Lib.hid h1
    clear h1
    clear h g1 g3 g4 g5 g6
    go_enter Tryz.func76, Tryz.ntmps76
    go_wp2_with fail
    have c1 : (w.alloc (.cells #[.string (text f), .func (.func 77) #[] #[.pointer (some ⟨p, 0, none⟩)], .int .i64 0, .slice none 0 0, .bool false] 106)).cell? ⟨w.heap.size, 1, none⟩ = some (.func (.func 77) #[] #[.pointer (some ⟨p, 0, none⟩)]) := (Blk.new w 106 [.string (text f), .func (.func 77) #[] #[.pointer (some ⟨p, 0, none⟩)], .int .i64 0, .slice none 0 0, .bool false]).cell 1
    have c2 : (w.alloc (.cells #[.string (text f), .func (.func 77) #[] #[.pointer (some ⟨p, 0, none⟩)], .int .i64 0, .slice none 0 0, .bool false] 106)).cell? ⟨d, 2, none⟩ = some (.map (some m2)) := (HG1.out.alloc _).cell 2
    refine wp_region_held_drew (S := fun w' => w'.cell? ⟨w.heap.size, 1, none⟩ = some (.func (.func 77) #[] #[.pointer (some ⟨p, 0, none⟩)]) ∧ w'.cell? ⟨d, 2, none⟩ = some (.map (some m2))) (by kernel_rfl) ⟨c1, c2⟩ (fun HD => ?_)
    clear c1 c2
    refine wpAnyH_take (i := 0) (oi := ⟨some 5, _, _, _, _, _⟩) (v := (.pointer (some ⟨w.heap.size, 1, none⟩))) rfl (by kernel_rfl) (by kernel_rfl) (by kernel_rfl) (fun _ _ _ h => h) (Or.inl ⟨by rfl, ?_⟩) HD ?_
    · intro w' hw'
      (go_simp; try with_reducible rfl)
    (try simp only [Act.put, List.setIfInBounds_toArray, List.set_cons_zero, List.set_cons_succ])
    refine wpAnyH_take (i := 1) (oi := ⟨some 6, _, _, _, _, _⟩) (v := (.func (.func 77) #[] #[.pointer (some ⟨p, 0, none⟩)])) rfl (by kernel_rfl) (by kernel_rfl) (by kernel_rfl) (fun _ _ _ h => h) (Or.inl ⟨by rfl, ?_⟩) HD ?_
    · intro w' hw'
      (go_simp; try with_reducible rfl)
    (try simp only [Act.put, List.setIfInBounds_toArray, List.set_cons_zero, List.set_cons_succ])
    refine wpAnyH_take (i := 2) (oi := ⟨some 7, _, _, _, _, _⟩) (v := (.pointer (some ⟨d, 0, none⟩))) rfl (by kernel_rfl) (by kernel_rfl) (by kernel_rfl) (fun _ _ _ h => h) (Or.inl ⟨by rfl, ?_⟩) HD ?_
    · intro w' hw'
      (go_simp; try with_reducible rfl)
    (try simp only [Act.put, List.setIfInBounds_toArray, List.set_cons_zero, List.set_cons_succ])
    refine wpAnyH_take (i := 3) (oi := ⟨some 8, _, _, _, _, _⟩) (v := (.pointer (some ⟨d, 0, none⟩))) rfl (by kernel_rfl) (by kernel_rfl) (by kernel_rfl) (fun _ _ _ h => h) (Or.inl ⟨by rfl, ?_⟩) HD ?_
    · intro w' hw'
      (go_simp; try with_reducible rfl)
    (try simp only [Act.put, List.setIfInBounds_toArray, List.set_cons_zero, List.set_cons_succ])
    refine wpAnyH_take (i := 4) (oi := ⟨some 9, _, _, _, _, _⟩) (v := (.pointer (some ⟨d, 2, none⟩))) rfl (by kernel_rfl) (by kernel_rfl) (by kernel_rfl) (fun _ _ _ h => h) (Or.inl ⟨by rfl, ?_⟩) HD ?_
    · intro w' hw'
      (go_simp; try with_reducible rfl)
    (try simp only [Act.put, List.setIfInBounds_toArray, List.set_cons_zero, List.set_cons_succ])
    refine wpAnyH_take (i := 5) (oi := ⟨some 10, _, _, _, _, _⟩) (v := (.map (some m2))) rfl (by kernel_rfl) (by kernel_rfl) (by kernel_rfl) (fun _ _ _ h => h) (Or.inl ⟨by rfl, ?_⟩) HD ?_
    · intro w' hw'
      (go_simp; try with_reducible rfl)
    (try simp only [Act.put, List.setIfInBounds_toArray, List.set_cons_zero, List.set_cons_succ])
    refine wpAnyH_ready (rs := [6]) (by kernel_rfl) (by simp) ?_
    refine AllReadyH.cons (o := ⟨some 11, _, _, _, _, _⟩) rfl (fun K hK => ?_) AllReadyH.nil
    go_simp
    have hb0 : Below w.heap.size w ((w.alloc (.cells #[.string (text f), .func (.func 77) #[] #[.pointer (some ⟨p, 0, none⟩)], .int .i64 0, .slice none 0 0, .bool false] 106)).drew) := (show Below w.heap.size w (w.alloc (.cells #[.string (text f), .func (.func 77) #[] #[.pointer (some ⟨p, 0, none⟩)], .int .i64 0, .slice none 0 0, .bool false] 106)) from (by repeat (first | with_reducible exact (Below.refl w.heap.size w) | (with_reducible refine Below.setCell ?_ (by dsimp only; (first | omega | (simp; done) | (simp; omega))) _) | (with_reducible refine Below.alloc ?_ (by (first | omega | (simp; done) | (simp; omega))) _) | with_reducible refine Below.drew ?_))).drew
    go_at_call 77
    refine (doRm_any (HN2.out.same (SameD.of_below hb0)) (B1.out.same (SameC.of_below hb0) (by decide)) (by unfold maxLen; omega)).mono ?_
    rintro e w1 ⟨rfl, hM⟩
    have P1 := Lib.hid (((Blk.new w 106 [.string (text f), .func (.func 77) #[] #[.pointer (some ⟨p, 0, none⟩)], .int .i64 0, .slice none 0 0, .bool false]).drew).keeps hM.keeps (by simp))
    have P2 := Lib.hid (((HG1.out.alloc _).drew).keeps hM.keeps (by simp))
    have hzw := hb0.size
    have HN3 := Lib.hid ((HN1.out.same (SameD.of_below hb0)).other hM.c (hM.others m1 (Nat.lt_of_lt_of_le HN1.out.lt hzw) g2))
    have HM := Lib.hid hM.at_
    have HO2 := Lib.hid ((ownsRow_same HO.out (SameD.of_below hb0)).keeps hM.keeps (by simp))
    have HC2 := Lib.hid (HC.out.same ((SameC.of_below hb0).trans hM.c))
    have HBB := Lib.hid ((hb0.mono hbw).trans hM.bel)
    have HKK : Hid (Keeps [80, 106] w w1) := Lib.hid ((Keeps.of_below hb0 (Nat.le_refl _)).trans (hM.keeps.more (by simp)))
    have hzx : w.heap.size < w1.heap.size := P1.out.lt
    refine hK.out _ _ ⟨P1.out.cell 1, P2.out.cell 2⟩ (fun HD => ?_)
    clear hK K HD hM hb0 HG1 HN1 HN2 HO HC b2
    (try simp only [Act.put, List.setIfInBounds_toArray, List.set_cons_zero, List.set_cons_succ])
    refine wpAnyH_done (by kernel_rfl) ?_ _
    have q3 : w1.cell? ⟨d, 3, none⟩ = some (.slice C cs.length cap) := P2.out.cell 3
    go_wp2_with fail
    have HI : Hid ((Tryz.prog.info? 106).map (·.size) = some 5) := Lib.hid (by kernel_rfl)
    refine wp_region_last 10 (S := fun w' => w'.cell? ⟨d, 3, none⟩ = some (.slice C cs.length cap) ∧ w'.rangeAt w.heap.size 0 [.string (text f), .func (.func 77) #[] #[.pointer (some ⟨p, 0, none⟩)], .int .i64 0, .slice none 0 0, .bool false]) (by kernel_rfl) ⟨q3, P1.out.drew.range0⟩ (fun HD => ?_)
    refine LastH.take (i := 0) (oi := ⟨some 12, _, _, _, _, _⟩) (v := (.pointer (some ⟨d, 0, none⟩))) rfl (by kernel_rfl) (by kernel_rfl) (by kernel_rfl) (by kernel_rfl) (fun _ _ _ h => h) (Or.inl ⟨by rfl, ?_⟩) HD ?_
    · intro w' hw'
      (go_simp; try with_reducible rfl)
    (try simp only [Act.put, List.setIfInBounds_toArray, List.set_cons_zero, List.set_cons_succ])
    refine LastH.take (i := 1) (oi := ⟨some 13, _, _, _, _, _⟩) (v := (.pointer (some ⟨d, 0, none⟩))) rfl (by kernel_rfl) (by kernel_rfl) (by kernel_rfl) (by kernel_rfl) (fun _ _ _ h => h) (Or.inl ⟨by rfl, ?_⟩) HD ?_
    · intro w' hw'
      (go_simp; try with_reducible rfl)
    (try simp only [Act.put, List.setIfInBounds_toArray, List.set_cons_zero, List.set_cons_succ])
    refine LastH.take (i := 2) (oi := ⟨some 14, _, _, _, _, _⟩) (v := (.pointer (some ⟨d, 0, none⟩))) rfl (by kernel_rfl) (by kernel_rfl) (by kernel_rfl) (by kernel_rfl) (fun _ _ _ h => h) (Or.inl ⟨by rfl, ?_⟩) HD ?_
    · intro w' hw'
      (go_simp; try with_reducible rfl)
    (try simp only [Act.put, List.setIfInBounds_toArray, List.set_cons_zero, List.set_cons_succ])
    refine LastH.take (i := 3) (oi := ⟨some 15, _, _, _, _, _⟩) (v := (.pointer (some ⟨d, 3, none⟩))) rfl (by kernel_rfl) (by kernel_rfl) (by kernel_rfl) (by kernel_rfl) (fun _ _ _ h => h) (Or.inl ⟨by rfl, ?_⟩) HD ?_
    · intro w' hw'
      (go_simp; try with_reducible rfl)
    (try simp only [Act.put, List.setIfInBounds_toArray, List.set_cons_zero, List.set_cons_succ])
    refine LastH.take (i := 4) (oi := ⟨some 16, _, _, _, _, _⟩) (v := (.slice C cs.length cap)) rfl (by kernel_rfl) (by kernel_rfl) (by kernel_rfl) (by kernel_rfl) (fun _ _ _ h => h) (Or.inl ⟨by rfl, ?_⟩) HD ?_
    · intro w' hw'
      (go_simp; try with_reducible rfl)
    (try simp only [Act.put, List.setIfInBounds_toArray, List.set_cons_zero, List.set_cons_succ])
    refine LastH.take (i := 5) (oi := ⟨some 17, _, _, _, _, _⟩) (v := _) rfl (by kernel_rfl) (by kernel_rfl) (by kernel_rfl) (by kernel_rfl) (fun _ _ _ h => h) (yieldsIf_load_mid (by rfl) _ _ rfl (w.heap.size) 0 rfl [.string (text f), .func (.func 77) #[] #[.pointer (some ⟨p, 0, none⟩)], .int .i64 0, .slice none 0 0, .bool false] _ (fun _ h => h.2) Tryz.underlying106 rfl HI.out) HD ?_
    (try simp only [Act.put, List.setIfInBounds_toArray, List.set_cons_zero, List.set_cons_succ])
    refine LastH.one (i := 6) (o := ⟨some 18, _, _, _, _, _⟩) (by kernel_rfl) rfl (fun K hK => ?_)
    go_simp
    refine hK.out _ _ ⟨((P2.out.alloc _).drew).cell 3, (P1.out.alloc _).drew.range0⟩ ?_
    clear hK K HD
    (try simp only [Act.put, List.setIfInBounds_toArray, List.set_cons_zero, List.set_cons_succ])
    refine LastH.one (i := 7) (o := ⟨some 19, _, _, _, _, _⟩) (by kernel_rfl) rfl (fun K hK => ?_)
    have HO3 : Hid (((w1.alloc (.cells #[.string (text f), .func (.func 77) #[] #[.pointer (some ⟨p, 0, none⟩)], .int .i64 0, .slice none 0 0, .bool false] 106)).drew).ownsRow base 106 5 (.slice C cs.length cap) cs.length xs) := Lib.hid (HO2.out.alloc _).drew
    have hbz : base ≤ ((w1.alloc (.cells #[.string (text f), .func (.func 77) #[] #[.pointer (some ⟨p, 0, none⟩)], .int .i64 0, .slice none 0 0, .bool false] 106)).drew).heap.size := by have := HBB.out.size; simp; omega
    refine step_appN rfl _ _ _ rfl base 106 i0 _ 5 64 Tryz.underlying78 hi0 hz0 hz1 hz2 rfl (by decide) (.slice C cs.length cap) cs.length xs rfl HO3.out ⟨w1.heap.size, 0, none⟩ 1 [.string (text f), .func (.func 77) #[] #[.pointer (some ⟨p, 0, none⟩)], .int .i64 0, .slice none 0 0, .bool false] rfl rfl (Blk.news (Blk.new w1 106 [.string (text f), .func (.func 77) #[] #[.pointer (some ⟨p, 0, none⟩)], .int .i64 0, .slice none 0 0, .bool false]).drew) (by simp [Value.oneCell']) (by unfold maxLen; omega) (by omega) hbz ?_
    intro A5 c5 w5 HO5 HG5
    have S0 := Lib.hid ((P2.out.alloc (.cells #[.string (text f), .func (.func 77) #[] #[.pointer (some ⟨p, 0, none⟩)], .int .i64 0, .slice none 0 0, .bool false] 106)).drew.grown HG5.out (blk_own_ne ((P2.out.alloc _).drew) HO3.out (by decide)))
    have S1 := Lib.hid ((P1.out.alloc (.cells #[.string (text f), .func (.func 77) #[] #[.pointer (some ⟨p, 0, none⟩)], .int .i64 0, .slice none 0 0, .bool false] 106)).drew.grown HG5.out (by intro e; have := hOB _ e.symm; omega))
    refine hK.out _ _ ⟨S0.out.cell 3, S1.out.range0⟩ ?_
    clear hK K
    have HD : w5.cell? ⟨d, 3, none⟩ = some (.slice C cs.length cap) ∧ w5.rangeAt w.heap.size 0 [.string (text f), .func (.func 77) #[] #[.pointer (some ⟨p, 0, none⟩)], .int .i64 0, .slice none 0 0, .bool false] := ⟨S0.out.cell 3, S1.out.range0⟩
    (try simp only [Act.put, List.setIfInBounds_toArray, List.set_cons_zero, List.set_cons_succ])
    refine LastH.one (i := 8) (o := ⟨some 20, _, _, _, _, _⟩) (by kernel_rfl) rfl (fun K hK => ?_)
    go_simp
    refine hK.out _ _ HD ?_
    clear hK K
    (try simp only [Act.put, List.setIfInBounds_toArray, List.set_cons_zero, List.set_cons_succ])
    refine LastH.one (i := 9) (o := ⟨some 21, _, _, _, _, _⟩) (by kernel_rfl) rfl (fun K hK => ?_)
    go_simp
    refine hK.out _ _ HD ?_
    clear hK K
    (try simp only [Act.put, List.setIfInBounds_toArray, List.set_cons_zero, List.set_cons_succ])
    clear HD
    have f3 : w5.frozen? ⟨d, 3, none⟩ = false := S0.out.frozen 3
    have b3 : w5.cell? ⟨d, 3, none⟩ = some (.slice C cs.length cap) := S0.out.cell 3
    refine LastH.end_ (i := 10) (o := ⟨none, _, _, _, _, _⟩) (by kernel_rfl) rfl rfl (fun K hK => ?_)
    go_simp
    refine hK.out _ _ (LastH.done (by kernel_rfl) ?_ _)
    clear hK K
    have hbw1 : Below w1.heap.size w1 (w1.alloc (.cells #[.string (text f), .func (.func 77) #[] #[.pointer (some ⟨p, 0, none⟩)], .int .i64 0, .slice none 0 0, .bool false] 106)).drew := (show Below w1.heap.size w1 (w1.alloc (.cells #[.string (text f), .func (.func 77) #[] #[.pointer (some ⟨p, 0, none⟩)], .int .i64 0, .slice none 0 0, .bool false] 106)) from (by repeat (first | with_reducible exact (Below.refl w1.heap.size w1) | (with_reducible refine Below.setCell ?_ (by dsimp only; (first | omega | (simp; done) | (simp; omega))) _) | (with_reducible refine Below.alloc ?_ (by (first | omega | (simp; done) | (simp; omega))) _) | with_reducible refine Below.drew ?_))).drew
    have hcl := hc0.same ((SameC.of_keeps HKK.out).trans (SameC.of_below hbw1))
    have KK : Keeps [80, 106] w1 (w5.setCell ⟨d, 3, none⟩ (.slice A5 (cs.length + 1) c5)) := ((Keeps.of_below hbw1 (Nat.le_refl _)).trans (Keeps.grown HO3.out HG5.out (by simp) HG5.out.size)).trans (Keeps.set_ S0.out.typ (by simp) _)
    have KM : KeepM w1 (w5.setCell ⟨d, 3, none⟩ (.slice A5 (cs.length + 1) c5)) := ((KeepM.of_below hbw1).trans (KeepM.grown HO3.out HG5.out)).trans (KeepM.set S0.out.typ _)
    have HT : Hid (DiskTo w (w5.setCell ⟨d, 3, none⟩ (.slice A5 (cs.length + 1) c5)) base d lasts ((Chg.rm f).run now) (cs ++ [Chg.rm f])) := Lib.hid ⟨⟨hge, m1, m2, A5, c5, xs ++ [.string (text f), .func (.func 77) #[] #[.pointer (some ⟨p, 0, none⟩)], .int .i64 0, .slice none 0 0, .bool false], by have := S0.out.set_ 3 (.slice A5 (cs.length + 1) c5); simpa using this, g2, HN3.out.keep (SameC.of_keeps KK) KM, HM.out.keep (SameC.of_keeps KK) KM, by have := HO5.out.keeps (Keeps.set_ (i := 3) (ts := [80]) S0.out.typ (by simp) (.slice A5 (cs.length + 1) c5)) (by decide); simpa using this, (HC2.out.same (SameC.of_keeps KK)).app (hc0.same ((SameC.of_keeps HKK.out).trans (SameC.of_keeps KK)))⟩, ?_, HKK.out.trans KK⟩
    rotate_left
    · exact ((HBB.out.trans (hbw1.mono (by have := HBB.out.size; omega))).grown HG5.out hbz (own_block_ge HO3.out)).setCell hge _
    clear KK KM hcl
    go_wp2_with fail
    refine (step_any HT.out.at_).mono ?_
    rintro e w6 ⟨rfl, rfl⟩
    go_wp2_with fail
    go_ret
    exact ⟨rfl, HT.out⟩
end Go.Proofs.YtkdmfjpfanmgmaaGreatDoor
