/- Joined by mkmerge.py from the proof's texts Jour8. Conditions: each theorem's own hypotheses. -/
import Derived.Test.YtkdmfjpfanmgmaaGreatDoorM34
namespace Go.Proofs.YtkdmfjpfanmgmaaGreatDoor
open Go.RowKit Le Go.Maps
set_option maxRecDepth 100000
set_option linter.unusedSimpArgs false
set_option linter.unusedVariables false
set_option maxHeartbeats 3200000 in
theorem jOpen_full {w : World} {base d : Nat} {name : List UInt8} {ss : List (List UInt8)} {ns : List Nat} {s0 s1 s2 : DS} (h : DiskAt w base d s0.lasts s0.now s0.cs) (hbw : base ≤ w.heap.size) (hT : Tab w) (hTb : 3 < base)
    (hl : name.length ≤ 8) (hn : nameB name = true) (hs0 : Small s0)
    (hlog : (s0.now.get (name ++ endL)).getD [] = logB ss) (hmrk : (s0.now.get (name ++ endM)).getD [] = markB ns) (hss : ∀ s ∈ ss, s.length ≤ 65536) (hns : ∀ n ∈ ns, n ≤ 1000000000) (hlast : ns.getLastD 0 = (logB ss).length) (hpos : 0 < ss.length) (h1 : SyncS (name ++ endL) s0 s1) (h2 : SyncS (name ++ endM) s1 s2) (hs1 : Small s1) (hnl : nameB (name ++ endL) = true) (hnm : nameB (name ++ endM) = true) :
    Calls Tryz.prog 31 #[.pointer (some ⟨d, 0, none⟩), .string (text name)] w fun e w' => ∃ A c, e = .returned (.tuple #[(.pointer (some ⟨w.heap.size + 1 + 1 + 1, 0, none⟩)), .slice A ss.length c, .int .i64 0]) ∧ OpnTo w w' base base d (.slice A ss.length c) (.slice A ss.length c) ss (jCs d name (logB ss).length (markB ns).length (logB ss).length ss.length ss.length) s2.lasts s2.now s2.cs := by
  have H := Lib.hid h
  have HT := Lib.hid hT
  have HL := Lib.hid hlog
  have HM := Lib.hid hmrk
  have HLA := Lib.hid hlast
  have HSS := Lib.hid hss
  have HNS := Lib.hid hns
  have hsn : (text name).size = name.length := by simp [text, ByteArray.size]
  have e2 : text name ++ ⟨#[95, 108]⟩ = text (name ++ endL) := text_app name endL
  have e1 : text name ++ ⟨#[95, 109]⟩ = text (name ++ endM) := text_app name endM
  have h8 : decide ((name.length : Int) > 8) = false := by simp; omega
  have hll : (logB ss).length ≤ 500000 := by rw [← hlog]; exact Nat.le_trans (FM.get_le_sum _) hs0.now
  have hml : (markB ns).length ≤ 500000 := by rw [← hmrk]; exact Nat.le_trans (FM.get_le_sum _) hs0.now
  have hsl : ss.length ≤ 500000 := Nat.le_trans (logB_ge ss) hll
  have hgl : ∀ k l, s0.now.get k = some l → l.length ≤ 1099511627776 := fun k l hk => by
    have := FM.get_le_sum (F := s0.now) k
    rw [hk] at this
    have := hs0.now
    simp at *
    omega
  have HGL := Lib.hid hgl
  clear h hT hlog hmrk hlast hgl hss hns 
  go_enter_defers Tryz.func31, Tryz.ntmps31
  go_wp2_with fail
  refine (Name_any name _ (by omega)).mono ?_
  rintro e w1 ⟨rfl, nn, rfl⟩
  rw [hn]
  go_wp2_with fail
  refine (Down_any (H.out.same (SameD.of_below (((((Below.refl w.heap.size w).alloc (Nat.le_refl _) _).alloc (by simp) _).alloc (by simp; omega) _).drewN nn)))).mono ?_
  rintro e w1 ⟨rfl, rfl⟩
  go_wp2_with fail
  refine at_world _ fun W hW => ?_
  have HO : Hid (OpnTo w W base w.heap.size d (.slice none 0 0) (.slice none 0 0) [] (jCs d name 0 0 0 0 0) s0.lasts s0.now s0.cs) := Lib.hid (by
    subst hW
    exact opn_start H.out nn name)
  clear hW
  have hr1 := jread_any HO.out.at_ (name ++ endL) (by unfold maxLen; simp [endL]; omega) (HGL.out _)
  rw [HL.out] at hr1
  refine hr1.mono ?_
  clear hr1
  rintro e w1 ⟨A1, c1, rfl, hc1, hm1, hB1, hb1⟩
  have HO1 := Lib.hid (HO.out.below hb1)
  have HB1 := Lib.hid hB1
  have hz1 : w.heap.size ≤ W.heap.size := HO.out.bel.size
  clear hB1 hb1
  go_wp2_with fail
  have hr2 := jread_any HO1.out.at_ (name ++ endM) (by unfold maxLen; simp [endM]; omega) (HGL.out _)
  rw [HM.out] at hr2
  refine hr2.mono ?_
  clear hr2
  rintro e w2 ⟨A2, c2, rfl, hc2, hm2, hB2, hb2⟩
  have HO2 := Lib.hid (HO1.out.below hb2)
  have HB1' := Lib.hid (HB1.out.same (SameD.of_below hb2).c)
  have HB2 := Lib.hid hB2
  clear hB2 hb2 HB1 HO HO1
  go_wp2_with fail
  refine wp_region_noPanic ?_
  refine wp_region_held_drew (S := fun w' => w'.cell? ⟨w.heap.size, 0, none⟩ = some (.pointer (some ⟨w.heap.size + 1 + 1 + 1, 0, none⟩))) (by kernel_rfl) (HO2.out.o.p.cell 0) (fun HD => ?_)
  refine wpAnyH_take (i := 0) (oi := ⟨some 38, _, _, _, _, _⟩) (v := (.pointer (some ⟨w.heap.size + 1 + 1 + 1, 0, none⟩))) rfl (by kernel_rfl) (by kernel_rfl) (by kernel_rfl) (fun _ _ _ h => h) (Or.inl ⟨by rfl, ?_⟩) HD ?_
  · intro w' hw'
    (go_simp; try with_reducible rfl)
  (try simp only [Act.put, List.setIfInBounds_toArray, List.set_cons_zero, List.set_cons_succ])
  refine wpAnyH_take (i := 1) (oi := ⟨some 39, _, _, _, _, _⟩) (v := (.slice A1 (logB ss).length c1)) rfl (by kernel_rfl) (by kernel_rfl) (by kernel_rfl) (fun _ _ _ h => h) (Or.inl ⟨by rfl, ?_⟩) HD ?_
  · intro w' hw'
    (go_simp; try with_reducible rfl)
  (try simp only [Act.put, List.setIfInBounds_toArray, List.set_cons_zero, List.set_cons_succ])
  refine wpAnyH_ready (rs := [2]) (by kernel_rfl) (by simp) ?_
  refine AllReadyH.cons (o := ⟨some 40, _, _, _, _, _⟩) rfl (fun K hK => ?_) AllReadyH.nil
  go_simp
  go_at_call 63
  have HO3 := Lib.hid HO2.out.drew
  have hT3 : Tab w2.drew := HT.out.below HO3.out.bel (by omega)
  refine (jrecords_any A1 c1 ss w2.drew hT3 (HB1'.out.same (SameD.of_below (Below.refl _ _).drew).c).1 hc1 (by omega) HSS.out).mono ?_
  rintro e w3 ⟨A3, c3, rfl, ho3, hb3⟩
  have HO4 := Lib.hid ((HO3.out.below hb3).list (jown_base ho3 HO2.out.bel.size))
  have HB2' := Lib.hid ((HB2.out.same (SameD.of_below (Below.refl _ _).drew).c).same (SameD.of_below hb3).c)
  clear ho3 hb3 hT3 HO3 HB1' HB2
  refine hK.out _ _ (HO4.out.o.p.cell 0) (fun HD => ?_)
  clear hK K
  (try simp only [Act.put, List.setIfInBounds_toArray, List.set_cons_zero, List.set_cons_succ])
  refine wpAnyH_take (i := 3) (oi := ⟨some 37, _, _, _, _, _⟩) (v := (.tuple #[.slice A3 ss.length c3, .int .i64 (logB ss).length])) rfl (by kernel_rfl) (by kernel_rfl) (by kernel_rfl) (fun _ _ _ h => h) (Or.inl ⟨by rfl, ?_⟩) HD ?_
  · intro w' hw'
    (go_simp; try with_reducible rfl)
  (try simp only [Act.put, List.setIfInBounds_toArray, List.set_cons_zero, List.set_cons_succ])
  refine wpAnyH_take (i := 4) (oi := ⟨some 41, _, _, _, _, _⟩) (v := (.slice A3 ss.length c3)) rfl (by kernel_rfl) (by kernel_rfl) (by kernel_rfl) (fun _ _ _ h => h) (Or.inl ⟨by rfl, ?_⟩) HD ?_
  · intro w' hw'
    (go_simp; try with_reducible rfl)
  (try simp only [Act.put, List.setIfInBounds_toArray, List.set_cons_zero, List.set_cons_succ])
  refine wpAnyH_take (i := 5) (oi := ⟨some 42, _, _, _, _, _⟩) (v := (.int .i64 (logB ss).length)) rfl (by kernel_rfl) (by kernel_rfl) (by kernel_rfl) (fun _ _ _ h => h) (Or.inl ⟨by rfl, ?_⟩) HD ?_
  · intro w' hw'
    (go_simp; try with_reducible rfl)
  (try simp only [Act.put, List.setIfInBounds_toArray, List.set_cons_zero, List.set_cons_succ])
  have k1 : w3.cell? ⟨w.heap.size + 1, 0, none⟩ = some (.slice none 0 0) := HO4.out.o.s.cell 0
  have z1 : w3.frozen? ⟨w.heap.size + 1, 0, none⟩ = false := HO4.out.o.s.frozen 0
  refine wpAnyH_ready (rs := [6]) (by kernel_rfl) (by simp) ?_
  refine AllReadyH.cons (o := ⟨none, _, _, _, _, _⟩) rfl (fun K hK => ?_) AllReadyH.nil
  go_simp
  have HO5 := Lib.hid (HO4.out.setS (.slice A3 ss.length c3))
  have HB2'' := Lib.hid (HB2'.out.same (SameD.set (p := ⟨w.heap.size + 1, 0, none⟩) HO4.out.o.s.typ (by decide) (.slice A3 ss.length c3)).c)
  clear k1 z1 HO4 HB2' HD
  generalize w3.setCell ⟨w.heap.size + 1, 0, none⟩ (.slice A3 ss.length c3) = w4 at *
  refine hK.out _ _ (HO5.out.o.p.cell 0) (fun HD => ?_)
  clear hK K
  (try simp only [Act.put, List.setIfInBounds_toArray, List.set_cons_zero, List.set_cons_succ])
  refine wpAnyH_take (i := 7) (oi := ⟨some 43, _, _, _, _, _⟩) (v := (.pointer (some ⟨w.heap.size + 1 + 1 + 1, 0, none⟩))) rfl (by kernel_rfl) (by kernel_rfl) (by kernel_rfl) (fun _ _ _ h => h) (Or.inl ⟨by rfl, ?_⟩) HD ?_
  · intro w' hw'
    (go_simp; try with_reducible rfl)
  (try simp only [Act.put, List.setIfInBounds_toArray, List.set_cons_zero, List.set_cons_succ])
  refine wpAnyH_take (i := 8) (oi := ⟨some 44, _, _, _, _, _⟩) (v := (.pointer (some ⟨w.heap.size + 1 + 1 + 1, 2, none⟩))) rfl (by kernel_rfl) (by kernel_rfl) (by kernel_rfl) (fun _ _ _ h => h) (Or.inl ⟨by rfl, ?_⟩) HD ?_
  · intro w' hw'
    (go_simp; try with_reducible rfl)
  (try simp only [Act.put, List.setIfInBounds_toArray, List.set_cons_zero, List.set_cons_succ])
  have k1 : w4.cell? ⟨w.heap.size + 1 + 1 + 1, 2, none⟩ = some (.int .i64 0) := HO5.out.o.j.cell 2
  have z1 : w4.frozen? ⟨w.heap.size + 1 + 1 + 1, 2, none⟩ = false := HO5.out.o.j.frozen 2
  refine wpAnyH_ready (rs := [9]) (by kernel_rfl) (by simp) ?_
  refine AllReadyH.cons (o := ⟨none, _, _, _, _, _⟩) rfl (fun K hK => ?_) AllReadyH.nil
  go_simp
  have HO6 := Lib.hid (HO5.out.setJ 2 (.int .i64 (logB ss).length))
  have HB3 := Lib.hid (HB2''.out.same (SameD.set (p := ⟨w.heap.size + 1 + 1 + 1, 2, none⟩) HO5.out.o.j.typ (by decide) (.int .i64 (logB ss).length)).c)
  clear k1 z1 HO5 HB2'' HD
  generalize w4.setCell ⟨w.heap.size + 1 + 1 + 1, 2, none⟩ (.int .i64 (logB ss).length) = w5 at *
  refine hK.out _ _ (HO6.out.o.p.cell 0) (fun HD => ?_)
  clear hK K
  (try simp only [Act.put, List.setIfInBounds_toArray, List.set_cons_zero, List.set_cons_succ])
  refine wpAnyH_done (by kernel_rfl) (NoPanic.normal ?_) _
  clear HD
  go_wp2_with fail
  refine wp_region_noPanic ?_
  refine wp_region_held_drew (S := fun w' => w'.cell? ⟨w.heap.size, 0, none⟩ = some (.pointer (some ⟨w.heap.size + 1 + 1 + 1, 0, none⟩))) (by kernel_rfl) (HO6.out.o.p.cell 0) (fun HD => ?_)
  refine wpAnyH_take (i := 0) (oi := ⟨some 46, _, _, _, _, _⟩) (v := (.pointer (some ⟨w.heap.size + 1 + 1 + 1, 0, none⟩))) rfl (by kernel_rfl) (by kernel_rfl) (by kernel_rfl) (fun _ _ _ h => h) (Or.inl ⟨by rfl, ?_⟩) HD ?_
  · intro w' hw'
    (go_simp; try with_reducible rfl)
  (try simp only [Act.put, List.setIfInBounds_toArray, List.set_cons_zero, List.set_cons_succ])
  refine wpAnyH_take (i := 1) (oi := ⟨some 47, _, _, _, _, _⟩) (v := (.pointer (some ⟨w.heap.size + 1 + 1 + 1, 0, none⟩))) rfl (by kernel_rfl) (by kernel_rfl) (by kernel_rfl) (fun _ _ _ h => h) (Or.inl ⟨by rfl, ?_⟩) HD ?_
  · intro w' hw'
    (go_simp; try with_reducible rfl)
  (try simp only [Act.put, List.setIfInBounds_toArray, List.set_cons_zero, List.set_cons_succ])
  refine wpAnyH_take (i := 2) (oi := ⟨some 48, _, _, _, _, _⟩) (v := (.slice A2 (markB ns).length c2)) rfl (by kernel_rfl) (by kernel_rfl) (by kernel_rfl) (fun _ _ _ h => h) (Or.inl ⟨by rfl, ?_⟩) HD ?_
  · intro w' hw'
    (go_simp; try with_reducible rfl)
  (try simp only [Act.put, List.setIfInBounds_toArray, List.set_cons_zero, List.set_cons_succ])
  refine wpAnyH_ready (rs := [3]) (by kernel_rfl) (by simp) ?_
  refine AllReadyH.cons (o := ⟨some 49, _, _, _, _, _⟩) rfl (fun K hK => ?_) AllReadyH.nil
  go_simp
  go_at_call 64
  have HO7 := Lib.hid HO6.out.drew
  have hT3 : Tab w5.drew := HT.out.below HO7.out.bel (by omega)
  have hmk := jmarked_any A2 c2 ns w5.drew hT3 (HB3.out.same (SameD.of_below (Below.refl _ _).drew).c).1 hc2 (by omega) HNS.out
  rw [HLA.out] at hmk
  refine hmk.mono ?_
  rintro e w6 ⟨rfl, hb6⟩
  have HO8 := Lib.hid (HO7.out.below hb6)
  clear hmk hb6 hT3 HO6 HO7 HB3
  refine hK.out _ _ (HO8.out.o.p.cell 0) (fun HD => ?_)
  clear hK K
  (try simp only [Act.put, List.setIfInBounds_toArray, List.set_cons_zero, List.set_cons_succ])
  refine wpAnyH_take (i := 4) (oi := ⟨some 45, _, _, _, _, _⟩) (v := (.tuple #[.int .i64 (logB ss).length, .int .i64 (markB ns).length])) rfl (by kernel_rfl) (by kernel_rfl) (by kernel_rfl) (fun _ _ _ h => h) (Or.inl ⟨by rfl, ?_⟩) HD ?_
  · intro w' hw'
    (go_simp; try with_reducible rfl)
  (try simp only [Act.put, List.setIfInBounds_toArray, List.set_cons_zero, List.set_cons_succ])
  refine wpAnyH_take (i := 5) (oi := ⟨some 50, _, _, _, _, _⟩) (v := (.int .i64 (logB ss).length)) rfl (by kernel_rfl) (by kernel_rfl) (by kernel_rfl) (fun _ _ _ h => h) (Or.inl ⟨by rfl, ?_⟩) HD ?_
  · intro w' hw'
    (go_simp; try with_reducible rfl)
  (try simp only [Act.put, List.setIfInBounds_toArray, List.set_cons_zero, List.set_cons_succ])
  refine wpAnyH_take (i := 6) (oi := ⟨some 51, _, _, _, _, _⟩) (v := (.int .i64 (markB ns).length)) rfl (by kernel_rfl) (by kernel_rfl) (by kernel_rfl) (fun _ _ _ h => h) (Or.inl ⟨by rfl, ?_⟩) HD ?_
  · intro w' hw'
    (go_simp; try with_reducible rfl)
  (try simp only [Act.put, List.setIfInBounds_toArray, List.set_cons_zero, List.set_cons_succ])
  refine wpAnyH_take (i := 7) (oi := ⟨some 52, _, _, _, _, _⟩) (v := (.pointer (some ⟨w.heap.size + 1 + 1 + 1, 0, none⟩))) rfl (by kernel_rfl) (by kernel_rfl) (by kernel_rfl) (fun _ _ _ h => h) (Or.inl ⟨by rfl, ?_⟩) HD ?_
  · intro w' hw'
    (go_simp; try with_reducible rfl)
  (try simp only [Act.put, List.setIfInBounds_toArray, List.set_cons_zero, List.set_cons_succ])
  refine wpAnyH_take (i := 8) (oi := ⟨some 53, _, _, _, _, _⟩) (v := (.pointer (some ⟨w.heap.size + 1 + 1 + 1, 4, none⟩))) rfl (by kernel_rfl) (by kernel_rfl) (by kernel_rfl) (fun _ _ _ h => h) (Or.inl ⟨by rfl, ?_⟩) HD ?_
  · intro w' hw'
    (go_simp; try with_reducible rfl)
  (try simp only [Act.put, List.setIfInBounds_toArray, List.set_cons_zero, List.set_cons_succ])
  have k1 : w6.cell? ⟨w.heap.size + 1 + 1 + 1, 4, none⟩ = some (.int .i64 0) := HO8.out.o.j.cell 4
  have z1 : w6.frozen? ⟨w.heap.size + 1 + 1 + 1, 4, none⟩ = false := HO8.out.o.j.frozen 4
  refine wpAnyH_ready (rs := [9]) (by kernel_rfl) (by simp) ?_
  refine AllReadyH.cons (o := ⟨none, _, _, _, _, _⟩) rfl (fun K hK => ?_) AllReadyH.nil
  go_simp
  have HO9 := Lib.hid (HO8.out.setJ 4 (.int .i64 (logB ss).length))
  clear k1 z1 HO8 HD
  generalize w6.setCell ⟨w.heap.size + 1 + 1 + 1, 4, none⟩ (.int .i64 (logB ss).length) = w7 at *
  refine hK.out _ _ (HO9.out.o.p.cell 0) (fun HD => ?_)
  clear hK K
  (try simp only [Act.put, List.setIfInBounds_toArray, List.set_cons_zero, List.set_cons_succ])
  refine wpAnyH_take (i := 10) (oi := ⟨some 54, _, _, _, _, _⟩) (v := (.pointer (some ⟨w.heap.size + 1 + 1 + 1, 0, none⟩))) rfl (by kernel_rfl) (by kernel_rfl) (by kernel_rfl) (fun _ _ _ h => h) (Or.inl ⟨by rfl, ?_⟩) HD ?_
  · intro w' hw'
    (go_simp; try with_reducible rfl)
  (try simp only [Act.put, List.setIfInBounds_toArray, List.set_cons_zero, List.set_cons_succ])
  refine wpAnyH_take (i := 11) (oi := ⟨some 55, _, _, _, _, _⟩) (v := (.pointer (some ⟨w.heap.size + 1 + 1 + 1, 3, none⟩))) rfl (by kernel_rfl) (by kernel_rfl) (by kernel_rfl) (fun _ _ _ h => h) (Or.inl ⟨by rfl, ?_⟩) HD ?_
  · intro w' hw'
    (go_simp; try with_reducible rfl)
  (try simp only [Act.put, List.setIfInBounds_toArray, List.set_cons_zero, List.set_cons_succ])
  have k1 : w7.cell? ⟨w.heap.size + 1 + 1 + 1, 3, none⟩ = some (.int .i64 0) := HO9.out.o.j.cell 3
  have z1 : w7.frozen? ⟨w.heap.size + 1 + 1 + 1, 3, none⟩ = false := HO9.out.o.j.frozen 3
  refine wpAnyH_ready (rs := [12]) (by kernel_rfl) (by simp) ?_
  refine AllReadyH.cons (o := ⟨none, _, _, _, _, _⟩) rfl (fun K hK => ?_) AllReadyH.nil
  go_simp
  have HO10 := Lib.hid (HO9.out.setJ 3 (.int .i64 (markB ns).length))
  clear k1 z1 HO9 HD
  generalize w7.setCell ⟨w.heap.size + 1 + 1 + 1, 3, none⟩ (.int .i64 (markB ns).length) = w8 at *
  refine hK.out _ _ (HO10.out.o.p.cell 0) (fun HD => ?_)
  clear hK K
  (try simp only [Act.put, List.setIfInBounds_toArray, List.set_cons_zero, List.set_cons_succ])
  refine wpAnyH_done (by kernel_rfl) (NoPanic.normal ?_) _
  clear HD
  go_wp2_with fail
  refine wp_region_noPanic ?_
  refine wp_region_held_drew (S := fun w' => w'.cell? ⟨w.heap.size, 0, none⟩ = some (.pointer (some ⟨w.heap.size + 1 + 1 + 1, 0, none⟩)) ∧ w'.cell? ⟨w.heap.size + 1 + 1 + 1, 2, none⟩ = some (.int .i64 (logB ss).length) ∧ w'.cell? ⟨w.heap.size + 1 + 1 + 1, 4, none⟩ = some (.int .i64 (logB ss).length)) (by kernel_rfl) ⟨HO10.out.o.p.cell 0, HO10.out.o.j.cell 2, HO10.out.o.j.cell 4⟩ (fun HD => ?_)
  refine wpAnyH_take (i := 0) (oi := ⟨some 56, _, _, _, _, _⟩) (v := (.pointer (some ⟨w.heap.size + 1 + 1 + 1, 0, none⟩))) rfl (by kernel_rfl) (by kernel_rfl) (by kernel_rfl) (fun _ _ _ h => h) (Or.inl ⟨by rfl, ?_⟩) HD ?_
  · intro w' hw'
    (go_simp; try with_reducible rfl)
  (try simp only [Act.put, List.setIfInBounds_toArray, List.set_cons_zero, List.set_cons_succ])
  refine wpAnyH_take (i := 1) (oi := ⟨some 57, _, _, _, _, _⟩) (v := (.pointer (some ⟨w.heap.size + 1 + 1 + 1, 0, none⟩))) rfl (by kernel_rfl) (by kernel_rfl) (by kernel_rfl) (fun _ _ _ h => h) (Or.inl ⟨by rfl, ?_⟩) HD ?_
  · intro w' hw'
    (go_simp; try with_reducible rfl)
  (try simp only [Act.put, List.setIfInBounds_toArray, List.set_cons_zero, List.set_cons_succ])
  refine wpAnyH_take (i := 2) (oi := ⟨some 58, _, _, _, _, _⟩) (v := (.pointer (some ⟨w.heap.size + 1 + 1 + 1, 2, none⟩))) rfl (by kernel_rfl) (by kernel_rfl) (by kernel_rfl) (fun _ _ _ h => h) (Or.inl ⟨by rfl, ?_⟩) HD ?_
  · intro w' hw'
    (go_simp; try with_reducible rfl)
  (try simp only [Act.put, List.setIfInBounds_toArray, List.set_cons_zero, List.set_cons_succ])
  refine wpAnyH_take (i := 3) (oi := ⟨some 59, _, _, _, _, _⟩) (v := (.int .i64 (logB ss).length)) rfl (by kernel_rfl) (by kernel_rfl) (by kernel_rfl) (fun _ _ _ h => h) (Or.inl ⟨by rfl, ?_⟩) HD ?_
  · intro w' hw'
    (go_simp; try with_reducible rfl)
  (try simp only [Act.put, List.setIfInBounds_toArray, List.set_cons_zero, List.set_cons_succ])
  refine wpAnyH_take (i := 4) (oi := ⟨some 60, _, _, _, _, _⟩) (v := (.pointer (some ⟨w.heap.size + 1 + 1 + 1, 0, none⟩))) rfl (by kernel_rfl) (by kernel_rfl) (by kernel_rfl) (fun _ _ _ h => h) (Or.inl ⟨by rfl, ?_⟩) HD ?_
  · intro w' hw'
    (go_simp; try with_reducible rfl)
  (try simp only [Act.put, List.setIfInBounds_toArray, List.set_cons_zero, List.set_cons_succ])
  refine wpAnyH_take (i := 5) (oi := ⟨some 61, _, _, _, _, _⟩) (v := (.pointer (some ⟨w.heap.size + 1 + 1 + 1, 0, none⟩))) rfl (by kernel_rfl) (by kernel_rfl) (by kernel_rfl) (fun _ _ _ h => h) (Or.inl ⟨by rfl, ?_⟩) HD ?_
  · intro w' hw'
    (go_simp; try with_reducible rfl)
  (try simp only [Act.put, List.setIfInBounds_toArray, List.set_cons_zero, List.set_cons_succ])
  refine wpAnyH_take (i := 6) (oi := ⟨some 62, _, _, _, _, _⟩) (v := (.pointer (some ⟨w.heap.size + 1 + 1 + 1, 4, none⟩))) rfl (by kernel_rfl) (by kernel_rfl) (by kernel_rfl) (fun _ _ _ h => h) (Or.inl ⟨by rfl, ?_⟩) HD ?_
  · intro w' hw'
    (go_simp; try with_reducible rfl)
  (try simp only [Act.put, List.setIfInBounds_toArray, List.set_cons_zero, List.set_cons_succ])
  refine wpAnyH_take (i := 7) (oi := ⟨some 63, _, _, _, _, _⟩) (v := (.int .i64 (logB ss).length)) rfl (by kernel_rfl) (by kernel_rfl) (by kernel_rfl) (fun _ _ _ h => h) (Or.inl ⟨by rfl, ?_⟩) HD ?_
  · intro w' hw'
    (go_simp; try with_reducible rfl)
  (try simp only [Act.put, List.setIfInBounds_toArray, List.set_cons_zero, List.set_cons_succ])
  refine wpAnyH_take (i := 8) (oi := ⟨some 64, _, _, _, _, _⟩) (v := (.bool false)) rfl (by kernel_rfl) (by kernel_rfl) (by kernel_rfl) (fun _ _ _ h => h) (Or.inl ⟨by rfl, ?_⟩) HD ?_
  · intro w' hw'
    (go_simp; try with_reducible rfl)
  (try simp only [Act.put, List.setIfInBounds_toArray, List.set_cons_zero, List.set_cons_succ])
  refine wpAnyH_done (by kernel_rfl) (NoPanic.normal ?_) _
  clear HD
  have HO11 := Lib.hid HO10.out.drew
  clear HO10
  generalize w8.drew = w9 at *
  have cp : w9.cell? ⟨w.heap.size, 0, none⟩ = some (.pointer (some ⟨w.heap.size + 1 + 1 + 1, 0, none⟩)) := HO11.out.o.p.cell 0
  have cl : w9.cell? ⟨w.heap.size + 1, 0, none⟩ = some (.slice A3 ss.length c3) := HO11.out.o.s.cell 0
  have k1 : w9.cell? ⟨w.heap.size + 1 + 1 + 1, 5, none⟩ = some (.int .i64 0) := HO11.out.o.j.cell 5
  have z1 : w9.frozen? ⟨w.heap.size + 1 + 1 + 1, 5, none⟩ = false := HO11.out.o.j.frozen 5
  have cj2 : w9.cell? ⟨w.heap.size + 1 + 1 + 1, 2, none⟩ = some (.int .i64 (logB ss).length) := HO11.out.o.j.cell 2
  have cj3 : w9.cell? ⟨w.heap.size + 1 + 1 + 1, 3, none⟩ = some (.int .i64 (markB ns).length) := HO11.out.o.j.cell 3
  go_wp2_with fail
  refine (jcut_idle _ _ _ _ _ _ _ (Nat.le_refl _)).mono ?_
  rintro e w10 ⟨rfl, rfl⟩
  go_wp2_with fail
  refine (jcut_idle _ _ _ _ _ _ _ (Nat.le_refl _)).mono ?_
  rintro e w10 ⟨rfl, rfl⟩
  have HO12 := Lib.hid (HO11.out.setJ 5 (.int .i64 ss.length))
  clear cp cl k1 z1 cj2 cj3 HO11
  generalize w9.setCell ⟨w.heap.size + 1 + 1 + 1, 5, none⟩ (.int .i64 ss.length) = w10 at *
  have hpl : 0 < (logB ss).length := Nat.lt_of_lt_of_le hpos (logB_ge ss)
  have hz : decide ((0 : Int) < ((logB ss).length : Int) + ((markB ns).length : Int)) = true := by rw [decide_eq_true_iff]; omega
  have hz2 : decide (0 < (logB ss).length + (markB ns).length) = true := by rw [decide_eq_true_iff]; omega
  go_wp2_with fail
  clear hz hz2
  refine wp_region_noPanic ?_
  refine wp_region_held_drew (S := fun w' => w'.cell? ⟨w.heap.size, 0, none⟩ = some (.pointer (some ⟨w.heap.size + 1 + 1 + 1, 0, none⟩)) ∧ w'.cell? ⟨w.heap.size + 1 + 1 + 1, 3, none⟩ = some (.int .i64 (markB ns).length)) (by kernel_rfl) ⟨HO12.out.o.p.cell 0, HO12.out.o.j.cell 3⟩ (fun HD => ?_)
  refine wpAnyH_take (i := 0) (oi := ⟨some 94, _, _, _, _, _⟩) (v := (.pointer (some ⟨w.heap.size + 1 + 1 + 1, 0, none⟩))) rfl (by kernel_rfl) (by kernel_rfl) (by kernel_rfl) (fun _ _ _ h => h) (Or.inl ⟨by rfl, ?_⟩) HD ?_
  · intro w' hw'
    (go_simp; try with_reducible rfl)
  (try simp only [Act.put, List.setIfInBounds_toArray, List.set_cons_zero, List.set_cons_succ])
  refine wpAnyH_take (i := 1) (oi := ⟨some 95, _, _, _, _, _⟩) (v := (.slice A2 (markB ns).length c2)) rfl (by kernel_rfl) (by kernel_rfl) (by kernel_rfl) (fun _ _ _ h => h) (Or.inl ⟨by rfl, ?_⟩) HD ?_
  · intro w' hw'
    (go_simp; try with_reducible rfl)
  (try simp only [Act.put, List.setIfInBounds_toArray, List.set_cons_zero, List.set_cons_succ])
  refine wpAnyH_take (i := 2) (oi := ⟨some 96, _, _, _, _, _⟩) (v := (.int .i64 (markB ns).length)) rfl (by kernel_rfl) (by kernel_rfl) (by kernel_rfl) (fun _ _ _ h => h) (Or.inl ⟨by rfl, ?_⟩) HD ?_
  · intro w' hw'
    (go_simp; try with_reducible rfl)
  (try simp only [Act.put, List.setIfInBounds_toArray, List.set_cons_zero, List.set_cons_succ])
  refine wpAnyH_take (i := 3) (oi := ⟨some 97, _, _, _, _, _⟩) (v := (.pointer (some ⟨w.heap.size + 1 + 1 + 1, 0, none⟩))) rfl (by kernel_rfl) (by kernel_rfl) (by kernel_rfl) (fun _ _ _ h => h) (Or.inl ⟨by rfl, ?_⟩) HD ?_
  · intro w' hw'
    (go_simp; try with_reducible rfl)
  (try simp only [Act.put, List.setIfInBounds_toArray, List.set_cons_zero, List.set_cons_succ])
  refine wpAnyH_take (i := 4) (oi := ⟨some 98, _, _, _, _, _⟩) (v := (.pointer (some ⟨w.heap.size + 1 + 1 + 1, 0, none⟩))) rfl (by kernel_rfl) (by kernel_rfl) (by kernel_rfl) (fun _ _ _ h => h) (Or.inl ⟨by rfl, ?_⟩) HD ?_
  · intro w' hw'
    (go_simp; try with_reducible rfl)
  (try simp only [Act.put, List.setIfInBounds_toArray, List.set_cons_zero, List.set_cons_succ])
  refine wpAnyH_take (i := 5) (oi := ⟨some 99, _, _, _, _, _⟩) (v := (.pointer (some ⟨w.heap.size + 1 + 1 + 1, 3, none⟩))) rfl (by kernel_rfl) (by kernel_rfl) (by kernel_rfl) (fun _ _ _ h => h) (Or.inl ⟨by rfl, ?_⟩) HD ?_
  · intro w' hw'
    (go_simp; try with_reducible rfl)
  (try simp only [Act.put, List.setIfInBounds_toArray, List.set_cons_zero, List.set_cons_succ])
  refine wpAnyH_take (i := 6) (oi := ⟨some 100, _, _, _, _, _⟩) (v := (.int .i64 (markB ns).length)) rfl (by kernel_rfl) (by kernel_rfl) (by kernel_rfl) (fun _ _ _ h => h) (Or.inl ⟨by rfl, ?_⟩) HD ?_
  · intro w' hw'
    (go_simp; try with_reducible rfl)
  (try simp only [Act.put, List.setIfInBounds_toArray, List.set_cons_zero, List.set_cons_succ])
  refine wpAnyH_take (i := 7) (oi := ⟨some 101, _, _, _, _, _⟩) (v := (.bool false)) rfl (by kernel_rfl) (by kernel_rfl) (by kernel_rfl) (fun _ _ _ h => h) (Or.inl ⟨by rfl, ?_⟩) HD ?_
  · intro w' hw'
    (go_simp; try with_reducible rfl)
  (try simp only [Act.put, List.setIfInBounds_toArray, List.set_cons_zero, List.set_cons_succ])
  refine wpAnyH_ready (rs := [8]) (by kernel_rfl) (by simp) ?_
  refine AllReadyH.cons (o := ⟨some 102, _, _, _, _, _⟩) rfl (fun K hK => ?_) AllReadyH.nil
  go_simp
  go_at_call 60
  have HOX := Lib.hid HO12.out.drew
  refine (keep_old (w := w10.drew) (marks := (markB ns).length) (log := (logB ss).length) (many := ss.length) (safe := 0) HOX.out.at_ (Nat.le_trans hbw HOX.out.bel.size) (by have := HOX.out.o.j; simpa [jCs] using this) (by omega) hl hnl hnm h1 h2 hs0 hs1 hpos).mono ?_
  rintro e w10' ⟨rfl, hjt⟩
  have HO12 := Lib.hid (HOX.out.jto hjt hbw)
  clear hjt HOX HD
  refine hK.out _ _ ⟨HO12.out.o.p.cell 0, HO12.out.o.j.cell 3⟩ (fun HD => ?_)
  clear hK K
  (try simp only [Act.put, List.setIfInBounds_toArray, List.set_cons_zero, List.set_cons_succ])
  refine wpAnyH_done (by kernel_rfl) (NoPanic.normal ?_) _
  clear HD
  have HO12 := Lib.hid HO12.out
  generalize hw10 : w10' = w10 at *
  go_wp2_with fail
  refine wp_region_noPanic ?_
  refine wp_region_held_drew (S := fun w' => w'.cell? ⟨w.heap.size, 0, none⟩ = some (.pointer (some ⟨w.heap.size + 1 + 1 + 1, 0, none⟩)) ∧ w'.cell? ⟨w.heap.size + 1 + 1 + 1, 5, none⟩ = some (.int .i64 ss.length)) (by kernel_rfl) ⟨HO12.out.o.p.cell 0, HO12.out.o.j.cell 5⟩ (fun HD => ?_)
  refine wpAnyH_take (i := 0) (oi := ⟨some 103, _, _, _, _, _⟩) (v := (.pointer (some ⟨w.heap.size + 1 + 1 + 1, 0, none⟩))) rfl (by kernel_rfl) (by kernel_rfl) (by kernel_rfl) (fun _ _ _ h => h) (Or.inl ⟨by rfl, ?_⟩) HD ?_
  · intro w' hw'
    (go_simp; try with_reducible rfl)
  (try simp only [Act.put, List.setIfInBounds_toArray, List.set_cons_zero, List.set_cons_succ])
  refine wpAnyH_take (i := 1) (oi := ⟨some 104, _, _, _, _, _⟩) (v := (.pointer (some ⟨w.heap.size + 1 + 1 + 1, 0, none⟩))) rfl (by kernel_rfl) (by kernel_rfl) (by kernel_rfl) (fun _ _ _ h => h) (Or.inl ⟨by rfl, ?_⟩) HD ?_
  · intro w' hw'
    (go_simp; try with_reducible rfl)
  (try simp only [Act.put, List.setIfInBounds_toArray, List.set_cons_zero, List.set_cons_succ])
  refine wpAnyH_take (i := 2) (oi := ⟨some 105, _, _, _, _, _⟩) (v := (.pointer (some ⟨w.heap.size + 1 + 1 + 1, 0, none⟩))) rfl (by kernel_rfl) (by kernel_rfl) (by kernel_rfl) (fun _ _ _ h => h) (Or.inl ⟨by rfl, ?_⟩) HD ?_
  · intro w' hw'
    (go_simp; try with_reducible rfl)
  (try simp only [Act.put, List.setIfInBounds_toArray, List.set_cons_zero, List.set_cons_succ])
  refine wpAnyH_take (i := 3) (oi := ⟨some 106, _, _, _, _, _⟩) (v := (.pointer (some ⟨w.heap.size + 1 + 1 + 1, 5, none⟩))) rfl (by kernel_rfl) (by kernel_rfl) (by kernel_rfl) (fun _ _ _ h => h) (Or.inl ⟨by rfl, ?_⟩) HD ?_
  · intro w' hw'
    (go_simp; try with_reducible rfl)
  (try simp only [Act.put, List.setIfInBounds_toArray, List.set_cons_zero, List.set_cons_succ])
  refine wpAnyH_take (i := 4) (oi := ⟨some 107, _, _, _, _, _⟩) (v := (.int .i64 ss.length)) rfl (by kernel_rfl) (by kernel_rfl) (by kernel_rfl) (fun _ _ _ h => h) (Or.inl ⟨by rfl, ?_⟩) HD ?_
  · intro w' hw'
    (go_simp; try with_reducible rfl)
  (try simp only [Act.put, List.setIfInBounds_toArray, List.set_cons_zero, List.set_cons_succ])
  refine wpAnyH_take (i := 5) (oi := ⟨some 108, _, _, _, _, _⟩) (v := (.pointer (some ⟨w.heap.size + 1 + 1 + 1, 0, none⟩))) rfl (by kernel_rfl) (by kernel_rfl) (by kernel_rfl) (fun _ _ _ h => h) (Or.inl ⟨by rfl, ?_⟩) HD ?_
  · intro w' hw'
    (go_simp; try with_reducible rfl)
  (try simp only [Act.put, List.setIfInBounds_toArray, List.set_cons_zero, List.set_cons_succ])
  refine wpAnyH_take (i := 6) (oi := ⟨some 109, _, _, _, _, _⟩) (v := (.pointer (some ⟨w.heap.size + 1 + 1 + 1, 6, none⟩))) rfl (by kernel_rfl) (by kernel_rfl) (by kernel_rfl) (fun _ _ _ h => h) (Or.inl ⟨by rfl, ?_⟩) HD ?_
  · intro w' hw'
    (go_simp; try with_reducible rfl)
  (try simp only [Act.put, List.setIfInBounds_toArray, List.set_cons_zero, List.set_cons_succ])
  have HO13 := Lib.hid HO12.out.drew
  have k1 : w10.drew.cell? ⟨w.heap.size + 1 + 1 + 1, 6, none⟩ = some (.int .i64 0) := HO13.out.o.j.cell 6
  have z1 : w10.drew.frozen? ⟨w.heap.size + 1 + 1 + 1, 6, none⟩ = false := HO13.out.o.j.frozen 6
  refine wpAnyH_ready (rs := [7]) (by kernel_rfl) (by simp) ?_
  refine AllReadyH.cons (o := ⟨none, _, _, _, _, _⟩) rfl (fun K hK => ?_) AllReadyH.nil
  go_simp
  have HO14 := Lib.hid (HO13.out.setJ 6 (.int .i64 ss.length))
  have e14 : w10.drew.setCell ⟨w.heap.size + 1 + 1 + 1, 6, none⟩ (.int .i64 ss.length) = (w10.setCell ⟨w.heap.size + 1 + 1 + 1, 6, none⟩ (.int .i64 ss.length)).drew := rfl
  rw [e14] at HO14
  clear k1 z1 HO12 HO13 HD e14
  generalize (w10.setCell ⟨w.heap.size + 1 + 1 + 1, 6, none⟩ (.int .i64 ss.length)).drew = w11 at *
  refine hK.out _ _ ⟨HO14.out.o.p.cell 0, HO14.out.o.j.cell 5⟩ (fun HD => ?_)
  clear hK K
  (try simp only [Act.put, List.setIfInBounds_toArray, List.set_cons_zero, List.set_cons_succ])
  refine wpAnyH_done (by kernel_rfl) (NoPanic.normal ?_) _
  clear HD
  go_wp2_with fail
  refine wp_region_noPanic ?_
  refine wp_region_held_drew (S := fun w' => w'.cell? ⟨w.heap.size, 0, none⟩ = some (.pointer (some ⟨w.heap.size + 1 + 1 + 1, 0, none⟩)) ∧ w'.cell? ⟨w.heap.size + 1, 0, none⟩ = some (.slice A3 ss.length c3)) (by kernel_rfl) ⟨HO14.out.o.p.cell 0, HO14.out.o.s.cell 0⟩ (fun HD => ?_)
  refine wpAnyH_take (i := 0) (oi := ⟨some 110, _, _, _, _, _⟩) (v := (.pointer (some ⟨w.heap.size + 1 + 1 + 1, 0, none⟩))) rfl (by kernel_rfl) (by kernel_rfl) (by kernel_rfl) (fun _ _ _ h => h) (Or.inl ⟨by rfl, ?_⟩) HD ?_
  · intro w' hw'
    (go_simp; try with_reducible rfl)
  (try simp only [Act.put, List.setIfInBounds_toArray, List.set_cons_zero, List.set_cons_succ])
  refine wpAnyH_take (i := 1) (oi := ⟨some 111, _, _, _, _, _⟩) (v := (.slice A3 ss.length c3)) rfl (by kernel_rfl) (by kernel_rfl) (by kernel_rfl) (fun _ _ _ h => h) (Or.inl ⟨by rfl, ?_⟩) HD ?_
  · intro w' hw'
    (go_simp; try with_reducible rfl)
  (try simp only [Act.put, List.setIfInBounds_toArray, List.set_cons_zero, List.set_cons_succ])
  have HO15 := Lib.hid HO14.out.drew
  clear HO14
  generalize w11.drew = w12 at *
  have k1 : w12.cell? ⟨w.heap.size, 0, none⟩ = some (.pointer (some ⟨w.heap.size + 1 + 1 + 1, 0, none⟩)) := HO15.out.o.p.cell 0
  have z1 : w12.frozen? ⟨w.heap.size, 0, none⟩ = false := HO15.out.o.p.frozen 0
  refine wpAnyH_ready (rs := [2]) (by kernel_rfl) (by simp) ?_
  refine AllReadyH.cons (o := ⟨none, _, _, _, _, _⟩) rfl (fun K hK => ?_) AllReadyH.nil
  go_simp
  have HO16 := Lib.hid HO15.out.setP
  clear k1 z1 HO15 HD
  generalize w12.setCell ⟨w.heap.size, 0, none⟩ (.pointer (some ⟨w.heap.size + 1 + 1 + 1, 0, none⟩)) = w13 at *
  refine hK.out _ _ ⟨HO16.out.o.p.cell 0, HO16.out.o.s.cell 0⟩ (fun HD => ?_)
  clear hK K
  (try simp only [Act.put, List.setIfInBounds_toArray, List.set_cons_zero, List.set_cons_succ])
  have k1 : w13.cell? ⟨w.heap.size + 1, 0, none⟩ = some (.slice A3 ss.length c3) := HO16.out.o.s.cell 0
  have z1 : w13.frozen? ⟨w.heap.size + 1, 0, none⟩ = false := HO16.out.o.s.frozen 0
  refine wpAnyH_ready (rs := [3]) (by kernel_rfl) (by simp) ?_
  refine AllReadyH.cons (o := ⟨none, _, _, _, _, _⟩) rfl (fun K hK => ?_) AllReadyH.nil
  go_simp
  have HO17 := Lib.hid (HO16.out.setS (.slice A3 ss.length c3))
  clear k1 z1 HO16 HD
  generalize w13.setCell ⟨w.heap.size + 1, 0, none⟩ (.slice A3 ss.length c3) = w14 at *
  refine hK.out _ _ ⟨HO17.out.o.p.cell 0, HO17.out.o.s.cell 0⟩ (fun HD => ?_)
  clear hK K
  (try simp only [Act.put, List.setIfInBounds_toArray, List.set_cons_zero, List.set_cons_succ])
  have k1 : w14.cell? ⟨w.heap.size + 1 + 1, 0, none⟩ = some (.int .i64 0) := HO17.out.o.e.cell 0
  have z1 : w14.frozen? ⟨w.heap.size + 1 + 1, 0, none⟩ = false := HO17.out.o.e.frozen 0
  refine wpAnyH_ready (rs := [4]) (by kernel_rfl) (by simp) ?_
  refine AllReadyH.cons (o := ⟨none, _, _, _, _, _⟩) rfl (fun K hK => ?_) AllReadyH.nil
  go_simp
  have HO18 := Lib.hid HO17.out.setE
  clear k1 z1 HO17 HD
  generalize w14.setCell ⟨w.heap.size + 1 + 1, 0, none⟩ (.int .i64 0) = w15 at *
  refine hK.out _ _ ⟨HO18.out.o.p.cell 0, HO18.out.o.s.cell 0⟩ (fun HD => ?_)
  clear hK K
  (try simp only [Act.put, List.setIfInBounds_toArray, List.set_cons_zero, List.set_cons_succ])
  refine wpAnyH_done (by kernel_rfl) (NoPanic.normal ?_) _
  clear HD
  go_wp2_with fail
  refine leaves_cons (f := 37) (args := #[.pointer (some ⟨w.heap.size + 1 + 1, 0, none⟩)]) (by simp) (by simp [go_sem]) ?_
  refine (jcaught_idle _ _).mono ?_
  rintro e u' w'' ⟨rfl, rfl, rfl⟩
  refine leaves_cons (f := 61) (args := #[.pointer (some ⟨w.heap.size + 1 + 1, 0, none⟩), .pointer (some ⟨w.heap.size, 0, none⟩), .pointer (some ⟨w.heap.size + 1, 0, none⟩)]) (by simp [settle]) (by simp [go_sem]) ?_
  refine (openD_ok _ _ _ _ _ (HO18.out.o.e.cell 0)).mono ?_
  rintro e u' w'' ⟨rfl, rfl, rfl⟩
  have h0 : w''.cell? ⟨w.heap.size, 0, none⟩ = some (.pointer (some ⟨w.heap.size + 1 + 1 + 1, 0, none⟩)) := HO18.out.o.p.cell 0
  have h1 : w''.cell? ⟨w.heap.size + 1, 0, none⟩ = some (.slice A3 ss.length c3) := HO18.out.o.s.cell 0
  have h2 : w''.cell? ⟨w.heap.size + 1 + 1, 0, none⟩ = some (.int .i64 0) := HO18.out.o.e.cell 0
  simp [Leaves, settle, results, Tryz.results31, go_sem, h0, h1, h2]
  exact ⟨A3, c3, ⟨rfl, rfl⟩, by simpa [jCs] using HO18.out⟩
end Go.Proofs.YtkdmfjpfanmgmaaGreatDoor
