/- Joined by mkmerge.py from the proof's texts Jour5, Jour6, Jour7. Conditions: each theorem's own hypotheses. -/
import Derived.Test.YtkdmfjpfanmgmaaGreatDoorM33
namespace Go.Proofs.YtkdmfjpfanmgmaaGreatDoor
open Go.RowKit Le Go.Maps
set_option maxRecDepth 100000
set_option linter.unusedSimpArgs false
set_option linter.unusedVariables false
/-- .. a Write. -/
def wrS (f : List UInt8) (i : Nat) (b : List UInt8) (s : DS) : DS := ⟨s.lasts, s.now.put f (laidB ((s.now.get f).getD []) i b), s.cs ++ [.wr f i b]⟩
set_option maxHeartbeats 3200000 in
theorem keep_new {w : World} {base d j : Nat} {name : List UInt8} {log marks mark many safe : Nat} {s0 s1 sw s2 : DS} (h : DiskAt w base d s0.lasts s0.now s0.cs) (hbw : base ≤ w.heap.size) (hj : Blk w j 96 (jCs d name log marks mark many safe)) (hge : base ≤ j) (hT : Tab w) (hTb : 3 < base)
    (hl : name.length ≤ 8) (hnl : nameB (name ++ endL) = true) (hnm : nameB (name ++ endM) = true) (h1 : SyncS (name ++ endL) s0 s1) (hw : sw = wrS (name ++ endM) marks (frameOf (low log 4)) s1) (h2 : SyncS (name ++ endM) sw s2) (hs0 : Small s0) (hs1 : Small s1) (hF : s1.now.length ≤ 15)
    (hsw : Small sw) (hmk : ((s1.now.get (name ++ endM)).getD []).length = marks) (hne : mark ≠ log) (hlg : log ≤ 1000000) :
    Calls Tryz.prog 60 #[.pointer (some ⟨j, 0, none⟩), .bool false] w fun e w' => e = .returned (.tuple #[]) ∧ JTo w w' base d j (jCs d name log (marks + 12) log many safe) s2.lasts s2.now s2.cs := by
  have HJ := Lib.hid hj
  have H := Lib.hid h
  have HT := Lib.hid hT
  have HW := Lib.hid hw
  have hsn : (text name).size = name.length := by simp [text, ByteArray.size]
  have e2 : text name ++ ⟨#[95, 108]⟩ = text (name ++ endL) := text_app name endL
  have e1 : text name ++ ⟨#[95, 109]⟩ = text (name ++ endM) := text_app name endM
  unfold jCs at HJ
  have j0 : w.cell? ⟨j, 0, none⟩ = some (.pointer (some ⟨d, 0, none⟩)) := HJ.out.cell 0
  have j1 : w.cell? ⟨j, 1, none⟩ = some (.string (text name)) := HJ.out.cell 1
  clear h hj hT hw
  go_enter Tryz.func60, Tryz.ntmps60
  go_wp2_with fail
  refine wp_region_held_drew (S := fun w' => w'.cell? ⟨j, 0, none⟩ = some (.pointer (some ⟨d, 0, none⟩)) ∧ w'.cell? ⟨j, 1, none⟩ = some (.string (text name))) (by kernel_rfl) ⟨HJ.out.cell 0, HJ.out.cell 1⟩ (fun HD => ?_)
  refine wpAnyH_take (i := 0) (oi := ⟨some 8, _, _, _, _, _⟩) (v := (.pointer (some ⟨j, 0, none⟩))) rfl (by kernel_rfl) (by kernel_rfl) (by kernel_rfl) (fun _ _ _ h => h) (Or.inl ⟨by rfl, ?_⟩) HD ?_
  · intro w' hw'
    (go_simp; try with_reducible rfl)
  (try simp only [Act.put, List.setIfInBounds_toArray, List.set_cons_zero, List.set_cons_succ])
  refine wpAnyH_take (i := 1) (oi := ⟨some 9, _, _, _, _, _⟩) (v := (.pointer (some ⟨j, 0, none⟩))) rfl (by kernel_rfl) (by kernel_rfl) (by kernel_rfl) (fun _ _ _ h => h) (Or.inl ⟨by rfl, ?_⟩) HD ?_
  · intro w' hw'
    (go_simp; try with_reducible rfl)
  (try simp only [Act.put, List.setIfInBounds_toArray, List.set_cons_zero, List.set_cons_succ])
  refine wpAnyH_take (i := 2) (oi := ⟨some 10, _, _, _, _, _⟩) (v := (.pointer (some ⟨j, 0, none⟩))) rfl (by kernel_rfl) (by kernel_rfl) (by kernel_rfl) (fun _ _ _ h => h) (Or.inl ⟨by rfl, ?_⟩) HD ?_
  · intro w' hw'
    (go_simp; try with_reducible rfl)
  (try simp only [Act.put, List.setIfInBounds_toArray, List.set_cons_zero, List.set_cons_succ])
  refine wpAnyH_take (i := 3) (oi := ⟨some 11, _, _, _, _, _⟩) (v := (.pointer (some ⟨d, 0, none⟩))) rfl (by kernel_rfl) (by kernel_rfl) (by kernel_rfl) (fun _ _ _ h => h) (Or.inl ⟨by rfl, ?_⟩) HD ?_
  · intro w' hw'
    (go_simp; try with_reducible rfl)
  (try simp only [Act.put, List.setIfInBounds_toArray, List.set_cons_zero, List.set_cons_succ])
  refine wpAnyH_take (i := 4) (oi := ⟨some 12, _, _, _, _, _⟩) (v := (.pointer (some ⟨j, 0, none⟩))) rfl (by kernel_rfl) (by kernel_rfl) (by kernel_rfl) (fun _ _ _ h => h) (Or.inl ⟨by rfl, ?_⟩) HD ?_
  · intro w' hw'
    (go_simp; try with_reducible rfl)
  (try simp only [Act.put, List.setIfInBounds_toArray, List.set_cons_zero, List.set_cons_succ])
  refine wpAnyH_take (i := 5) (oi := ⟨some 13, _, _, _, _, _⟩) (v := (.pointer (some ⟨j, 0, none⟩))) rfl (by kernel_rfl) (by kernel_rfl) (by kernel_rfl) (fun _ _ _ h => h) (Or.inl ⟨by rfl, ?_⟩) HD ?_
  · intro w' hw'
    (go_simp; try with_reducible rfl)
  (try simp only [Act.put, List.setIfInBounds_toArray, List.set_cons_zero, List.set_cons_succ])
  refine wpAnyH_take (i := 6) (oi := ⟨some 14, _, _, _, _, _⟩) (v := (.pointer (some ⟨j, 1, none⟩))) rfl (by kernel_rfl) (by kernel_rfl) (by kernel_rfl) (fun _ _ _ h => h) (Or.inl ⟨by rfl, ?_⟩) HD ?_
  · intro w' hw'
    (go_simp; try with_reducible rfl)
  (try simp only [Act.put, List.setIfInBounds_toArray, List.set_cons_zero, List.set_cons_succ])
  refine wpAnyH_take (i := 7) (oi := ⟨some 15, _, _, _, _, _⟩) (v := (.string (text name))) rfl (by kernel_rfl) (by kernel_rfl) (by kernel_rfl) (fun _ _ _ h => h) (Or.inl ⟨by rfl, ?_⟩) HD ?_
  · intro w' hw'
    (go_simp; try with_reducible rfl)
  (try simp only [Act.put, List.setIfInBounds_toArray, List.set_cons_zero, List.set_cons_succ])
  refine wpAnyH_take (i := 8) (oi := ⟨some 16, _, _, _, _, _⟩) (v := (.string (text (name ++ endL)))) rfl (by kernel_rfl) (by kernel_rfl) (by kernel_rfl) (fun _ _ _ h => h) (Or.inl ⟨by rfl, ?_⟩) HD ?_
  · intro w' hw'
    (go_simp; first | (with_reducible rfl) | omega)
  (try simp only [Act.put, List.setIfInBounds_toArray, List.set_cons_zero, List.set_cons_succ])
  refine wpAnyH_ready (rs := [9]) (by kernel_rfl) (by simp) ?_
  refine AllReadyH.cons (o := ⟨some 17, _, _, _, _, _⟩) rfl (fun K hK => ?_) AllReadyH.nil
  go_simp
  go_at_call 41
  obtain ⟨pre1, post1, hcs1, hp1, hq1, hok1, hs1'⟩ := h1
  have hat1 := H.out.same (SameD.of_below (Below.refl w.heap.size w).drew)
  rw [hcs1] at hat1
  refine (Sync_any hat1 (name ++ endL) (by simp [endL]; omega) hbw (by rw [← hcs1]; have := hs0.cs; omega) hnl hp1 hq1 hok1).mono ?_
  rintro e w1 ⟨rfl, h1⟩
  have HT1 : Hid (DiskTo w w1 base d s1.lasts s1.now s1.cs) := Lib.hid (by rw [hs1']; exact h1.after (Below.refl _ _).drew hbw)
  have HJ1 := Lib.hid (HJ.out.keeps HT1.out.keeps (by decide))
  have hbw1 : base ≤ w1.heap.size := Nat.le_trans hbw HT1.out.keeps.size
  clear h1 hat1 hok1 hs1' hp1 hq1 hcs1
  refine hK.out _ _ ⟨HJ1.out.cell 0, HJ1.out.cell 1⟩ (fun HD => ?_)
  clear hK K
  (try simp only [Act.put, List.setIfInBounds_toArray, List.set_cons_zero, List.set_cons_succ])
  refine wpAnyH_ready (rs := [10]) (by kernel_rfl) (by simp) ?_
  refine AllReadyH.cons (o := ⟨some 18, _, _, _, _, _⟩) rfl (fun K hK => ?_) AllReadyH.nil
  go_simp
  go_at_call 39
  refine (jmust_ok w1).mono ?_
  rintro e w1' ⟨rfl, rfl⟩
  refine hK.out _ _ HD (fun HD => ?_)
  clear hK K
  (try simp only [Act.put, List.setIfInBounds_toArray, List.set_cons_zero, List.set_cons_succ])
  refine wpAnyH_done (by kernel_rfl) ?_ _
  clear HD
  have a2 : w1.cell? ⟨j, 2, none⟩ = some (.int .i64 log) := HJ1.out.cell 2
  have a4 : w1.cell? ⟨j, 4, none⟩ = some (.int .i64 mark) := HJ1.out.cell 4
  clear j0 j1
  have j0 : w1.cell? ⟨j, 0, none⟩ = some (.pointer (some ⟨d, 0, none⟩)) := HJ1.out.cell 0
  have j1 : w1.cell? ⟨j, 1, none⟩ = some (.string (text name)) := HJ1.out.cell 1
  have HD1 := Lib.hid HT1.out.at_
  have hne2 : ¬ ((mark : Int) = (log : Int)) := by omega
  have hne' : ((mark : Int) != (log : Int)) = true := by simpa using hne2
  go_wp2_with fail
  refine wp_region_held_drew (S := fun w' => w'.cell? ⟨j, 4, none⟩ = some (.int .i64 mark) ∧ w'.cell? ⟨j, 2, none⟩ = some (.int .i64 log)) (by kernel_rfl) ⟨a4, a2⟩ (fun HD => ?_)
  refine wpAnyH_take (i := 0) (oi := ⟨some 19, _, _, _, _, _⟩) (v := (.pointer (some ⟨j, 0, none⟩))) rfl (by kernel_rfl) (by kernel_rfl) (by kernel_rfl) (fun _ _ _ h => h) (Or.inl ⟨by rfl, ?_⟩) HD ?_
  · intro w' hw'
    (go_simp; try with_reducible rfl)
  (try simp only [Act.put, List.setIfInBounds_toArray, List.set_cons_zero, List.set_cons_succ])
  refine wpAnyH_take (i := 1) (oi := ⟨some 20, _, _, _, _, _⟩) (v := (.pointer (some ⟨j, 0, none⟩))) rfl (by kernel_rfl) (by kernel_rfl) (by kernel_rfl) (fun _ _ _ h => h) (Or.inl ⟨by rfl, ?_⟩) HD ?_
  · intro w' hw'
    (go_simp; try with_reducible rfl)
  (try simp only [Act.put, List.setIfInBounds_toArray, List.set_cons_zero, List.set_cons_succ])
  refine wpAnyH_take (i := 2) (oi := ⟨some 21, _, _, _, _, _⟩) (v := (.pointer (some ⟨j, 4, none⟩))) rfl (by kernel_rfl) (by kernel_rfl) (by kernel_rfl) (fun _ _ _ h => h) (Or.inl ⟨by rfl, ?_⟩) HD ?_
  · intro w' hw'
    (go_simp; try with_reducible rfl)
  (try simp only [Act.put, List.setIfInBounds_toArray, List.set_cons_zero, List.set_cons_succ])
  refine wpAnyH_take (i := 3) (oi := ⟨some 22, _, _, _, _, _⟩) (v := (.int .i64 mark)) rfl (by kernel_rfl) (by kernel_rfl) (by kernel_rfl) (fun _ _ _ h => h) (Or.inl ⟨by rfl, ?_⟩) HD ?_
  · intro w' hw'
    (go_simp; try with_reducible rfl)
  (try simp only [Act.put, List.setIfInBounds_toArray, List.set_cons_zero, List.set_cons_succ])
  refine wpAnyH_take (i := 4) (oi := ⟨some 23, _, _, _, _, _⟩) (v := (.pointer (some ⟨j, 0, none⟩))) rfl (by kernel_rfl) (by kernel_rfl) (by kernel_rfl) (fun _ _ _ h => h) (Or.inl ⟨by rfl, ?_⟩) HD ?_
  · intro w' hw'
    (go_simp; try with_reducible rfl)
  (try simp only [Act.put, List.setIfInBounds_toArray, List.set_cons_zero, List.set_cons_succ])
  refine wpAnyH_take (i := 5) (oi := ⟨some 24, _, _, _, _, _⟩) (v := (.pointer (some ⟨j, 0, none⟩))) rfl (by kernel_rfl) (by kernel_rfl) (by kernel_rfl) (fun _ _ _ h => h) (Or.inl ⟨by rfl, ?_⟩) HD ?_
  · intro w' hw'
    (go_simp; try with_reducible rfl)
  (try simp only [Act.put, List.setIfInBounds_toArray, List.set_cons_zero, List.set_cons_succ])
  refine wpAnyH_take (i := 6) (oi := ⟨some 25, _, _, _, _, _⟩) (v := (.pointer (some ⟨j, 2, none⟩))) rfl (by kernel_rfl) (by kernel_rfl) (by kernel_rfl) (fun _ _ _ h => h) (Or.inl ⟨by rfl, ?_⟩) HD ?_
  · intro w' hw'
    (go_simp; try with_reducible rfl)
  (try simp only [Act.put, List.setIfInBounds_toArray, List.set_cons_zero, List.set_cons_succ])
  refine wpAnyH_take (i := 7) (oi := ⟨some 26, _, _, _, _, _⟩) (v := (.int .i64 log)) rfl (by kernel_rfl) (by kernel_rfl) (by kernel_rfl) (fun _ _ _ h => h) (Or.inl ⟨by rfl, ?_⟩) HD ?_
  · intro w' hw'
    (go_simp; try with_reducible rfl)
  (try simp only [Act.put, List.setIfInBounds_toArray, List.set_cons_zero, List.set_cons_succ])
  refine wpAnyH_take (i := 8) (oi := ⟨some 27, _, _, _, _, _⟩) (v := (.bool true)) rfl (by kernel_rfl) (by kernel_rfl) (by kernel_rfl) (fun _ _ _ h => h) (Or.inl ⟨by rfl, ?_⟩) HD ?_
  · intro w' hw'
    (go_simp; try with_reducible rfl)
  (try simp only [Act.put, List.setIfInBounds_toArray, List.set_cons_zero, List.set_cons_succ])
  refine wpAnyH_done (by kernel_rfl) ?_ _
  clear HD
  have HJ2 := Lib.hid HJ1.out.drew
  have HD2 := Lib.hid (HD1.out.same (SameD.of_below (Below.refl w1.heap.size w1).drew))
  have b2 : w1.drew.cell? ⟨j, 2, none⟩ = some (.int .i64 log) := a2
  go_wp2_with fail
  refine (putNumber_ok none 0 0 [] log w1.drew Reads.none_ (by omega) (by omega) (by omega)).mono ?_
  rintro e w2 ⟨rfl, hb2, hbl2⟩
  rw [show [] ++ low ((log : Int)).toNat 4 = low log 4 from by simp] at hb2
  have HB2 := Lib.hid (((Below.refl w1.heap.size w1).drew).trans hbl2)
  have HN2 := Lib.hid (Reads.of_blk hb2)
  rw [u8s_length, low_length] at HN2
  clear hb2 hbl2
  have HF2 := Lib.hid (frame_ok (some ⟨w1.drew.heap.size, 0, none⟩) 4 (0 + 4) (low log 4) w2 (HT.out.below (HT1.out.bel.trans (HB2.out.mono hbw1)) hTb) HN2.out (by omega))
  go_wp2_with fail
  refine HF2.out.mono ?_
  rintro e w3 ⟨A2, c2, rfl, hm3⟩
  have hfl : (frameOf (low log 4)).length = 8 + 4 := by simp
  rw [← hfl] at hm3
  have HR3 := Lib.hid (BytesN.of_made hm3)
  have HB3 := Lib.hid (HB2.out.trans (hm3.below.mono HB2.out.size))
  clear hm3 HF2 HN2
  have HJ3 := Lib.hid (HJ1.out.below HB3.out HJ1.out.lt)
  have HD3 := Lib.hid (HD1.out.same (SameD.of_below HB3.out))
  clear j0 j1 a2 a4 b2
  have j0 : w3.cell? ⟨j, 0, none⟩ = some (.pointer (some ⟨d, 0, none⟩)) := HJ3.out.cell 0
  have j1 : w3.cell? ⟨j, 1, none⟩ = some (.string (text name)) := HJ3.out.cell 1
  have j3 : w3.cell? ⟨j, 3, none⟩ = some (.int .i64 marks) := HJ3.out.cell 3
  go_wp2_with fail
  have hbw3 : base ≤ w3.heap.size := Nat.le_trans hbw1 HB3.out.size
  refine wp_region_held_drew (S := fun w' => w'.cell? ⟨j, 0, none⟩ = some (.pointer (some ⟨d, 0, none⟩)) ∧ w'.cell? ⟨j, 1, none⟩ = some (.string (text name)) ∧ w'.cell? ⟨j, 3, none⟩ = some (.int .i64 marks)) (by kernel_rfl) ⟨HJ3.out.cell 0, HJ3.out.cell 1, HJ3.out.cell 3⟩ (fun HD => ?_)
  refine wpAnyH_take (i := 0) (oi := ⟨some 41, _, _, _, _, _⟩) (v := (.pointer (some ⟨j, 0, none⟩))) rfl (by kernel_rfl) (by kernel_rfl) (by kernel_rfl) (fun _ _ _ h => h) (Or.inl ⟨by rfl, ?_⟩) HD ?_
  · intro w' hw'
    (go_simp; try with_reducible rfl)
  (try simp only [Act.put, List.setIfInBounds_toArray, List.set_cons_zero, List.set_cons_succ])
  refine wpAnyH_take (i := 1) (oi := ⟨some 42, _, _, _, _, _⟩) (v := (.pointer (some ⟨j, 0, none⟩))) rfl (by kernel_rfl) (by kernel_rfl) (by kernel_rfl) (fun _ _ _ h => h) (Or.inl ⟨by rfl, ?_⟩) HD ?_
  · intro w' hw'
    (go_simp; try with_reducible rfl)
  (try simp only [Act.put, List.setIfInBounds_toArray, List.set_cons_zero, List.set_cons_succ])
  refine wpAnyH_take (i := 2) (oi := ⟨some 43, _, _, _, _, _⟩) (v := (.pointer (some ⟨j, 0, none⟩))) rfl (by kernel_rfl) (by kernel_rfl) (by kernel_rfl) (fun _ _ _ h => h) (Or.inl ⟨by rfl, ?_⟩) HD ?_
  · intro w' hw'
    (go_simp; try with_reducible rfl)
  (try simp only [Act.put, List.setIfInBounds_toArray, List.set_cons_zero, List.set_cons_succ])
  refine wpAnyH_take (i := 3) (oi := ⟨some 44, _, _, _, _, _⟩) (v := (.pointer (some ⟨d, 0, none⟩))) rfl (by kernel_rfl) (by kernel_rfl) (by kernel_rfl) (fun _ _ _ h => h) (Or.inl ⟨by rfl, ?_⟩) HD ?_
  · intro w' hw'
    (go_simp; try with_reducible rfl)
  (try simp only [Act.put, List.setIfInBounds_toArray, List.set_cons_zero, List.set_cons_succ])
  refine wpAnyH_take (i := 4) (oi := ⟨some 45, _, _, _, _, _⟩) (v := (.pointer (some ⟨j, 0, none⟩))) rfl (by kernel_rfl) (by kernel_rfl) (by kernel_rfl) (fun _ _ _ h => h) (Or.inl ⟨by rfl, ?_⟩) HD ?_
  · intro w' hw'
    (go_simp; try with_reducible rfl)
  (try simp only [Act.put, List.setIfInBounds_toArray, List.set_cons_zero, List.set_cons_succ])
  refine wpAnyH_take (i := 5) (oi := ⟨some 46, _, _, _, _, _⟩) (v := (.pointer (some ⟨j, 0, none⟩))) rfl (by kernel_rfl) (by kernel_rfl) (by kernel_rfl) (fun _ _ _ h => h) (Or.inl ⟨by rfl, ?_⟩) HD ?_
  · intro w' hw'
    (go_simp; try with_reducible rfl)
  (try simp only [Act.put, List.setIfInBounds_toArray, List.set_cons_zero, List.set_cons_succ])
  refine wpAnyH_take (i := 6) (oi := ⟨some 47, _, _, _, _, _⟩) (v := (.pointer (some ⟨j, 1, none⟩))) rfl (by kernel_rfl) (by kernel_rfl) (by kernel_rfl) (fun _ _ _ h => h) (Or.inl ⟨by rfl, ?_⟩) HD ?_
  · intro w' hw'
    (go_simp; try with_reducible rfl)
  (try simp only [Act.put, List.setIfInBounds_toArray, List.set_cons_zero, List.set_cons_succ])
  refine wpAnyH_take (i := 7) (oi := ⟨some 48, _, _, _, _, _⟩) (v := (.string (text name))) rfl (by kernel_rfl) (by kernel_rfl) (by kernel_rfl) (fun _ _ _ h => h) (Or.inl ⟨by rfl, ?_⟩) HD ?_
  · intro w' hw'
    (go_simp; try with_reducible rfl)
  (try simp only [Act.put, List.setIfInBounds_toArray, List.set_cons_zero, List.set_cons_succ])
  refine wpAnyH_take (i := 8) (oi := ⟨some 49, _, _, _, _, _⟩) (v := (.string (text (name ++ endM)))) rfl (by kernel_rfl) (by kernel_rfl) (by kernel_rfl) (fun _ _ _ h => h) (Or.inl ⟨by rfl, ?_⟩) HD ?_
  · intro w' hw'
    (go_simp; first | (with_reducible rfl) | omega)
  (try simp only [Act.put, List.setIfInBounds_toArray, List.set_cons_zero, List.set_cons_succ])
  refine wpAnyH_take (i := 9) (oi := ⟨some 50, _, _, _, _, _⟩) (v := (.pointer (some ⟨j, 0, none⟩))) rfl (by kernel_rfl) (by kernel_rfl) (by kernel_rfl) (fun _ _ _ h => h) (Or.inl ⟨by rfl, ?_⟩) HD ?_
  · intro w' hw'
    (go_simp; try with_reducible rfl)
  (try simp only [Act.put, List.setIfInBounds_toArray, List.set_cons_zero, List.set_cons_succ])
  refine wpAnyH_take (i := 10) (oi := ⟨some 51, _, _, _, _, _⟩) (v := (.pointer (some ⟨j, 0, none⟩))) rfl (by kernel_rfl) (by kernel_rfl) (by kernel_rfl) (fun _ _ _ h => h) (Or.inl ⟨by rfl, ?_⟩) HD ?_
  · intro w' hw'
    (go_simp; try with_reducible rfl)
  (try simp only [Act.put, List.setIfInBounds_toArray, List.set_cons_zero, List.set_cons_succ])
  refine wpAnyH_take (i := 11) (oi := ⟨some 52, _, _, _, _, _⟩) (v := (.pointer (some ⟨j, 3, none⟩))) rfl (by kernel_rfl) (by kernel_rfl) (by kernel_rfl) (fun _ _ _ h => h) (Or.inl ⟨by rfl, ?_⟩) HD ?_
  · intro w' hw'
    (go_simp; try with_reducible rfl)
  (try simp only [Act.put, List.setIfInBounds_toArray, List.set_cons_zero, List.set_cons_succ])
  refine wpAnyH_take (i := 12) (oi := ⟨some 53, _, _, _, _, _⟩) (v := (.int .i64 marks)) rfl (by kernel_rfl) (by kernel_rfl) (by kernel_rfl) (fun _ _ _ h => h) (Or.inl ⟨by rfl, ?_⟩) HD ?_
  · intro w' hw'
    (go_simp; try with_reducible rfl)
  (try simp only [Act.put, List.setIfInBounds_toArray, List.set_cons_zero, List.set_cons_succ])
  refine wpAnyH_take (i := 13) (oi := ⟨some 54, _, _, _, _, _⟩) (v := (.slice A2 (8 + 4) c2)) rfl (by kernel_rfl) (by kernel_rfl) (by kernel_rfl) (fun _ _ _ h => h) (Or.inl ⟨by rfl, ?_⟩) HD ?_
  · intro w' hw'
    (go_simp; try with_reducible rfl)
  (try simp only [Act.put, List.setIfInBounds_toArray, List.set_cons_zero, List.set_cons_succ])
  refine wpAnyH_ready (rs := [14]) (by kernel_rfl) (by simp) ?_
  refine AllReadyH.cons (o := ⟨some 55, _, _, _, _, _⟩) rfl (fun K hK => ?_) AllReadyH.nil
  go_simp
  go_at_call 59
  have hrd4 : Reads w3.drew w3.drew.heap.size A2 (frameOf (low log 4)).length (u8s (frameOf (low log 4))) := HR3.out.1
  have hw4 := Write_any (w := w3.drew) (HD3.out.same (SameD.of_below (Below.refl _ _).drew)) (name ++ endM) marks A2 c2 (frameOf (low log 4)) (by simp [endM]; omega) hbw3 (by have := hs1.cs; omega) hnm (by omega) (by simp) (by have := hs1.now; simp; omega) hF hrd4
  rw [hfl] at hw4
  refine hw4.mono ?_
  rintro e w4 ⟨rfl, h4⟩
  have HT4 : Hid (DiskTo w3 w4 base d s1.lasts (s1.now.put (name ++ endM) (laidB ((s1.now.get (name ++ endM)).getD []) marks (frameOf (low log 4)))) (s1.cs ++ [.wr (name ++ endM) marks (frameOf (low log 4))])) := Lib.hid (h4.after (Below.refl _ _).drew hbw3)
  have HJ4 := Lib.hid (HJ3.out.keeps HT4.out.keeps (by decide))
  have hbw4 : base ≤ w4.heap.size := Nat.le_trans hbw3 HT4.out.keeps.size
  clear h4 hrd4 hw4
  refine hK.out _ _ ⟨HJ4.out.cell 0, HJ4.out.cell 1, HJ4.out.cell 3⟩ (fun HD => ?_)
  clear hK K
  (try simp only [Act.put, List.setIfInBounds_toArray, List.set_cons_zero, List.set_cons_succ])
  refine wpAnyH_ready (rs := [15]) (by kernel_rfl) (by simp) ?_
  refine AllReadyH.cons (o := ⟨some 56, _, _, _, _, _⟩) rfl (fun K hK => ?_) AllReadyH.nil
  go_simp
  go_at_call 39
  refine (jmust_ok w4).mono ?_
  rintro e w4' ⟨rfl, rfl⟩
  refine hK.out _ _ HD (fun HD => ?_)
  clear hK K
  (try simp only [Act.put, List.setIfInBounds_toArray, List.set_cons_zero, List.set_cons_succ])
  refine wpAnyH_done (by kernel_rfl) ?_ _
  clear HD
  go_wp2_with fail
  refine wp_region_last 18 (S := fun w' => w'.cell? ⟨j, 2, none⟩ = some (.int .i64 log) ∧ w'.cell? ⟨j, 3, none⟩ = some (.int .i64 marks)) (by kernel_rfl) ⟨HJ4.out.cell 2, HJ4.out.cell 3⟩ (fun HD => ?_)
  have hmb : marks ≤ 500000 := by rw [← hmk]; exact Nat.le_trans (FM.get_le_sum _) hs1.now
  refine LastH.take (i := 0) (oi := ⟨some 57, _, _, _, _, _⟩) (v := (.pointer (some ⟨j, 0, none⟩))) rfl (by kernel_rfl) (by kernel_rfl) (by kernel_rfl) (by kernel_rfl) (fun _ _ _ h => h) (Or.inl ⟨by rfl, ?_⟩) HD ?_
  · intro w' hw'
    (go_simp; try with_reducible rfl)
  (try simp only [Act.put, List.setIfInBounds_toArray, List.set_cons_zero, List.set_cons_succ])
  refine LastH.take (i := 1) (oi := ⟨some 58, _, _, _, _, _⟩) (v := (.pointer (some ⟨j, 0, none⟩))) rfl (by kernel_rfl) (by kernel_rfl) (by kernel_rfl) (by kernel_rfl) (fun _ _ _ h => h) (Or.inl ⟨by rfl, ?_⟩) HD ?_
  · intro w' hw'
    (go_simp; try with_reducible rfl)
  (try simp only [Act.put, List.setIfInBounds_toArray, List.set_cons_zero, List.set_cons_succ])
  refine LastH.take (i := 2) (oi := ⟨some 59, _, _, _, _, _⟩) (v := (.pointer (some ⟨j, 0, none⟩))) rfl (by kernel_rfl) (by kernel_rfl) (by kernel_rfl) (by kernel_rfl) (fun _ _ _ h => h) (Or.inl ⟨by rfl, ?_⟩) HD ?_
  · intro w' hw'
    (go_simp; try with_reducible rfl)
  (try simp only [Act.put, List.setIfInBounds_toArray, List.set_cons_zero, List.set_cons_succ])
  refine LastH.take (i := 3) (oi := ⟨some 60, _, _, _, _, _⟩) (v := (.pointer (some ⟨j, 0, none⟩))) rfl (by kernel_rfl) (by kernel_rfl) (by kernel_rfl) (by kernel_rfl) (fun _ _ _ h => h) (Or.inl ⟨by rfl, ?_⟩) HD ?_
  · intro w' hw'
    (go_simp; try with_reducible rfl)
  (try simp only [Act.put, List.setIfInBounds_toArray, List.set_cons_zero, List.set_cons_succ])
  refine LastH.take (i := 4) (oi := ⟨some 61, _, _, _, _, _⟩) (v := (.pointer (some ⟨j, 2, none⟩))) rfl (by kernel_rfl) (by kernel_rfl) (by kernel_rfl) (by kernel_rfl) (fun _ _ _ h => h) (Or.inl ⟨by rfl, ?_⟩) HD ?_
  · intro w' hw'
    (go_simp; try with_reducible rfl)
  (try simp only [Act.put, List.setIfInBounds_toArray, List.set_cons_zero, List.set_cons_succ])
  refine LastH.take (i := 5) (oi := ⟨some 62, _, _, _, _, _⟩) (v := (.int .i64 log)) rfl (by kernel_rfl) (by kernel_rfl) (by kernel_rfl) (by kernel_rfl) (fun _ _ _ h => h) (Or.inl ⟨by rfl, ?_⟩) HD ?_
  · intro w' hw'
    (go_simp; try with_reducible rfl)
  (try simp only [Act.put, List.setIfInBounds_toArray, List.set_cons_zero, List.set_cons_succ])
  refine LastH.take (i := 6) (oi := ⟨some 63, _, _, _, _, _⟩) (v := (.pointer (some ⟨j, 0, none⟩))) rfl (by kernel_rfl) (by kernel_rfl) (by kernel_rfl) (by kernel_rfl) (fun _ _ _ h => h) (Or.inl ⟨by rfl, ?_⟩) HD ?_
  · intro w' hw'
    (go_simp; try with_reducible rfl)
  (try simp only [Act.put, List.setIfInBounds_toArray, List.set_cons_zero, List.set_cons_succ])
  refine LastH.take (i := 7) (oi := ⟨some 64, _, _, _, _, _⟩) (v := (.pointer (some ⟨j, 0, none⟩))) rfl (by kernel_rfl) (by kernel_rfl) (by kernel_rfl) (by kernel_rfl) (fun _ _ _ h => h) (Or.inl ⟨by rfl, ?_⟩) HD ?_
  · intro w' hw'
    (go_simp; try with_reducible rfl)
  (try simp only [Act.put, List.setIfInBounds_toArray, List.set_cons_zero, List.set_cons_succ])
  refine LastH.take (i := 8) (oi := ⟨some 65, _, _, _, _, _⟩) (v := (.pointer (some ⟨j, 3, none⟩))) rfl (by kernel_rfl) (by kernel_rfl) (by kernel_rfl) (by kernel_rfl) (fun _ _ _ h => h) (Or.inl ⟨by rfl, ?_⟩) HD ?_
  · intro w' hw'
    (go_simp; try with_reducible rfl)
  (try simp only [Act.put, List.setIfInBounds_toArray, List.set_cons_zero, List.set_cons_succ])
  refine LastH.take (i := 9) (oi := ⟨some 66, _, _, _, _, _⟩) (v := (.int .i64 marks)) rfl (by kernel_rfl) (by kernel_rfl) (by kernel_rfl) (by kernel_rfl) (fun _ _ _ h => h) (Or.inl ⟨by rfl, ?_⟩) HD ?_
  · intro w' hw'
    (go_simp; try with_reducible rfl)
  (try simp only [Act.put, List.setIfInBounds_toArray, List.set_cons_zero, List.set_cons_succ])
  refine LastH.take (i := 10) (oi := ⟨some 67, _, _, _, _, _⟩) (v := (.slice A2 (8 + 4) c2)) rfl (by kernel_rfl) (by kernel_rfl) (by kernel_rfl) (by kernel_rfl) (fun _ _ _ h => h) (Or.inl ⟨by rfl, ?_⟩) HD ?_
  · intro w' hw'
    (go_simp; try with_reducible rfl)
  (try simp only [Act.put, List.setIfInBounds_toArray, List.set_cons_zero, List.set_cons_succ])
  refine LastH.take (i := 11) (oi := ⟨some 68, _, _, _, _, _⟩) (v := (.int .i64 12)) rfl (by kernel_rfl) (by kernel_rfl) (by kernel_rfl) (by kernel_rfl) (fun _ _ _ h => h) (Or.inl ⟨by rfl, ?_⟩) HD ?_
  · intro w' hw'
    (go_simp; try with_reducible rfl)
  (try simp only [Act.put, List.setIfInBounds_toArray, List.set_cons_zero, List.set_cons_succ])
  refine LastH.take (i := 12) (oi := ⟨some 69, _, _, _, _, _⟩) (v := (.int .i64 ((marks : Int) + 12))) rfl (by kernel_rfl) (by kernel_rfl) (by kernel_rfl) (by kernel_rfl) (fun _ _ _ h => h) (Or.inl ⟨by rfl, ?_⟩) HD ?_
  · intro w' hw'
    (go_simp; first | (with_reducible rfl) | exact IntWalk.i64_in _ (by omega))
  (try simp only [Act.put, List.setIfInBounds_toArray, List.set_cons_zero, List.set_cons_succ])
  refine LastH.take (i := 13) (oi := ⟨some 70, _, _, _, _, _⟩) (v := (.pointer (some ⟨j, 0, none⟩))) rfl (by kernel_rfl) (by kernel_rfl) (by kernel_rfl) (by kernel_rfl) (fun _ _ _ h => h) (Or.inl ⟨by rfl, ?_⟩) HD ?_
  · intro w' hw'
    (go_simp; try with_reducible rfl)
  (try simp only [Act.put, List.setIfInBounds_toArray, List.set_cons_zero, List.set_cons_succ])
  refine LastH.take (i := 14) (oi := ⟨some 71, _, _, _, _, _⟩) (v := (.pointer (some ⟨j, 4, none⟩))) rfl (by kernel_rfl) (by kernel_rfl) (by kernel_rfl) (by kernel_rfl) (fun _ _ _ h => h) (Or.inl ⟨by rfl, ?_⟩) HD ?_
  · intro w' hw'
    (go_simp; try with_reducible rfl)
  (try simp only [Act.put, List.setIfInBounds_toArray, List.set_cons_zero, List.set_cons_succ])
  have f4 : w4.drew.frozen? ⟨j, 4, none⟩ = false := HJ4.out.frozen 4
  have c4 : w4.drew.cell? ⟨j, 4, none⟩ = some (.int .i64 mark) := HJ4.out.cell 4
  refine LastH.one (i := 15) (o := ⟨none, _, _, _, _, _⟩) (by kernel_rfl) rfl (fun K hK => ?_)
  go_simp
  have HB5 := Lib.hid ((HJ4.out.drew).set_ 4 (.int .i64 log))
  refine hK.out _ _ ⟨HB5.out.cell 2, HB5.out.cell 3⟩ ?_
  clear hK K
  have HD5 := And.intro (HB5.out.cell 2) (HB5.out.cell 3)
  (try simp only [Act.put, List.setIfInBounds_toArray, List.set_cons_zero, List.set_cons_succ])
  refine LastH.one (i := 16) (o := ⟨some 72, _, _, _, _, _⟩) (by kernel_rfl) rfl (fun K hK => ?_)
  go_simp
  refine hK.out _ _ HD5 ?_
  clear hK K
  (try simp only [Act.put, List.setIfInBounds_toArray, List.set_cons_zero, List.set_cons_succ])
  refine LastH.one (i := 17) (o := ⟨some 73, _, _, _, _, _⟩) (by kernel_rfl) rfl (fun K hK => ?_)
  go_simp
  refine hK.out _ _ HD5 ?_
  clear hK K HD5
  (try simp only [Act.put, List.setIfInBounds_toArray, List.set_cons_zero, List.set_cons_succ])
  have f3 : w4.frozen? ⟨j, 3, none⟩ = false := HJ4.out.frozen 3
  have c3 : w4.cell? ⟨j, 3, none⟩ = some (.int .i64 marks) := HJ4.out.cell 3
  refine LastH.end_ (i := 18) (o := ⟨none, _, _, _, _, _⟩) (by kernel_rfl) rfl rfl (fun K hK => ?_)
  go_simp
  refine hK.out _ _ (LastH.done (by kernel_rfl) ?_ _)
  clear hK K
  have HB5' := Lib.hid (HJ4.out.set_ 4 (.int .i64 log))
  have HB6 := Lib.hid ((HB5'.out.set_ 3 (.int .i64 ((marks : Int) + 12))).drew)
  have hx5 : TypeAt (w4.setCell ⟨j, 4, none⟩ (.int .i64 log)) j 96 := HB5'.out.typ
  have HD6 := Lib.hid (((HT4.out.at_.same (SameD.set HJ4.out.typ (by decide) (p := ⟨j, 4, none⟩) (.int .i64 log))).same (SameD.set hx5 (by decide) (p := ⟨j, 3, none⟩) (.int .i64 ((marks : Int) + 12)))).same (SameD.of_below (Below.refl _ _).drew))
  have HBL6 := Lib.hid (((((Below.refl base w4)).setCell (p := ⟨j, 4, none⟩) hge (.int .i64 log)).setCell (p := ⟨j, 3, none⟩) hge (.int .i64 ((marks : Int) + 12))).drew)
  have HK6 := Lib.hid ((((Keeps.refl [80, 106, 96] w4).step (g := j) (i := 4) HJ4.out.typ (by simp) (u := .int .i64 log)).step (g := j) (i := 3) hx5 (by simp) (u := .int .i64 ((marks : Int) + 12))).trans (Keeps.of_below ((Below.refl _ _).drew) (Nat.le_refl _)))
  clear c4 f4 c3 f3 hx5 HB5' HB5 j0 j1 j3 HD
  have hbw6 : base ≤ ((w4.setCell ⟨j, 4, none⟩ (.int .i64 log)).setCell ⟨j, 3, none⟩ (.int .i64 ((marks : Int) + 12))).drew.heap.size := by simpa using hbw4
  generalize ((w4.setCell ⟨j, 4, none⟩ (.int .i64 log)).setCell ⟨j, 3, none⟩ (.int .i64 ((marks : Int) + 12))).drew = w6 at *
  go_wp2_with fail
  refine wp_region_held_drew (S := fun _ => True) (by kernel_rfl) trivial (fun HD => ?_)
  refine wpAnyH_take (i := 0) (oi := ⟨some 74, _, _, _, _, _⟩) (v := (.bool true)) rfl (by kernel_rfl) (by kernel_rfl) (by kernel_rfl) (fun _ _ _ h => h) (Or.inl ⟨by rfl, ?_⟩) HD ?_
  · intro w' hw'
    (go_simp; try with_reducible rfl)
  (try simp only [Act.put, List.setIfInBounds_toArray, List.set_cons_zero, List.set_cons_succ])
  refine wpAnyH_take (i := 1) (oi := ⟨some 75, _, _, _, _, _⟩) (v := (.bool true)) rfl (by kernel_rfl) (by kernel_rfl) (by kernel_rfl) (fun _ _ _ h => h) (Or.inl ⟨by rfl, ?_⟩) HD ?_
  · intro w' hw'
    (go_simp; try with_reducible rfl)
  (try simp only [Act.put, List.setIfInBounds_toArray, List.set_cons_zero, List.set_cons_succ])
  refine wpAnyH_take (i := 2) (oi := ⟨some 76, _, _, _, _, _⟩) (v := undef) rfl (by kernel_rfl) (by kernel_rfl) (by kernel_rfl) (fun _ _ _ h => h) (Or.inr ⟨by rfl, rfl⟩) HD ?_
  (try simp only [Act.put, List.setIfInBounds_toArray, List.set_cons_zero, List.set_cons_succ])
  refine wpAnyH_take (i := 3) (oi := ⟨some 77, _, _, _, _, _⟩) (v := undef) rfl (by kernel_rfl) (by kernel_rfl) (by kernel_rfl) (fun _ _ _ h => h) (Or.inr ⟨by rfl, rfl⟩) HD ?_
  (try simp only [Act.put, List.setIfInBounds_toArray, List.set_cons_zero, List.set_cons_succ])
  refine wpAnyH_take (i := 4) (oi := ⟨some 78, _, _, _, _, _⟩) (v := undef) rfl (by kernel_rfl) (by kernel_rfl) (by kernel_rfl) (fun _ _ _ h => h) (Or.inr ⟨by rfl, rfl⟩) HD ?_
  (try simp only [Act.put, List.setIfInBounds_toArray, List.set_cons_zero, List.set_cons_succ])
  refine wpAnyH_take (i := 5) (oi := ⟨some 79, _, _, _, _, _⟩) (v := undef) rfl (by kernel_rfl) (by kernel_rfl) (by kernel_rfl) (fun _ _ _ h => h) (Or.inr ⟨by rfl, rfl⟩) HD ?_
  (try simp only [Act.put, List.setIfInBounds_toArray, List.set_cons_zero, List.set_cons_succ])
  refine wpAnyH_take (i := 6) (oi := ⟨some 80, _, _, _, _, _⟩) (v := undef) rfl (by kernel_rfl) (by kernel_rfl) (by kernel_rfl) (fun _ _ _ h => h) (Or.inr ⟨by rfl, rfl⟩) HD ?_
  (try simp only [Act.put, List.setIfInBounds_toArray, List.set_cons_zero, List.set_cons_succ])
  refine wpAnyH_take (i := 7) (oi := ⟨some 81, _, _, _, _, _⟩) (v := undef) rfl (by kernel_rfl) (by kernel_rfl) (by kernel_rfl) (fun _ _ _ h => h) (Or.inr ⟨by rfl, rfl⟩) HD ?_
  (try simp only [Act.put, List.setIfInBounds_toArray, List.set_cons_zero, List.set_cons_succ])
  refine wpAnyH_take (i := 8) (oi := ⟨some 82, _, _, _, _, _⟩) (v := undef) rfl (by kernel_rfl) (by kernel_rfl) (by kernel_rfl) (fun _ _ _ h => h) (Or.inr ⟨by rfl, rfl⟩) HD ?_
  (try simp only [Act.put, List.setIfInBounds_toArray, List.set_cons_zero, List.set_cons_succ])
  refine wpAnyH_take (i := 9) (oi := ⟨some 83, _, _, _, _, _⟩) (v := undef) rfl (by kernel_rfl) (by kernel_rfl) (by kernel_rfl) (fun _ _ _ h => h) (Or.inr ⟨by rfl, rfl⟩) HD ?_
  (try simp only [Act.put, List.setIfInBounds_toArray, List.set_cons_zero, List.set_cons_succ])
  refine wpAnyH_take (i := 10) (oi := ⟨some 84, _, _, _, _, _⟩) (v := undef) rfl (by kernel_rfl) (by kernel_rfl) (by kernel_rfl) (fun _ _ _ h => h) (Or.inr ⟨by rfl, rfl⟩) HD ?_
  (try simp only [Act.put, List.setIfInBounds_toArray, List.set_cons_zero, List.set_cons_succ])
  refine wpAnyH_take (i := 11) (oi := ⟨some 85, _, _, _, _, _⟩) (v := (.bool true)) rfl (by kernel_rfl) (by kernel_rfl) (by kernel_rfl) (fun _ _ _ h => h) (Or.inl ⟨by rfl, ?_⟩) HD ?_
  · intro w' hw'
    (go_simp; try with_reducible rfl)
  (try simp only [Act.put, List.setIfInBounds_toArray, List.set_cons_zero, List.set_cons_succ])
  refine wpAnyH_done (by kernel_rfl) ?_ _
  clear HD
  have HJ7 := Lib.hid HB6.out.drew
  have HD7 : Hid (DiskAt w6.drew base d sw.lasts sw.now sw.cs) := Lib.hid (by rw [HW.out]; exact HD6.out.same (SameD.of_below (Below.refl w6.heap.size w6).drew))
  have hbw7 : base ≤ w6.drew.heap.size := hbw6
  have hs2 : Small sw := hsw
  have j0 : w6.drew.cell? ⟨j, 0, none⟩ = some (.pointer (some ⟨d, 0, none⟩)) := HJ7.out.cell 0
  have j1 : w6.drew.cell? ⟨j, 1, none⟩ = some (.string (text name)) := HJ7.out.cell 1
  go_wp2_with fail
  refine wp_region_held_drew (S := fun w' => w'.cell? ⟨j, 0, none⟩ = some (.pointer (some ⟨d, 0, none⟩)) ∧ w'.cell? ⟨j, 1, none⟩ = some (.string (text name))) (by kernel_rfl) ⟨HJ7.out.cell 0, HJ7.out.cell 1⟩ (fun HD => ?_)
  refine wpAnyH_take (i := 0) (oi := ⟨some 86, _, _, _, _, _⟩) (v := (.pointer (some ⟨j, 0, none⟩))) rfl (by kernel_rfl) (by kernel_rfl) (by kernel_rfl) (fun _ _ _ h => h) (Or.inl ⟨by rfl, ?_⟩) HD ?_
  · intro w' hw'
    (go_simp; try with_reducible rfl)
  (try simp only [Act.put, List.setIfInBounds_toArray, List.set_cons_zero, List.set_cons_succ])
  refine wpAnyH_take (i := 1) (oi := ⟨some 87, _, _, _, _, _⟩) (v := (.pointer (some ⟨j, 0, none⟩))) rfl (by kernel_rfl) (by kernel_rfl) (by kernel_rfl) (fun _ _ _ h => h) (Or.inl ⟨by rfl, ?_⟩) HD ?_
  · intro w' hw'
    (go_simp; try with_reducible rfl)
  (try simp only [Act.put, List.setIfInBounds_toArray, List.set_cons_zero, List.set_cons_succ])
  refine wpAnyH_take (i := 2) (oi := ⟨some 88, _, _, _, _, _⟩) (v := (.pointer (some ⟨j, 0, none⟩))) rfl (by kernel_rfl) (by kernel_rfl) (by kernel_rfl) (fun _ _ _ h => h) (Or.inl ⟨by rfl, ?_⟩) HD ?_
  · intro w' hw'
    (go_simp; try with_reducible rfl)
  (try simp only [Act.put, List.setIfInBounds_toArray, List.set_cons_zero, List.set_cons_succ])
  refine wpAnyH_take (i := 3) (oi := ⟨some 89, _, _, _, _, _⟩) (v := (.pointer (some ⟨d, 0, none⟩))) rfl (by kernel_rfl) (by kernel_rfl) (by kernel_rfl) (fun _ _ _ h => h) (Or.inl ⟨by rfl, ?_⟩) HD ?_
  · intro w' hw'
    (go_simp; try with_reducible rfl)
  (try simp only [Act.put, List.setIfInBounds_toArray, List.set_cons_zero, List.set_cons_succ])
  refine wpAnyH_take (i := 4) (oi := ⟨some 90, _, _, _, _, _⟩) (v := (.pointer (some ⟨j, 0, none⟩))) rfl (by kernel_rfl) (by kernel_rfl) (by kernel_rfl) (fun _ _ _ h => h) (Or.inl ⟨by rfl, ?_⟩) HD ?_
  · intro w' hw'
    (go_simp; try with_reducible rfl)
  (try simp only [Act.put, List.setIfInBounds_toArray, List.set_cons_zero, List.set_cons_succ])
  refine wpAnyH_take (i := 5) (oi := ⟨some 91, _, _, _, _, _⟩) (v := (.pointer (some ⟨j, 0, none⟩))) rfl (by kernel_rfl) (by kernel_rfl) (by kernel_rfl) (fun _ _ _ h => h) (Or.inl ⟨by rfl, ?_⟩) HD ?_
  · intro w' hw'
    (go_simp; try with_reducible rfl)
  (try simp only [Act.put, List.setIfInBounds_toArray, List.set_cons_zero, List.set_cons_succ])
  refine wpAnyH_take (i := 6) (oi := ⟨some 92, _, _, _, _, _⟩) (v := (.pointer (some ⟨j, 1, none⟩))) rfl (by kernel_rfl) (by kernel_rfl) (by kernel_rfl) (fun _ _ _ h => h) (Or.inl ⟨by rfl, ?_⟩) HD ?_
  · intro w' hw'
    (go_simp; try with_reducible rfl)
  (try simp only [Act.put, List.setIfInBounds_toArray, List.set_cons_zero, List.set_cons_succ])
  refine wpAnyH_take (i := 7) (oi := ⟨some 93, _, _, _, _, _⟩) (v := (.string (text name))) rfl (by kernel_rfl) (by kernel_rfl) (by kernel_rfl) (fun _ _ _ h => h) (Or.inl ⟨by rfl, ?_⟩) HD ?_
  · intro w' hw'
    (go_simp; try with_reducible rfl)
  (try simp only [Act.put, List.setIfInBounds_toArray, List.set_cons_zero, List.set_cons_succ])
  refine wpAnyH_take (i := 8) (oi := ⟨some 94, _, _, _, _, _⟩) (v := (.string (text (name ++ endM)))) rfl (by kernel_rfl) (by kernel_rfl) (by kernel_rfl) (fun _ _ _ h => h) (Or.inl ⟨by rfl, ?_⟩) HD ?_
  · intro w' hw'
    (go_simp; first | (with_reducible rfl) | omega)
  (try simp only [Act.put, List.setIfInBounds_toArray, List.set_cons_zero, List.set_cons_succ])
  refine wpAnyH_ready (rs := [9]) (by kernel_rfl) (by simp) ?_
  refine AllReadyH.cons (o := ⟨some 95, _, _, _, _, _⟩) rfl (fun K hK => ?_) AllReadyH.nil
  go_simp
  go_at_call 41
  obtain ⟨pre8, post8, hcs8, hp8, hq8, hok8, hs8'⟩ := h2
  have hat8 := HD7.out.same (SameD.of_below (Below.refl w6.drew.heap.size w6.drew).drew)
  rw [hcs8] at hat8
  refine (Sync_any hat8 (name ++ endM) (by simp [endM]; omega) hbw7 (by rw [← hcs8]; have := hs2.cs; omega) hnm hp8 hq8 hok8).mono ?_
  rintro e w8 ⟨rfl, h8⟩
  have HT8 : Hid (DiskTo w6.drew w8 base d s2.lasts s2.now s2.cs) := Lib.hid (by rw [hs8']; exact h8.after (Below.refl _ _).drew hbw7)
  have HJ8 := Lib.hid (HJ7.out.keeps HT8.out.keeps (by decide))
  have hbw8 : base ≤ w8.heap.size := Nat.le_trans hbw7 HT8.out.keeps.size
  clear h8 hat8 hok8 hs8' hp8 hq8 hcs8
  refine hK.out _ _ ⟨HJ8.out.cell 0, HJ8.out.cell 1⟩ (fun HD => ?_)
  clear hK K
  (try simp only [Act.put, List.setIfInBounds_toArray, List.set_cons_zero, List.set_cons_succ])
  refine wpAnyH_ready (rs := [10]) (by kernel_rfl) (by simp) ?_
  refine AllReadyH.cons (o := ⟨some 96, _, _, _, _, _⟩) rfl (fun K hK => ?_) AllReadyH.nil
  go_simp
  go_at_call 39
  refine (jmust_ok w8).mono ?_
  rintro e w8' ⟨rfl, rfl⟩
  refine hK.out _ _ HD (fun HD => ?_)
  clear hK K
  (try simp only [Act.put, List.setIfInBounds_toArray, List.set_cons_zero, List.set_cons_succ])
  refine wpAnyH_done (by kernel_rfl) ?_ _
  clear HD
  go_wp2_with fail
  go_end0
  exact ⟨rfl, HT8.out.at_, by simpa [jCs] using HJ8.out, (HT1.out.bel.trans ((HB3.out.mono hbw1).trans (HT4.out.bel.trans (HBL6.out.trans ((Below.refl base w6).drew.trans HT8.out.bel))))), ((HT1.out.keeps.more (by simp)).trans (Keeps.trans (Keeps.of_below HB3.out (Nat.le_refl _)) (Keeps.trans (HT4.out.keeps.more (by simp)) (HK6.out.trans (Keeps.trans (Keeps.of_below ((Below.refl w6.heap.size w6).drew) (Nat.le_refl _)) (HT8.out.keeps.more (by simp)))))))⟩
end Go.Proofs.YtkdmfjpfanmgmaaGreatDoor
namespace Go.Proofs.YtkdmfjpfanmgmaaGreatDoor
open Go.RowKit Le Go.Maps
set_option maxRecDepth 100000
set_option linter.unusedSimpArgs false
set_option linter.unusedVariables false
set_option maxHeartbeats 1600000 in
theorem jSync_any {w : World} {base d j : Nat} {name : List UInt8} {log marks mark many safe : Nat} {s0 s1 sw s2 : DS} (h : DiskAt w base d s0.lasts s0.now s0.cs) (hbw : base ≤ w.heap.size) (hj : Blk w j 96 (jCs d name log marks mark many safe)) (hge : base ≤ j) (hT : Tab w) (hTb : 3 < base)
    (hl : name.length ≤ 8) (hnl : nameB (name ++ endL) = true) (hnm : nameB (name ++ endM) = true) (h1 : SyncS (name ++ endL) s0 s1) (hw : sw = wrS (name ++ endM) marks (frameOf (low log 4)) s1) (h2 : SyncS (name ++ endM) sw s2) (hs0 : Small s0) (hs1 : Small s1) (hF : s1.now.length ≤ 15)
    (hsw : Small sw) (hmk : ((s1.now.get (name ++ endM)).getD []).length = marks) (hne : mark ≠ log) (hlg : log ≤ 1000000) :
    Calls Tryz.prog 30 #[.pointer (some ⟨j, 0, none⟩)] w fun e w' => e = .returned (.int .i64 0) ∧ JTo w w' base d j (jCs d name log (marks + 12) log many many) s2.lasts s2.now s2.cs := by
  have H := Lib.hid h
  have HJ := Lib.hid hj
  have HT := Lib.hid hT
  have HW := Lib.hid hw
  have hjl := HJ.out.lt
  clear h hj hT hw
  go_enter_defers Tryz.func30, Tryz.ntmps30
  go_wp2_with fail
  refine at_world _ fun W hW => ?_
  have hb0 : Below w.heap.size w W := by
    subst hW
    exact (by repeat (first | with_reducible exact (Below.refl w.heap.size w) | (with_reducible refine Below.setCell ?_ (by dsimp only; (first | omega | (simp; done) | (simp; omega))) _) | (with_reducible refine Below.alloc ?_ (by (first | omega | (simp; done) | (simp; omega))) _) | with_reducible refine Below.drew ?_))
  have hB0 : Blk W w.heap.size 39 [.int .i64 0] := by
    subst hW
    exact Blk.new w _ _
  have hsW : W.heap.size = w.heap.size + 1 := by subst hW; simp
  clear hW
  have HK := Lib.hid (keep_new (H.out.same (SameD.of_below hb0)) (by omega) (HJ.out.below hb0 hjl) hge (HT.out.below hb0 (by omega)) hTb hl hnl hnm h1 HW.out h2 hs0 hs1 hF hsw hmk hne hlg)
  refine HK.out.mono ?_
  rintro e w1 ⟨rfl, h1'⟩
  have HJ1 := Lib.hid h1'
  have HX1 := Lib.hid (hB0.keeps h1'.keeps (by decide))
  have HB0 := Lib.hid hb0
  clear h1' HK hB0 hb0
  unfold jCs at HJ1
  have i5 : w1.cell? ⟨j, 5, none⟩ = some (.int .i64 many) := HJ1.out.blk.cell 5
  have g6 : w1.frozen? ⟨j, 6, none⟩ = false := HJ1.out.blk.frozen 6
  have i6 : w1.cell? ⟨j, 6, none⟩ = some (.int .i64 safe) := HJ1.out.blk.cell 6
  have x0 : w1.cell? ⟨w.heap.size, 0, none⟩ = some (.int .i64 0) := HX1.out.cell 0
  have y0 : w1.frozen? ⟨w.heap.size, 0, none⟩ = false := HX1.out.frozen 0
  go_wp2_with fail
  have B7 := HJ1.out.blk.set_ 6 (.int .i64 many)
  have B8 := B7.far (p := ⟨w.heap.size, 0, none⟩) (by dsimp only; omega) (.int .i64 0)
  have hx7 : TypeAt (w1.setCell ⟨j, 6, none⟩ (.int .i64 many)) w.heap.size 39 := (HX1.out.far (p := ⟨j, 6, none⟩) (by dsimp only; omega) _).typ
  have HJT : Hid (JTo w ((w1.setCell ⟨j, 6, none⟩ (.int .i64 many)).setCell ⟨w.heap.size, 0, none⟩ (.int .i64 0)) base d j (jCs d name log (marks + 12) log many many) s2.lasts s2.now s2.cs) := Lib.hid
    ⟨((HJ1.out.at_.same (SameD.set HJ1.out.blk.typ (by decide) _)).same (SameD.set hx7 (by decide) _)), by simpa [jCs] using B8,
     (((HB0.out.mono hbw).trans HJ1.out.bel).setCell hge _).setCell hbw _,
     (((Keeps.of_below HB0.out (Nat.le_refl _)).trans HJ1.out.keeps).step HJ1.out.blk.typ (by simp)).then_box _⟩
  have h3 : ((w1.setCell ⟨j, 6, none⟩ (.int .i64 many)).setCell ⟨w.heap.size, 0, none⟩ (.int .i64 0)).cell? ⟨w.heap.size, 0, none⟩ = some (.int .i64 0) := ((HX1.out.far (p := ⟨j, 6, none⟩) (by dsimp only; omega) _).set_ 0 (.int .i64 0)).cell 0
  refine leaves_cons (f := 37) (args := #[.pointer (some ⟨w.heap.size, 0, none⟩)]) (by simp) (by simp [go_sem]) ?_
  refine (jcaught_idle _ _).mono ?_
  rintro e u' w'' ⟨rfl, rfl, rfl⟩
  generalize ((w1.setCell ⟨j, 6, none⟩ (.int .i64 many)).setCell ⟨w.heap.size, 0, none⟩ (.int .i64 0)) = wE at *
  simp [Leaves, settle, results, Tryz.results30, go_sem, h3]
  exact HJT.out
end Go.Proofs.YtkdmfjpfanmgmaaGreatDoor
namespace Go.Proofs.YtkdmfjpfanmgmaaGreatDoor
open Go.RowKit Le Go.Maps
set_option maxRecDepth 100000
set_option linter.unusedSimpArgs false
set_option linter.unusedVariables false
/-- The blocks that Open makes. -/
structure OpnAt (w : World) (n : Nat) (sl : Value) (js : List Value) : Prop where
  p : Blk w n 51 [.pointer (some ⟨n + 1 + 1 + 1, 0, none⟩)]
  s : Blk w (n + 1) 83 [sl]
  e : Blk w (n + 1 + 1) 39 [.int .i64 0]
  j : Blk w (n + 1 + 1 + 1) 96 js
theorem OpnAt.lt {w : World} {n : Nat} {sl : Value} {js : List Value} (h : OpnAt w n sl js) : n + 1 + 1 + 1 < w.heap.size := h.j.lt
theorem OpnAt.below {w w' : World} {n : Nat} {sl : Value} {js : List Value} (h : OpnAt w n sl js) (hb : Below w.heap.size w w') : OpnAt w' n sl js :=
  ⟨h.p.below hb h.p.lt, h.s.below hb h.s.lt, h.e.below hb h.e.lt, h.j.below hb h.j.lt⟩
/-- A world in which those blocks were made, and nothing older has changed but what the disk is; a list of texts is kept besides. -/
structure OpnTo (w w' : World) (base b d : Nat) (sl lv : Value) (ks : List (List UInt8)) (js : List Value) (lasts now : FM) (cs : List Chg) : Prop where
  o : OpnAt w' w.heap.size sl js
  at_ : DiskAt w' base d lasts now cs
  le : b ≤ w.heap.size
  bel : Below b w w'
  keeps : Keeps [80, 106, 96] w w'
  l : w'.ownsRow w.heap.size 9 1 lv ks.length (ks.map fun s => .string (text s))
theorem OpnTo.below {w w1 : World} {base b d : Nat} {sl lv : Value} {ks : List (List UInt8)} {js : List Value} {lasts now : FM} {cs : List Chg} (h : OpnTo w w1 base b d sl lv ks js lasts now cs) {w2 : World} (hb : Below w1.heap.size w1 w2) : OpnTo w w2 base b d sl lv ks js lasts now cs :=
  ⟨h.o.below hb, h.at_.same (SameD.of_below hb), h.le, h.bel.trans (hb.mono (by have := h.o.lt; have := h.le; omega)), h.keeps.then_below hb, h.l.below_ hb⟩
theorem OpnTo.drew {w w1 : World} {base b d : Nat} {sl lv : Value} {ks : List (List UInt8)} {js : List Value} {lasts now : FM} {cs : List Chg} (h : OpnTo w w1 base b d sl lv ks js lasts now cs) : OpnTo w w1.drew base b d sl lv ks js lasts now cs := h.below (Below.refl _ _).drew
theorem OpnTo.list {w w1 : World} {base b d : Nat} {sl lv : Value} {ks : List (List UInt8)} {js : List Value} {lasts now : FM} {cs : List Chg} (h : OpnTo w w1 base b d sl lv ks js lasts now cs) {lv' : Value} {ks' : List (List UInt8)} (hl : w1.ownsRow w.heap.size 9 1 lv' ks'.length (ks'.map fun s => .string (text s))) : OpnTo w w1 base b d sl lv' ks' js lasts now cs := ⟨h.o, h.at_, h.le, h.bel, h.keeps, hl⟩
theorem OpnTo.setJ {w w1 : World} {base b d : Nat} {sl lv : Value} {ks : List (List UInt8)} {js : List Value} {lasts now : FM} {cs : List Chg} (h : OpnTo w w1 base b d sl lv ks js lasts now cs) (i : Nat) (v : Value) : OpnTo w (w1.setCell ⟨w.heap.size + 1 + 1 + 1, i, none⟩ v) base b d sl lv ks (js.set i v) lasts now cs :=
  ⟨⟨h.o.p.far (by dsimp only; omega) v, h.o.s.far (by dsimp only; omega) v, h.o.e.far (by dsimp only; omega) v, h.o.j.set_ i v⟩, h.at_.same (SameD.set h.o.j.typ (by decide) v), h.le, h.bel.setCell (by have := h.le; dsimp only; omega) v, h.keeps.step h.o.j.typ (by simp),
   h.l.keeps (ts := [96]) (Keeps.set_ h.o.j.typ (by simp) v) (by decide)⟩
theorem OpnTo.setS {w w1 : World} {base b d : Nat} {sl lv : Value} {ks : List (List UInt8)} {js : List Value} {lasts now : FM} {cs : List Chg} (h : OpnTo w w1 base b d sl lv ks js lasts now cs) (v : Value) : OpnTo w (w1.setCell ⟨w.heap.size + 1, 0, none⟩ v) base b d v lv ks js lasts now cs :=
  ⟨⟨h.o.p.far (by dsimp only; omega) v, h.o.s.set_ 0 v, h.o.e.far (by dsimp only; omega) v, h.o.j.far (by dsimp only; omega) v⟩, h.at_.same (SameD.set h.o.s.typ (by decide) v), h.le, h.bel.setCell (by have := h.le; dsimp only; omega) v, h.keeps.below_new ((Below.refl _ _).setCell (by dsimp only; omega) v),
   h.l.keeps (ts := [83]) (Keeps.set_ h.o.s.typ (by simp) v) (by decide)⟩
theorem OpnTo.setP {w w1 : World} {base b d : Nat} {sl lv : Value} {ks : List (List UInt8)} {js : List Value} {lasts now : FM} {cs : List Chg} (h : OpnTo w w1 base b d sl lv ks js lasts now cs) : OpnTo w (w1.setCell ⟨w.heap.size, 0, none⟩ (.pointer (some ⟨w.heap.size + 1 + 1 + 1, 0, none⟩))) base b d sl lv ks js lasts now cs :=
  ⟨⟨h.o.p.set_ 0 _, h.o.s.far (by dsimp only; omega) _, h.o.e.far (by dsimp only; omega) _, h.o.j.far (by dsimp only; omega) _⟩, h.at_.same (SameD.set h.o.p.typ (by decide) _), h.le, h.bel.setCell (by have := h.le; dsimp only; omega) _, h.keeps.below_new ((Below.refl _ _).setCell (by dsimp only; omega) _),
   h.l.keeps (ts := [51]) (Keeps.set_ h.o.p.typ (by simp) _) (by decide)⟩
theorem OpnTo.setE {w w1 : World} {base b d : Nat} {sl lv : Value} {ks : List (List UInt8)} {js : List Value} {lasts now : FM} {cs : List Chg} (h : OpnTo w w1 base b d sl lv ks js lasts now cs) : OpnTo w (w1.setCell ⟨w.heap.size + 1 + 1, 0, none⟩ (.int .i64 0)) base b d sl lv ks js lasts now cs :=
  ⟨⟨h.o.p.far (by dsimp only; omega) _, h.o.s.far (by dsimp only; omega) _, h.o.e.set_ 0 _, h.o.j.far (by dsimp only; omega) _⟩, h.at_.same (SameD.set h.o.e.typ (by decide) _), h.le, h.bel.setCell (by have := h.le; dsimp only; omega) _, h.keeps.below_new ((Below.refl _ _).setCell (by dsimp only; omega) _),
   h.l.keeps (ts := [39]) (Keeps.set_ h.o.e.typ (by simp) _) (by decide)⟩
theorem OpnTo.jto {w w1 : World} {base b d : Nat} {sl lv : Value} {ks : List (List UInt8)} {js : List Value} {lasts now : FM} {cs : List Chg} (h : OpnTo w w1 base b d sl lv ks js lasts now cs) {w2 : World} {js' : List Value} {lasts' now' : FM} {cs' : List Chg} (g : JTo w1 w2 base d (w.heap.size + 1 + 1 + 1) js' lasts' now' cs') (hb : base ≤ b) : OpnTo w w2 base base d sl lv ks js' lasts' now' cs' :=
  ⟨⟨h.o.p.keeps g.keeps (by decide), h.o.s.keeps g.keeps (by decide), h.o.e.keeps g.keeps (by decide), g.blk⟩, g.at_, Nat.le_trans hb h.le, (h.bel.mono hb).trans g.bel, h.keeps.trans g.keeps, h.l.keeps g.keeps (by decide)⟩
theorem opn_start {w : World} {base d : Nat} {lasts now : FM} {cs : List Chg} (h : DiskAt w base d lasts now cs) (nn : Nat) (name : List UInt8) :
    OpnTo w ((((((w.alloc (.cells #[.pointer none] 51)).alloc (.cells #[.slice none 0 0] 83)).alloc (.cells #[.int .i64 0] 39)).drewN nn).setCell ⟨w.heap.size, 0, none⟩ (.pointer (some ⟨w.heap.size + 1 + 1 + 1, 0, none⟩))).alloc (.cells #[.pointer (some ⟨d, 0, none⟩), .string (text name), .int .i64 0, .int .i64 0, .int .i64 0, .int .i64 0, .int .i64 0] 96))
      base w.heap.size d (.slice none 0 0) (.slice none 0 0) [] (jCs d name 0 0 0 0 0) lasts now cs := by
  have b1 : Below w.heap.size w (w.alloc (.cells #[.pointer none] 51)) := (Below.refl _ _).alloc (Nat.le_refl _) _
  have q1 := Blk.new w 51 [.pointer none]
  have q2 := Blk.new (w.alloc (.cells #[.pointer none] 51)) 83 [.slice none 0 0]
  have q3 := Blk.new ((w.alloc (.cells #[.pointer none] 51)).alloc (.cells #[.slice none 0 0] 83)) 39 [.int .i64 0]
  have q4 := Blk.new (((((w.alloc (.cells #[.pointer none] 51)).alloc (.cells #[.slice none 0 0] 83)).alloc (.cells #[.int .i64 0] 39)).drewN nn).setCell ⟨w.heap.size, 0, none⟩ (.pointer (some ⟨w.heap.size + 1 + 1 + 1, 0, none⟩))) 96 (jCs d name 0 0 0 0 0)
  have z4 : (((((w.alloc (.cells #[.pointer none] 51)).alloc (.cells #[.slice none 0 0] 83)).alloc (.cells #[.int .i64 0] 39)).drewN nn).setCell ⟨w.heap.size, 0, none⟩ (.pointer (some ⟨w.heap.size + 1 + 1 + 1, 0, none⟩))).heap.size = w.heap.size + 1 + 1 + 1 := by simp [World.drewN]
  rw [z4] at q4
  simp only [World.size_alloc] at q2 q3
  have r1 := (((((q1.alloc (.cells #[.slice none 0 0] 83)).alloc (.cells #[.int .i64 0] 39)).drewN nn).set_ 0 (.pointer (some ⟨w.heap.size + 1 + 1 + 1, 0, none⟩))).alloc (.cells #[.pointer (some ⟨d, 0, none⟩), .string (text name), .int .i64 0, .int .i64 0, .int .i64 0, .int .i64 0, .int .i64 0] 96))
  have r2 := ((((q2.alloc (.cells #[.int .i64 0] 39)).drewN nn).far (p := ⟨w.heap.size, 0, none⟩) (by dsimp only; omega) (.pointer (some ⟨w.heap.size + 1 + 1 + 1, 0, none⟩))).alloc (.cells #[.pointer (some ⟨d, 0, none⟩), .string (text name), .int .i64 0, .int .i64 0, .int .i64 0, .int .i64 0, .int .i64 0] 96))
  have r3 := (((q3.drewN nn).far (p := ⟨w.heap.size, 0, none⟩) (by dsimp only; omega) (.pointer (some ⟨w.heap.size + 1 + 1 + 1, 0, none⟩))).alloc (.cells #[.pointer (some ⟨d, 0, none⟩), .string (text name), .int .i64 0, .int .i64 0, .int .i64 0, .int .i64 0, .int .i64 0] 96))
  have hb : Below w.heap.size w ((((((w.alloc (.cells #[.pointer none] 51)).alloc (.cells #[.slice none 0 0] 83)).alloc (.cells #[.int .i64 0] 39)).drewN nn).setCell ⟨w.heap.size, 0, none⟩ (.pointer (some ⟨w.heap.size + 1 + 1 + 1, 0, none⟩))).alloc (.cells #[.pointer (some ⟨d, 0, none⟩), .string (text name), .int .i64 0, .int .i64 0, .int .i64 0, .int .i64 0, .int .i64 0] 96)) :=
    (((((b1.alloc (by simp) _).alloc (by simp; omega) _).drewN nn).setCell (by dsimp only; omega) _).alloc (by simp; omega) _)
  exact ⟨⟨r1, r2, r3, q4⟩, h.same (SameD.of_below hb), Nat.le_refl _, hb, Keeps.of_below hb (Nat.le_refl _), World.ownsRow_nil _ _ _ _⟩
set_option maxHeartbeats 800000 in
theorem jcut_idle (d : Value) (k : ByteArray) (A : Option Addr) (c n m : Nat) (w : World) (h : n ≤ m) :
    Calls Tryz.prog 65 #[d, .string k, .slice A n c, .int .i64 m] w fun e w' => e = .returned (.tuple #[]) ∧ w = w' := by
  have h1 : decide ((n : Int) > (m : Int)) = false := by simpa using h
  have h2 : decide (n > m) = false := by simpa using h
  have h3 : decide (m < n) = false := by simpa using h
  go_enter Tryz.func65, Tryz.ntmps65
  go_wp2
  go_end0
  exact ⟨rfl, rfl⟩
set_option maxHeartbeats 800000 in
theorem openD_ok (p q r : Addr) (u : FrameMode) (w : World) (hc : w.cell? p = some (.int .i64 0)) :
    CallsD Tryz.prog 61 #[.pointer (some p), .pointer (some q), .pointer (some r)] u w fun e u' w' => u' = u ∧ (e = .returned (.tuple #[]) ∧ w' = w) := by
  go_enter_d Tryz.func61, Tryz.ntmps61
  go_wp2
  go_end0
  exact ⟨rfl, rfl⟩
set_option maxHeartbeats 3200000 in
theorem jOpen_empty {w : World} {base d : Nat} {name : List UInt8} {ss : List (List UInt8)} {ns : List Nat} {s0 : DS} (h : DiskAt w base d s0.lasts s0.now s0.cs) (hbw : base ≤ w.heap.size) (hT : Tab w) (hTb : 3 < base)
    (hl : name.length ≤ 8) (hn : nameB name = true) (hs0 : Small s0)
    (hlog : (s0.now.get (name ++ endL)).getD [] = logB ss) (hmrk : (s0.now.get (name ++ endM)).getD [] = markB ns) (hss : ∀ s ∈ ss, s.length ≤ 65536) (hns : ∀ n ∈ ns, n ≤ 1000000000) (hlast : ns.getLastD 0 = (logB ss).length) (he : (logB ss).length + (markB ns).length = 0) :
    Calls Tryz.prog 31 #[.pointer (some ⟨d, 0, none⟩), .string (text name)] w fun e w' => ∃ A c, e = .returned (.tuple #[(.pointer (some ⟨w.heap.size + 1 + 1 + 1, 0, none⟩)), .slice A ss.length c, .int .i64 0]) ∧ OpnTo w w' base w.heap.size d (.slice A ss.length c) (.slice A ss.length c) ss (jCs d name (logB ss).length (markB ns).length (logB ss).length ss.length ss.length) s0.lasts s0.now s0.cs := by
  have H := Lib.hid h
  have HT := Lib.hid hT
  have HL := Lib.hid hlog
  have HM := Lib.hid hmrk
  have HLA := Lib.hid hlast
  have HSS := Lib.hid hss
  have HNS := Lib.hid hns
  have hsn : (text name).size = name.length := by simp [text, ByteArray.size]
  have e2 : text name ++ ⟨#[95, 108]⟩ = text (name ++ endL) := text_app name endL
  have e1 : text name ++ ⟨#[95, 109]⟩ = text (name ++ endM) := text_app name endM
  have h8 : decide ((name.length : Int) > 8) = false := by simp; omega
  have hll : (logB ss).length ≤ 500000 := by rw [← hlog]; exact Nat.le_trans (FM.get_le_sum _) hs0.now
  have hml : (markB ns).length ≤ 500000 := by rw [← hmrk]; exact Nat.le_trans (FM.get_le_sum _) hs0.now
  have hsl : ss.length ≤ 500000 := Nat.le_trans (logB_ge ss) hll
  have hgl : ∀ k l, s0.now.get k = some l → l.length ≤ 1099511627776 := fun k l hk => by
    have := FM.get_le_sum (F := s0.now) k
    rw [hk] at this
    have := hs0.now
    simp at *
    omega
  have HGL := Lib.hid hgl
  have HE := Lib.hid he
  clear h hT hlog hmrk hlast hgl hss hns he
  go_enter_defers Tryz.func31, Tryz.ntmps31
  go_wp2_with fail
  refine (Name_any name _ (by omega)).mono ?_
  rintro e w1 ⟨rfl, nn, rfl⟩
  rw [hn]
  go_wp2_with fail
  refine (Down_any (H.out.same (SameD.of_below (((((Below.refl w.heap.size w).alloc (Nat.le_refl _) _).alloc (by simp) _).alloc (by simp; omega) _).drewN nn)))).mono ?_
  rintro e w1 ⟨rfl, rfl⟩
  go_wp2_with fail
  refine at_world _ fun W hW => ?_
  have HO : Hid (OpnTo w W base w.heap.size d (.slice none 0 0) (.slice none 0 0) [] (jCs d name 0 0 0 0 0) s0.lasts s0.now s0.cs) := Lib.hid (by
    subst hW
    exact opn_start H.out nn name)
  clear hW
  have hr1 := jread_any HO.out.at_ (name ++ endL) (by unfold maxLen; simp [endL]; omega) (HGL.out _)
  rw [HL.out] at hr1
  refine hr1.mono ?_
  clear hr1
  rintro e w1 ⟨A1, c1, rfl, hc1, hm1, hB1, hb1⟩
  have HO1 := Lib.hid (HO.out.below hb1)
  have HB1 := Lib.hid hB1
  have hz1 : w.heap.size ≤ W.heap.size := HO.out.bel.size
  clear hB1 hb1
  go_wp2_with fail
  have hr2 := jread_any HO1.out.at_ (name ++ endM) (by unfold maxLen; simp [endM]; omega) (HGL.out _)
  rw [HM.out] at hr2
  refine hr2.mono ?_
  clear hr2
  rintro e w2 ⟨A2, c2, rfl, hc2, hm2, hB2, hb2⟩
  have HO2 := Lib.hid (HO1.out.below hb2)
  have HB1' := Lib.hid (HB1.out.same (SameD.of_below hb2).c)
  have HB2 := Lib.hid hB2
  clear hB2 hb2 HB1 HO HO1
  go_wp2_with fail
  refine wp_region_noPanic ?_
  refine wp_region_held_drew (S := fun w' => w'.cell? ⟨w.heap.size, 0, none⟩ = some (.pointer (some ⟨w.heap.size + 1 + 1 + 1, 0, none⟩))) (by kernel_rfl) (HO2.out.o.p.cell 0) (fun HD => ?_)
  refine wpAnyH_take (i := 0) (oi := ⟨some 38, _, _, _, _, _⟩) (v := (.pointer (some ⟨w.heap.size + 1 + 1 + 1, 0, none⟩))) rfl (by kernel_rfl) (by kernel_rfl) (by kernel_rfl) (fun _ _ _ h => h) (Or.inl ⟨by rfl, ?_⟩) HD ?_
  · intro w' hw'
    (go_simp; try with_reducible rfl)
  (try simp only [Act.put, List.setIfInBounds_toArray, List.set_cons_zero, List.set_cons_succ])
  refine wpAnyH_take (i := 1) (oi := ⟨some 39, _, _, _, _, _⟩) (v := (.slice A1 (logB ss).length c1)) rfl (by kernel_rfl) (by kernel_rfl) (by kernel_rfl) (fun _ _ _ h => h) (Or.inl ⟨by rfl, ?_⟩) HD ?_
  · intro w' hw'
    (go_simp; try with_reducible rfl)
  (try simp only [Act.put, List.setIfInBounds_toArray, List.set_cons_zero, List.set_cons_succ])
  refine wpAnyH_ready (rs := [2]) (by kernel_rfl) (by simp) ?_
  refine AllReadyH.cons (o := ⟨some 40, _, _, _, _, _⟩) rfl (fun K hK => ?_) AllReadyH.nil
  go_simp
  go_at_call 63
  have HO3 := Lib.hid HO2.out.drew
  have hT3 : Tab w2.drew := HT.out.below HO3.out.bel (by omega)
  refine (jrecords_any A1 c1 ss w2.drew hT3 (HB1'.out.same (SameD.of_below (Below.refl _ _).drew).c).1 hc1 (by omega) HSS.out).mono ?_
  rintro e w3 ⟨A3, c3, rfl, ho3, hb3⟩
  have HO4 := Lib.hid ((HO3.out.below hb3).list (jown_base ho3 HO2.out.bel.size))
  have HB2' := Lib.hid ((HB2.out.same (SameD.of_below (Below.refl _ _).drew).c).same (SameD.of_below hb3).c)
  clear ho3 hb3 hT3 HO3 HB1' HB2
  refine hK.out _ _ (HO4.out.o.p.cell 0) (fun HD => ?_)
  clear hK K
  (try simp only [Act.put, List.setIfInBounds_toArray, List.set_cons_zero, List.set_cons_succ])
  refine wpAnyH_take (i := 3) (oi := ⟨some 37, _, _, _, _, _⟩) (v := (.tuple #[.slice A3 ss.length c3, .int .i64 (logB ss).length])) rfl (by kernel_rfl) (by kernel_rfl) (by kernel_rfl) (fun _ _ _ h => h) (Or.inl ⟨by rfl, ?_⟩) HD ?_
  · intro w' hw'
    (go_simp; try with_reducible rfl)
  (try simp only [Act.put, List.setIfInBounds_toArray, List.set_cons_zero, List.set_cons_succ])
  refine wpAnyH_take (i := 4) (oi := ⟨some 41, _, _, _, _, _⟩) (v := (.slice A3 ss.length c3)) rfl (by kernel_rfl) (by kernel_rfl) (by kernel_rfl) (fun _ _ _ h => h) (Or.inl ⟨by rfl, ?_⟩) HD ?_
  · intro w' hw'
    (go_simp; try with_reducible rfl)
  (try simp only [Act.put, List.setIfInBounds_toArray, List.set_cons_zero, List.set_cons_succ])
  refine wpAnyH_take (i := 5) (oi := ⟨some 42, _, _, _, _, _⟩) (v := (.int .i64 (logB ss).length)) rfl (by kernel_rfl) (by kernel_rfl) (by kernel_rfl) (fun _ _ _ h => h) (Or.inl ⟨by rfl, ?_⟩) HD ?_
  · intro w' hw'
    (go_simp; try with_reducible rfl)
  (try simp only [Act.put, List.setIfInBounds_toArray, List.set_cons_zero, List.set_cons_succ])
  have k1 : w3.cell? ⟨w.heap.size + 1, 0, none⟩ = some (.slice none 0 0) := HO4.out.o.s.cell 0
  have z1 : w3.frozen? ⟨w.heap.size + 1, 0, none⟩ = false := HO4.out.o.s.frozen 0
  refine wpAnyH_ready (rs := [6]) (by kernel_rfl) (by simp) ?_
  refine AllReadyH.cons (o := ⟨none, _, _, _, _, _⟩) rfl (fun K hK => ?_) AllReadyH.nil
  go_simp
  have HO5 := Lib.hid (HO4.out.setS (.slice A3 ss.length c3))
  have HB2'' := Lib.hid (HB2'.out.same (SameD.set (p := ⟨w.heap.size + 1, 0, none⟩) HO4.out.o.s.typ (by decide) (.slice A3 ss.length c3)).c)
  clear k1 z1 HO4 HB2' HD
  generalize w3.setCell ⟨w.heap.size + 1, 0, none⟩ (.slice A3 ss.length c3) = w4 at *
  refine hK.out _ _ (HO5.out.o.p.cell 0) (fun HD => ?_)
  clear hK K
  (try simp only [Act.put, List.setIfInBounds_toArray, List.set_cons_zero, List.set_cons_succ])
  refine wpAnyH_take (i := 7) (oi := ⟨some 43, _, _, _, _, _⟩) (v := (.pointer (some ⟨w.heap.size + 1 + 1 + 1, 0, none⟩))) rfl (by kernel_rfl) (by kernel_rfl) (by kernel_rfl) (fun _ _ _ h => h) (Or.inl ⟨by rfl, ?_⟩) HD ?_
  · intro w' hw'
    (go_simp; try with_reducible rfl)
  (try simp only [Act.put, List.setIfInBounds_toArray, List.set_cons_zero, List.set_cons_succ])
  refine wpAnyH_take (i := 8) (oi := ⟨some 44, _, _, _, _, _⟩) (v := (.pointer (some ⟨w.heap.size + 1 + 1 + 1, 2, none⟩))) rfl (by kernel_rfl) (by kernel_rfl) (by kernel_rfl) (fun _ _ _ h => h) (Or.inl ⟨by rfl, ?_⟩) HD ?_
  · intro w' hw'
    (go_simp; try with_reducible rfl)
  (try simp only [Act.put, List.setIfInBounds_toArray, List.set_cons_zero, List.set_cons_succ])
  have k1 : w4.cell? ⟨w.heap.size + 1 + 1 + 1, 2, none⟩ = some (.int .i64 0) := HO5.out.o.j.cell 2
  have z1 : w4.frozen? ⟨w.heap.size + 1 + 1 + 1, 2, none⟩ = false := HO5.out.o.j.frozen 2
  refine wpAnyH_ready (rs := [9]) (by kernel_rfl) (by simp) ?_
  refine AllReadyH.cons (o := ⟨none, _, _, _, _, _⟩) rfl (fun K hK => ?_) AllReadyH.nil
  go_simp
  have HO6 := Lib.hid (HO5.out.setJ 2 (.int .i64 (logB ss).length))
  have HB3 := Lib.hid (HB2''.out.same (SameD.set (p := ⟨w.heap.size + 1 + 1 + 1, 2, none⟩) HO5.out.o.j.typ (by decide) (.int .i64 (logB ss).length)).c)
  clear k1 z1 HO5 HB2'' HD
  generalize w4.setCell ⟨w.heap.size + 1 + 1 + 1, 2, none⟩ (.int .i64 (logB ss).length) = w5 at *
  refine hK.out _ _ (HO6.out.o.p.cell 0) (fun HD => ?_)
  clear hK K
  (try simp only [Act.put, List.setIfInBounds_toArray, List.set_cons_zero, List.set_cons_succ])
  refine wpAnyH_done (by kernel_rfl) (NoPanic.normal ?_) _
  clear HD
  go_wp2_with fail
  refine wp_region_noPanic ?_
  refine wp_region_held_drew (S := fun w' => w'.cell? ⟨w.heap.size, 0, none⟩ = some (.pointer (some ⟨w.heap.size + 1 + 1 + 1, 0, none⟩))) (by kernel_rfl) (HO6.out.o.p.cell 0) (fun HD => ?_)
  refine wpAnyH_take (i := 0) (oi := ⟨some 46, _, _, _, _, _⟩) (v := (.pointer (some ⟨w.heap.size + 1 + 1 + 1, 0, none⟩))) rfl (by kernel_rfl) (by kernel_rfl) (by kernel_rfl) (fun _ _ _ h => h) (Or.inl ⟨by rfl, ?_⟩) HD ?_
  · intro w' hw'
    (go_simp; try with_reducible rfl)
  (try simp only [Act.put, List.setIfInBounds_toArray, List.set_cons_zero, List.set_cons_succ])
  refine wpAnyH_take (i := 1) (oi := ⟨some 47, _, _, _, _, _⟩) (v := (.pointer (some ⟨w.heap.size + 1 + 1 + 1, 0, none⟩))) rfl (by kernel_rfl) (by kernel_rfl) (by kernel_rfl) (fun _ _ _ h => h) (Or.inl ⟨by rfl, ?_⟩) HD ?_
  · intro w' hw'
    (go_simp; try with_reducible rfl)
  (try simp only [Act.put, List.setIfInBounds_toArray, List.set_cons_zero, List.set_cons_succ])
  refine wpAnyH_take (i := 2) (oi := ⟨some 48, _, _, _, _, _⟩) (v := (.slice A2 (markB ns).length c2)) rfl (by kernel_rfl) (by kernel_rfl) (by kernel_rfl) (fun _ _ _ h => h) (Or.inl ⟨by rfl, ?_⟩) HD ?_
  · intro w' hw'
    (go_simp; try with_reducible rfl)
  (try simp only [Act.put, List.setIfInBounds_toArray, List.set_cons_zero, List.set_cons_succ])
  refine wpAnyH_ready (rs := [3]) (by kernel_rfl) (by simp) ?_
  refine AllReadyH.cons (o := ⟨some 49, _, _, _, _, _⟩) rfl (fun K hK => ?_) AllReadyH.nil
  go_simp
  go_at_call 64
  have HO7 := Lib.hid HO6.out.drew
  have hT3 : Tab w5.drew := HT.out.below HO7.out.bel (by omega)
  have hmk := jmarked_any A2 c2 ns w5.drew hT3 (HB3.out.same (SameD.of_below (Below.refl _ _).drew).c).1 hc2 (by omega) HNS.out
  rw [HLA.out] at hmk
  refine hmk.mono ?_
  rintro e w6 ⟨rfl, hb6⟩
  have HO8 := Lib.hid (HO7.out.below hb6)
  clear hmk hb6 hT3 HO6 HO7 HB3
  refine hK.out _ _ (HO8.out.o.p.cell 0) (fun HD => ?_)
  clear hK K
  (try simp only [Act.put, List.setIfInBounds_toArray, List.set_cons_zero, List.set_cons_succ])
  refine wpAnyH_take (i := 4) (oi := ⟨some 45, _, _, _, _, _⟩) (v := (.tuple #[.int .i64 (logB ss).length, .int .i64 (markB ns).length])) rfl (by kernel_rfl) (by kernel_rfl) (by kernel_rfl) (fun _ _ _ h => h) (Or.inl ⟨by rfl, ?_⟩) HD ?_
  · intro w' hw'
    (go_simp; try with_reducible rfl)
  (try simp only [Act.put, List.setIfInBounds_toArray, List.set_cons_zero, List.set_cons_succ])
  refine wpAnyH_take (i := 5) (oi := ⟨some 50, _, _, _, _, _⟩) (v := (.int .i64 (logB ss).length)) rfl (by kernel_rfl) (by kernel_rfl) (by kernel_rfl) (fun _ _ _ h => h) (Or.inl ⟨by rfl, ?_⟩) HD ?_
  · intro w' hw'
    (go_simp; try with_reducible rfl)
  (try simp only [Act.put, List.setIfInBounds_toArray, List.set_cons_zero, List.set_cons_succ])
  refine wpAnyH_take (i := 6) (oi := ⟨some 51, _, _, _, _, _⟩) (v := (.int .i64 (markB ns).length)) rfl (by kernel_rfl) (by kernel_rfl) (by kernel_rfl) (fun _ _ _ h => h) (Or.inl ⟨by rfl, ?_⟩) HD ?_
  · intro w' hw'
    (go_simp; try with_reducible rfl)
  (try simp only [Act.put, List.setIfInBounds_toArray, List.set_cons_zero, List.set_cons_succ])
  refine wpAnyH_take (i := 7) (oi := ⟨some 52, _, _, _, _, _⟩) (v := (.pointer (some ⟨w.heap.size + 1 + 1 + 1, 0, none⟩))) rfl (by kernel_rfl) (by kernel_rfl) (by kernel_rfl) (fun _ _ _ h => h) (Or.inl ⟨by rfl, ?_⟩) HD ?_
  · intro w' hw'
    (go_simp; try with_reducible rfl)
  (try simp only [Act.put, List.setIfInBounds_toArray, List.set_cons_zero, List.set_cons_succ])
  refine wpAnyH_take (i := 8) (oi := ⟨some 53, _, _, _, _, _⟩) (v := (.pointer (some ⟨w.heap.size + 1 + 1 + 1, 4, none⟩))) rfl (by kernel_rfl) (by kernel_rfl) (by kernel_rfl) (fun _ _ _ h => h) (Or.inl ⟨by rfl, ?_⟩) HD ?_
  · intro w' hw'
    (go_simp; try with_reducible rfl)
  (try simp only [Act.put, List.setIfInBounds_toArray, List.set_cons_zero, List.set_cons_succ])
  have k1 : w6.cell? ⟨w.heap.size + 1 + 1 + 1, 4, none⟩ = some (.int .i64 0) := HO8.out.o.j.cell 4
  have z1 : w6.frozen? ⟨w.heap.size + 1 + 1 + 1, 4, none⟩ = false := HO8.out.o.j.frozen 4
  refine wpAnyH_ready (rs := [9]) (by kernel_rfl) (by simp) ?_
  refine AllReadyH.cons (o := ⟨none, _, _, _, _, _⟩) rfl (fun K hK => ?_) AllReadyH.nil
  go_simp
  have HO9 := Lib.hid (HO8.out.setJ 4 (.int .i64 (logB ss).length))
  clear k1 z1 HO8 HD
  generalize w6.setCell ⟨w.heap.size + 1 + 1 + 1, 4, none⟩ (.int .i64 (logB ss).length) = w7 at *
  refine hK.out _ _ (HO9.out.o.p.cell 0) (fun HD => ?_)
  clear hK K
  (try simp only [Act.put, List.setIfInBounds_toArray, List.set_cons_zero, List.set_cons_succ])
  refine wpAnyH_take (i := 10) (oi := ⟨some 54, _, _, _, _, _⟩) (v := (.pointer (some ⟨w.heap.size + 1 + 1 + 1, 0, none⟩))) rfl (by kernel_rfl) (by kernel_rfl) (by kernel_rfl) (fun _ _ _ h => h) (Or.inl ⟨by rfl, ?_⟩) HD ?_
  · intro w' hw'
    (go_simp; try with_reducible rfl)
  (try simp only [Act.put, List.setIfInBounds_toArray, List.set_cons_zero, List.set_cons_succ])
  refine wpAnyH_take (i := 11) (oi := ⟨some 55, _, _, _, _, _⟩) (v := (.pointer (some ⟨w.heap.size + 1 + 1 + 1, 3, none⟩))) rfl (by kernel_rfl) (by kernel_rfl) (by kernel_rfl) (fun _ _ _ h => h) (Or.inl ⟨by rfl, ?_⟩) HD ?_
  · intro w' hw'
    (go_simp; try with_reducible rfl)
  (try simp only [Act.put, List.setIfInBounds_toArray, List.set_cons_zero, List.set_cons_succ])
  have k1 : w7.cell? ⟨w.heap.size + 1 + 1 + 1, 3, none⟩ = some (.int .i64 0) := HO9.out.o.j.cell 3
  have z1 : w7.frozen? ⟨w.heap.size + 1 + 1 + 1, 3, none⟩ = false := HO9.out.o.j.frozen 3
  refine wpAnyH_ready (rs := [12]) (by kernel_rfl) (by simp) ?_
  refine AllReadyH.cons (o := ⟨none, _, _, _, _, _⟩) rfl (fun K hK => ?_) AllReadyH.nil
  go_simp
  have HO10 := Lib.hid (HO9.out.setJ 3 (.int .i64 (markB ns).length))
  clear k1 z1 HO9 HD
  generalize w7.setCell ⟨w.heap.size + 1 + 1 + 1, 3, none⟩ (.int .i64 (markB ns).length) = w8 at *
  refine hK.out _ _ (HO10.out.o.p.cell 0) (fun HD => ?_)
  clear hK K
  (try simp only [Act.put, List.setIfInBounds_toArray, List.set_cons_zero, List.set_cons_succ])
  refine wpAnyH_done (by kernel_rfl) (NoPanic.normal ?_) _
  clear HD
  go_wp2_with fail
  refine wp_region_noPanic ?_
  refine wp_region_held_drew (S := fun w' => w'.cell? ⟨w.heap.size, 0, none⟩ = some (.pointer (some ⟨w.heap.size + 1 + 1 + 1, 0, none⟩)) ∧ w'.cell? ⟨w.heap.size + 1 + 1 + 1, 2, none⟩ = some (.int .i64 (logB ss).length) ∧ w'.cell? ⟨w.heap.size + 1 + 1 + 1, 4, none⟩ = some (.int .i64 (logB ss).length)) (by kernel_rfl) ⟨HO10.out.o.p.cell 0, HO10.out.o.j.cell 2, HO10.out.o.j.cell 4⟩ (fun HD => ?_)
  refine wpAnyH_take (i := 0) (oi := ⟨some 56, _, _, _, _, _⟩) (v := (.pointer (some ⟨w.heap.size + 1 + 1 + 1, 0, none⟩))) rfl (by kernel_rfl) (by kernel_rfl) (by kernel_rfl) (fun _ _ _ h => h) (Or.inl ⟨by rfl, ?_⟩) HD ?_
  · intro w' hw'
    (go_simp; try with_reducible rfl)
  (try simp only [Act.put, List.setIfInBounds_toArray, List.set_cons_zero, List.set_cons_succ])
  refine wpAnyH_take (i := 1) (oi := ⟨some 57, _, _, _, _, _⟩) (v := (.pointer (some ⟨w.heap.size + 1 + 1 + 1, 0, none⟩))) rfl (by kernel_rfl) (by kernel_rfl) (by kernel_rfl) (fun _ _ _ h => h) (Or.inl ⟨by rfl, ?_⟩) HD ?_
  · intro w' hw'
    (go_simp; try with_reducible rfl)
  (try simp only [Act.put, List.setIfInBounds_toArray, List.set_cons_zero, List.set_cons_succ])
  refine wpAnyH_take (i := 2) (oi := ⟨some 58, _, _, _, _, _⟩) (v := (.pointer (some ⟨w.heap.size + 1 + 1 + 1, 2, none⟩))) rfl (by kernel_rfl) (by kernel_rfl) (by kernel_rfl) (fun _ _ _ h => h) (Or.inl ⟨by rfl, ?_⟩) HD ?_
  · intro w' hw'
    (go_simp; try with_reducible rfl)
  (try simp only [Act.put, List.setIfInBounds_toArray, List.set_cons_zero, List.set_cons_succ])
  refine wpAnyH_take (i := 3) (oi := ⟨some 59, _, _, _, _, _⟩) (v := (.int .i64 (logB ss).length)) rfl (by kernel_rfl) (by kernel_rfl) (by kernel_rfl) (fun _ _ _ h => h) (Or.inl ⟨by rfl, ?_⟩) HD ?_
  · intro w' hw'
    (go_simp; try with_reducible rfl)
  (try simp only [Act.put, List.setIfInBounds_toArray, List.set_cons_zero, List.set_cons_succ])
  refine wpAnyH_take (i := 4) (oi := ⟨some 60, _, _, _, _, _⟩) (v := (.pointer (some ⟨w.heap.size + 1 + 1 + 1, 0, none⟩))) rfl (by kernel_rfl) (by kernel_rfl) (by kernel_rfl) (fun _ _ _ h => h) (Or.inl ⟨by rfl, ?_⟩) HD ?_
  · intro w' hw'
    (go_simp; try with_reducible rfl)
  (try simp only [Act.put, List.setIfInBounds_toArray, List.set_cons_zero, List.set_cons_succ])
  refine wpAnyH_take (i := 5) (oi := ⟨some 61, _, _, _, _, _⟩) (v := (.pointer (some ⟨w.heap.size + 1 + 1 + 1, 0, none⟩))) rfl (by kernel_rfl) (by kernel_rfl) (by kernel_rfl) (fun _ _ _ h => h) (Or.inl ⟨by rfl, ?_⟩) HD ?_
  · intro w' hw'
    (go_simp; try with_reducible rfl)
  (try simp only [Act.put, List.setIfInBounds_toArray, List.set_cons_zero, List.set_cons_succ])
  refine wpAnyH_take (i := 6) (oi := ⟨some 62, _, _, _, _, _⟩) (v := (.pointer (some ⟨w.heap.size + 1 + 1 + 1, 4, none⟩))) rfl (by kernel_rfl) (by kernel_rfl) (by kernel_rfl) (fun _ _ _ h => h) (Or.inl ⟨by rfl, ?_⟩) HD ?_
  · intro w' hw'
    (go_simp; try with_reducible rfl)
  (try simp only [Act.put, List.setIfInBounds_toArray, List.set_cons_zero, List.set_cons_succ])
  refine wpAnyH_take (i := 7) (oi := ⟨some 63, _, _, _, _, _⟩) (v := (.int .i64 (logB ss).length)) rfl (by kernel_rfl) (by kernel_rfl) (by kernel_rfl) (fun _ _ _ h => h) (Or.inl ⟨by rfl, ?_⟩) HD ?_
  · intro w' hw'
    (go_simp; try with_reducible rfl)
  (try simp only [Act.put, List.setIfInBounds_toArray, List.set_cons_zero, List.set_cons_succ])
  refine wpAnyH_take (i := 8) (oi := ⟨some 64, _, _, _, _, _⟩) (v := (.bool false)) rfl (by kernel_rfl) (by kernel_rfl) (by kernel_rfl) (fun _ _ _ h => h) (Or.inl ⟨by rfl, ?_⟩) HD ?_
  · intro w' hw'
    (go_simp; try with_reducible rfl)
  (try simp only [Act.put, List.setIfInBounds_toArray, List.set_cons_zero, List.set_cons_succ])
  refine wpAnyH_done (by kernel_rfl) (NoPanic.normal ?_) _
  clear HD
  have HO11 := Lib.hid HO10.out.drew
  clear HO10
  generalize w8.drew = w9 at *
  have cp : w9.cell? ⟨w.heap.size, 0, none⟩ = some (.pointer (some ⟨w.heap.size + 1 + 1 + 1, 0, none⟩)) := HO11.out.o.p.cell 0
  have cl : w9.cell? ⟨w.heap.size + 1, 0, none⟩ = some (.slice A3 ss.length c3) := HO11.out.o.s.cell 0
  have k1 : w9.cell? ⟨w.heap.size + 1 + 1 + 1, 5, none⟩ = some (.int .i64 0) := HO11.out.o.j.cell 5
  have z1 : w9.frozen? ⟨w.heap.size + 1 + 1 + 1, 5, none⟩ = false := HO11.out.o.j.frozen 5
  have cj2 : w9.cell? ⟨w.heap.size + 1 + 1 + 1, 2, none⟩ = some (.int .i64 (logB ss).length) := HO11.out.o.j.cell 2
  have cj3 : w9.cell? ⟨w.heap.size + 1 + 1 + 1, 3, none⟩ = some (.int .i64 (markB ns).length) := HO11.out.o.j.cell 3
  go_wp2_with fail
  refine (jcut_idle _ _ _ _ _ _ _ (Nat.le_refl _)).mono ?_
  rintro e w10 ⟨rfl, rfl⟩
  go_wp2_with fail
  refine (jcut_idle _ _ _ _ _ _ _ (Nat.le_refl _)).mono ?_
  rintro e w10 ⟨rfl, rfl⟩
  have HO12 := Lib.hid (HO11.out.setJ 5 (.int .i64 ss.length))
  clear cp cl k1 z1 cj2 cj3 HO11
  generalize w9.setCell ⟨w.heap.size + 1 + 1 + 1, 5, none⟩ (.int .i64 ss.length) = w10 at *
  have hz : decide ((0 : Int) < ((logB ss).length : Int) + ((markB ns).length : Int)) = false := by have := HE.out; rw [decide_eq_false_iff_not]; omega
  have hz2 : decide (0 < (logB ss).length + (markB ns).length) = false := by have := HE.out; rw [decide_eq_false_iff_not]; omega
  go_wp2_with fail
  clear hz hz2
  refine wp_region_noPanic ?_
  refine wp_region_held_drew (S := fun w' => w'.cell? ⟨w.heap.size, 0, none⟩ = some (.pointer (some ⟨w.heap.size + 1 + 1 + 1, 0, none⟩)) ∧ w'.cell? ⟨w.heap.size + 1 + 1 + 1, 5, none⟩ = some (.int .i64 ss.length)) (by kernel_rfl) ⟨HO12.out.o.p.cell 0, HO12.out.o.j.cell 5⟩ (fun HD => ?_)
  refine wpAnyH_take (i := 0) (oi := ⟨some 103, _, _, _, _, _⟩) (v := (.pointer (some ⟨w.heap.size + 1 + 1 + 1, 0, none⟩))) rfl (by kernel_rfl) (by kernel_rfl) (by kernel_rfl) (fun _ _ _ h => h) (Or.inl ⟨by rfl, ?_⟩) HD ?_
  · intro w' hw'
    (go_simp; try with_reducible rfl)
  (try simp only [Act.put, List.setIfInBounds_toArray, List.set_cons_zero, List.set_cons_succ])
  refine wpAnyH_take (i := 1) (oi := ⟨some 104, _, _, _, _, _⟩) (v := (.pointer (some ⟨w.heap.size + 1 + 1 + 1, 0, none⟩))) rfl (by kernel_rfl) (by kernel_rfl) (by kernel_rfl) (fun _ _ _ h => h) (Or.inl ⟨by rfl, ?_⟩) HD ?_
  · intro w' hw'
    (go_simp; try with_reducible rfl)
  (try simp only [Act.put, List.setIfInBounds_toArray, List.set_cons_zero, List.set_cons_succ])
  refine wpAnyH_take (i := 2) (oi := ⟨some 105, _, _, _, _, _⟩) (v := (.pointer (some ⟨w.heap.size + 1 + 1 + 1, 0, none⟩))) rfl (by kernel_rfl) (by kernel_rfl) (by kernel_rfl) (fun _ _ _ h => h) (Or.inl ⟨by rfl, ?_⟩) HD ?_
  · intro w' hw'
    (go_simp; try with_reducible rfl)
  (try simp only [Act.put, List.setIfInBounds_toArray, List.set_cons_zero, List.set_cons_succ])
  refine wpAnyH_take (i := 3) (oi := ⟨some 106, _, _, _, _, _⟩) (v := (.pointer (some ⟨w.heap.size + 1 + 1 + 1, 5, none⟩))) rfl (by kernel_rfl) (by kernel_rfl) (by kernel_rfl) (fun _ _ _ h => h) (Or.inl ⟨by rfl, ?_⟩) HD ?_
  · intro w' hw'
    (go_simp; try with_reducible rfl)
  (try simp only [Act.put, List.setIfInBounds_toArray, List.set_cons_zero, List.set_cons_succ])
  refine wpAnyH_take (i := 4) (oi := ⟨some 107, _, _, _, _, _⟩) (v := (.int .i64 ss.length)) rfl (by kernel_rfl) (by kernel_rfl) (by kernel_rfl) (fun _ _ _ h => h) (Or.inl ⟨by rfl, ?_⟩) HD ?_
  · intro w' hw'
    (go_simp; try with_reducible rfl)
  (try simp only [Act.put, List.setIfInBounds_toArray, List.set_cons_zero, List.set_cons_succ])
  refine wpAnyH_take (i := 5) (oi := ⟨some 108, _, _, _, _, _⟩) (v := (.pointer (some ⟨w.heap.size + 1 + 1 + 1, 0, none⟩))) rfl (by kernel_rfl) (by kernel_rfl) (by kernel_rfl) (fun _ _ _ h => h) (Or.inl ⟨by rfl, ?_⟩) HD ?_
  · intro w' hw'
    (go_simp; try with_reducible rfl)
  (try simp only [Act.put, List.setIfInBounds_toArray, List.set_cons_zero, List.set_cons_succ])
  refine wpAnyH_take (i := 6) (oi := ⟨some 109, _, _, _, _, _⟩) (v := (.pointer (some ⟨w.heap.size + 1 + 1 + 1, 6, none⟩))) rfl (by kernel_rfl) (by kernel_rfl) (by kernel_rfl) (fun _ _ _ h => h) (Or.inl ⟨by rfl, ?_⟩) HD ?_
  · intro w' hw'
    (go_simp; try with_reducible rfl)
  (try simp only [Act.put, List.setIfInBounds_toArray, List.set_cons_zero, List.set_cons_succ])
  have HO13 := Lib.hid HO12.out.drew
  have k1 : w10.drew.cell? ⟨w.heap.size + 1 + 1 + 1, 6, none⟩ = some (.int .i64 0) := HO13.out.o.j.cell 6
  have z1 : w10.drew.frozen? ⟨w.heap.size + 1 + 1 + 1, 6, none⟩ = false := HO13.out.o.j.frozen 6
  refine wpAnyH_ready (rs := [7]) (by kernel_rfl) (by simp) ?_
  refine AllReadyH.cons (o := ⟨none, _, _, _, _, _⟩) rfl (fun K hK => ?_) AllReadyH.nil
  go_simp
  have HO14 := Lib.hid (HO13.out.setJ 6 (.int .i64 ss.length))
  have e14 : w10.drew.setCell ⟨w.heap.size + 1 + 1 + 1, 6, none⟩ (.int .i64 ss.length) = (w10.setCell ⟨w.heap.size + 1 + 1 + 1, 6, none⟩ (.int .i64 ss.length)).drew := rfl
  rw [e14] at HO14
  clear k1 z1 HO12 HO13 HD e14
  generalize (w10.setCell ⟨w.heap.size + 1 + 1 + 1, 6, none⟩ (.int .i64 ss.length)).drew = w11 at *
  refine hK.out _ _ ⟨HO14.out.o.p.cell 0, HO14.out.o.j.cell 5⟩ (fun HD => ?_)
  clear hK K
  (try simp only [Act.put, List.setIfInBounds_toArray, List.set_cons_zero, List.set_cons_succ])
  refine wpAnyH_done (by kernel_rfl) (NoPanic.normal ?_) _
  clear HD
  go_wp2_with fail
  refine wp_region_noPanic ?_
  refine wp_region_held_drew (S := fun w' => w'.cell? ⟨w.heap.size, 0, none⟩ = some (.pointer (some ⟨w.heap.size + 1 + 1 + 1, 0, none⟩)) ∧ w'.cell? ⟨w.heap.size + 1, 0, none⟩ = some (.slice A3 ss.length c3)) (by kernel_rfl) ⟨HO14.out.o.p.cell 0, HO14.out.o.s.cell 0⟩ (fun HD => ?_)
  refine wpAnyH_take (i := 0) (oi := ⟨some 110, _, _, _, _, _⟩) (v := (.pointer (some ⟨w.heap.size + 1 + 1 + 1, 0, none⟩))) rfl (by kernel_rfl) (by kernel_rfl) (by kernel_rfl) (fun _ _ _ h => h) (Or.inl ⟨by rfl, ?_⟩) HD ?_
  · intro w' hw'
    (go_simp; try with_reducible rfl)
  (try simp only [Act.put, List.setIfInBounds_toArray, List.set_cons_zero, List.set_cons_succ])
  refine wpAnyH_take (i := 1) (oi := ⟨some 111, _, _, _, _, _⟩) (v := (.slice A3 ss.length c3)) rfl (by kernel_rfl) (by kernel_rfl) (by kernel_rfl) (fun _ _ _ h => h) (Or.inl ⟨by rfl, ?_⟩) HD ?_
  · intro w' hw'
    (go_simp; try with_reducible rfl)
  (try simp only [Act.put, List.setIfInBounds_toArray, List.set_cons_zero, List.set_cons_succ])
  have HO15 := Lib.hid HO14.out.drew
  clear HO14
  generalize w11.drew = w12 at *
  have k1 : w12.cell? ⟨w.heap.size, 0, none⟩ = some (.pointer (some ⟨w.heap.size + 1 + 1 + 1, 0, none⟩)) := HO15.out.o.p.cell 0
  have z1 : w12.frozen? ⟨w.heap.size, 0, none⟩ = false := HO15.out.o.p.frozen 0
  refine wpAnyH_ready (rs := [2]) (by kernel_rfl) (by simp) ?_
  refine AllReadyH.cons (o := ⟨none, _, _, _, _, _⟩) rfl (fun K hK => ?_) AllReadyH.nil
  go_simp
  have HO16 := Lib.hid HO15.out.setP
  clear k1 z1 HO15 HD
  generalize w12.setCell ⟨w.heap.size, 0, none⟩ (.pointer (some ⟨w.heap.size + 1 + 1 + 1, 0, none⟩)) = w13 at *
  refine hK.out _ _ ⟨HO16.out.o.p.cell 0, HO16.out.o.s.cell 0⟩ (fun HD => ?_)
  clear hK K
  (try simp only [Act.put, List.setIfInBounds_toArray, List.set_cons_zero, List.set_cons_succ])
  have k1 : w13.cell? ⟨w.heap.size + 1, 0, none⟩ = some (.slice A3 ss.length c3) := HO16.out.o.s.cell 0
  have z1 : w13.frozen? ⟨w.heap.size + 1, 0, none⟩ = false := HO16.out.o.s.frozen 0
  refine wpAnyH_ready (rs := [3]) (by kernel_rfl) (by simp) ?_
  refine AllReadyH.cons (o := ⟨none, _, _, _, _, _⟩) rfl (fun K hK => ?_) AllReadyH.nil
  go_simp
  have HO17 := Lib.hid (HO16.out.setS (.slice A3 ss.length c3))
  clear k1 z1 HO16 HD
  generalize w13.setCell ⟨w.heap.size + 1, 0, none⟩ (.slice A3 ss.length c3) = w14 at *
  refine hK.out _ _ ⟨HO17.out.o.p.cell 0, HO17.out.o.s.cell 0⟩ (fun HD => ?_)
  clear hK K
  (try simp only [Act.put, List.setIfInBounds_toArray, List.set_cons_zero, List.set_cons_succ])
  have k1 : w14.cell? ⟨w.heap.size + 1 + 1, 0, none⟩ = some (.int .i64 0) := HO17.out.o.e.cell 0
  have z1 : w14.frozen? ⟨w.heap.size + 1 + 1, 0, none⟩ = false := HO17.out.o.e.frozen 0
  refine wpAnyH_ready (rs := [4]) (by kernel_rfl) (by simp) ?_
  refine AllReadyH.cons (o := ⟨none, _, _, _, _, _⟩) rfl (fun K hK => ?_) AllReadyH.nil
  go_simp
  have HO18 := Lib.hid HO17.out.setE
  clear k1 z1 HO17 HD
  generalize w14.setCell ⟨w.heap.size + 1 + 1, 0, none⟩ (.int .i64 0) = w15 at *
  refine hK.out _ _ ⟨HO18.out.o.p.cell 0, HO18.out.o.s.cell 0⟩ (fun HD => ?_)
  clear hK K
  (try simp only [Act.put, List.setIfInBounds_toArray, List.set_cons_zero, List.set_cons_succ])
  refine wpAnyH_done (by kernel_rfl) (NoPanic.normal ?_) _
  clear HD
  go_wp2_with fail
  refine leaves_cons (f := 37) (args := #[.pointer (some ⟨w.heap.size + 1 + 1, 0, none⟩)]) (by simp) (by simp [go_sem]) ?_
  refine (jcaught_idle _ _).mono ?_
  rintro e u' w'' ⟨rfl, rfl, rfl⟩
  refine leaves_cons (f := 61) (args := #[.pointer (some ⟨w.heap.size + 1 + 1, 0, none⟩), .pointer (some ⟨w.heap.size, 0, none⟩), .pointer (some ⟨w.heap.size + 1, 0, none⟩)]) (by simp [settle]) (by simp [go_sem]) ?_
  refine (openD_ok _ _ _ _ _ (HO18.out.o.e.cell 0)).mono ?_
  rintro e u' w'' ⟨rfl, rfl, rfl⟩
  have h0 : w''.cell? ⟨w.heap.size, 0, none⟩ = some (.pointer (some ⟨w.heap.size + 1 + 1 + 1, 0, none⟩)) := HO18.out.o.p.cell 0
  have h1 : w''.cell? ⟨w.heap.size + 1, 0, none⟩ = some (.slice A3 ss.length c3) := HO18.out.o.s.cell 0
  have h2 : w''.cell? ⟨w.heap.size + 1 + 1, 0, none⟩ = some (.int .i64 0) := HO18.out.o.e.cell 0
  simp [Leaves, settle, results, Tryz.results31, go_sem, h0, h1, h2]
  exact ⟨A3, c3, ⟨rfl, rfl⟩, by simpa [jCs] using HO18.out⟩
end Go.Proofs.YtkdmfjpfanmgmaaGreatDoor
