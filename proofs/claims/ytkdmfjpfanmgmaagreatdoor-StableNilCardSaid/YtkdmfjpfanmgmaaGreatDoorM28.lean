/- Joined by mkmerge.py from the proof's texts Disk6. Conditions: each theorem's own hypotheses. -/
import Derived.Test.YtkdmfjpfanmgmaaGreatDoorM20
import Derived.Test.YtkdmfjpfanmgmaaGreatDoorM21
import Derived.Test.YtkdmfjpfanmgmaaGreatDoorM26
import Derived.Test.YtkdmfjpfanmgmaaGreatDoorM23
namespace Go.Proofs.YtkdmfjpfanmgmaaGreatDoor
open Go.RowKit Le Go.Maps
set_option maxRecDepth 100000
set_option linter.unusedSimpArgs false
set_option linter.unusedVariables false
theorem blk4w (w : World) (t0 t1 t2 t3 : TypeId) (c0 c1 c2 c3 : List Value) (W : World) (hW : W = (((w.alloc (.cells c0.toArray t0)).alloc (.cells c1.toArray t1)).alloc (.cells c2.toArray t2)).alloc (.cells c3.toArray t3)) :
    Blk W w.heap.size t0 c0 ∧ Blk W (w.heap.size + 1) t1 c1 ∧ Blk W (w.heap.size + 1 + 1) t2 c2 ∧ Blk W (w.heap.size + 1 + 1 + 1) t3 c3 ∧ Below w.heap.size w W ∧ W.heap.size = w.heap.size + 1 + 1 + 1 + 1 := by
  obtain ⟨h0, h1, h2, hb, hs⟩ := blk3w w t0 t1 t2 c0 c1 c2 _ rfl
  subst hW
  refine ⟨h0.alloc _, h1.alloc _, h2.alloc _, ?_, hb.alloc (by omega) _, by simp⟩
  have h := Blk.new (((w.alloc (.cells c0.toArray t0)).alloc (.cells c1.toArray t1)).alloc (.cells c2.toArray t2)) t3 c3
  simpa using h
theorem DiskTo.after {w w1 w2 : World} {base d : Nat} {lasts now : FM} {cs : List Chg} (h : DiskTo w1 w2 base d lasts now cs) (hb : Below w.heap.size w w1) (hbw : base ≤ w.heap.size) : DiskTo w w2 base d lasts now cs :=
  ⟨h.at_, (hb.mono hbw).trans h.bel, (Keeps.of_below hb (Nat.le_refl _)).trans h.keeps⟩
theorem BytesN.keeps {w w' : World} {base : Nat} {A : Option Addr} {l : List UInt8} {ts : List TypeId} (h : BytesN w base A l) (hk : Keeps ts w w') (ht : 5 ∉ ts) : BytesN w' base A l := by
  have hd : ∀ t, t ∈ [5] → t ∉ ts := fun t hm => by obtain rfl := List.mem_singleton.1 hm; exact ht
  refine ⟨⟨h.1.1, fun hn => ?_⟩, fun ad e hn => ((h.2 ad e hn).keeps hk hd).1⟩
  obtain ⟨ad, e, hb, hc⟩ := h.1.2 hn
  refine ⟨ad, e, Nat.lt_of_lt_of_le hb hk.size, fun j u hu => ?_⟩
  rw [World.cell?_of_block (w := w) (w' := w') (by rw [block_of_add]; exact ((h.2 ad e hn).keeps hk hd).2)]
  exact hc j u hu
set_option maxHeartbeats 800000 in
theorem writing_any (f : List UInt8) (i : Nat) (A : Option Addr) (c : Nat) (m : List UInt8) (w : World) (h : Reads w w.heap.size A m.length (u8s m)) (hm : m.length ≤ 1048576) :
    Calls Tryz.prog 45 #[.string (text f), .int .i64 i, .slice A m.length c] w fun e w' => ∃ vs : List Value, e = .returned (.agg vs.toArray) ∧ ChgAt w' w.heap.size vs (.wr f i m) ∧ Below w.heap.size w w' := by
  have H := Lib.hid h
  clear h
  go_enter Tryz.func45, Tryz.ntmps45
  go_wp2_with fail
  refine at_world _ fun W hW => ?_
  obtain ⟨P0, P1, P2, P3, hbW, hsW⟩ := blk4w w 9 3 72 106 [.string (text f)] [.int .i64 i] [.slice A m.length c] [.string ⟨#[]⟩, .nilFunc, .int .i64 0, .slice none 0 0, .bool false] W hW
  clear hW
  have HR := (H.out.below hbW)
  refine (cloneB_any A c m W ⟨HR.1, fun hn => by obtain ⟨ad, e, hb, hc⟩ := HR.2 hn; exact ⟨ad, e, by omega, hc⟩⟩ (by omega)).mono ?_
  rintro e w1 ⟨A', c', rfl, h1, h2, h3, hb⟩
  have R0 := Lib.hid (P0.below hb P0.lt)
  have R1 := Lib.hid (P1.below hb P1.lt)
  have R2 := Lib.hid (P2.below hb P2.lt)
  have R3 := Lib.hid (P3.below hb P3.lt)
  have HB := Lib.hid (hbW.trans (hb.mono (by omega)))
  have H3 := Lib.hid h3
  clear P0 P1 P2 P3 hb hbW h3
  have f0 : w1.frozen? ⟨w.heap.size + 1 + 1, 0, none⟩ = false := R2.out.frozen 0
  have a0 : w1.cell? ⟨w.heap.size, 0, none⟩ = some (.string (text f)) := R0.out.cell 0
  have a1 : w1.cell? ⟨w.heap.size + 1, 0, none⟩ = some (.int .i64 i) := R1.out.cell 0
  have a2 : w1.cell? ⟨w.heap.size + 1 + 1, 0, none⟩ = some (.slice A m.length c) := R2.out.cell 0
  have R3' : Hid (Blk (w1.setCell ⟨w.heap.size + 1 + 1, 0, none⟩ (.slice A' m.length c')) (w.heap.size + 1 + 1 + 1) 106 [.string ⟨#[]⟩, .nilFunc, .int .i64 0, .slice none 0 0, .bool false]) := Lib.hid ((Below.heap_setCell w1 ⟨w.heap.size + 1 + 1, 0, none⟩ (.slice A' m.length c') (w.heap.size + 1 + 1 + 1) (by simp)).trans R3.out)
  have R2' := Lib.hid (R2.out.set_ 0 (.slice A' m.length c'))
  have HI : Hid ((Tryz.prog.info? 106).map (·.size) = some 5) := Lib.hid (by kernel_rfl)
  go_wp2_with ((with_reducible refine wpList_store_blk rfl 106 _ _ rfl (w.heap.size + 1 + 1 + 1) [.string (text f), .func (.func 82) #[] #[.pointer (some ⟨w.heap.size, 0, none⟩), .pointer (some ⟨w.heap.size + 1, 0, none⟩), .pointer (some ⟨w.heap.size + 1 + 1, 0, none⟩)], .int .i64 i, .slice A' m.length c', .bool true] rfl rfl R3' (by simp) (by simp) HI (by simp [Value.oneCell']) ?_); intro w2 H2)
  refine bodyPost_ret (results_blk rfl _ _ (w.heap.size + 1 + 1 + 1) rfl (Lib.hid H2.out.blk) (by simp) Tryz.underlying106 rfl HI) rfl ?_
  have K2 : Keeps [72, 106] w1 w2 := (Keeps.set_ R2.out.typ (by simp) _).trans (H2.out.keeps.more (by simp))
  have S0 := R0.out.keeps K2 (by decide)
  have S1 := R1.out.keeps K2 (by decide)
  have S2 := H2.out.other R2'.out (by omega)
  refine ⟨_, rfl, ⟨w.heap.size, w.heap.size + 1, w.heap.size + 1 + 1, A', c', rfl, ⟨Nat.le_refl _, S0⟩, ⟨by omega, S1⟩, ⟨by omega, by simpa using S2⟩, h1, h2, (H3.out.mono (by omega)).keeps K2 (by decide)⟩, H2.out.below (HB.out.setCell (by dsimp only; omega) _) (by omega)⟩
set_option maxHeartbeats 1600000 in
theorem Remove_any {w : World} {base d : Nat} {lasts now : FM} {cs : List Chg} (h : DiskAt w base d lasts now cs) (f : List UInt8) (hf : f.length ≤ 64) (hbw : base ≤ w.heap.size) (hcs : cs.length ≤ 1000) {l : List UInt8} (hl : now.get f = some l) :
    Calls Tryz.prog 40 #[.pointer (some ⟨d, 0, none⟩), .string (text f)] w fun e w' => e = .returned (.int .i64 0) ∧ DiskTo w w' base d lasts (now.del f) (cs ++ [.rm f]) := by
  have H := Lib.hid h
  clear h
  have hb0 : Below w.heap.size w (w.alloc (.cells #[.string (text f)] 9)) := (Below.refl w.heap.size w).alloc (Nat.le_refl _) _
  have HD0 := Lib.hid (H.out.same (SameD.of_below hb0))
  have hB : Box (w.alloc (.cells #[.string (text f)] 9)) base w.heap.size 9 (.string (text f)) := ⟨hbw, Blk.new w 9 [.string (text f)]⟩
  obtain ⟨m1, m2, C, cap, xs, h1, _, _, h4, _⟩ := HD0.out.blk
  have a2 : (w.alloc (.cells #[.string (text f)] 9)).cell? ⟨d, 2, none⟩ = some (.map (some m2)) := h1.cell 2
  have a0 : (w.alloc (.cells #[.string (text f)] 9)).cell? ⟨w.heap.size, 0, none⟩ = some (.string (text f)) := hB.2.cell 0
  obtain ⟨v, hrun, _⟩ := h4.look_ok_all (k := f) (by unfold maxLen; omega)
  rw [hl] at hrun
  simp only [Option.isSome_some] at hrun
  have HR := Lib.hid hrun
  have HB := Lib.hid hB
  have HBL := Lib.hid hb0
  clear h1 h4 hrun hB hb0
  go_enter Tryz.func40, Tryz.ntmps40
  go_wp2_with fail
  refine (stopped_any HD0.out).mono ?_
  rintro e w1 ⟨rfl, rfl⟩
  go_wp2_with fail
  refine wp_region_held_drew (S := fun w' => w'.heap[m2]? = (w.alloc (.cells #[.string (text f)] 9)).heap[m2]? ∧ w'.cell? ⟨d, 2, none⟩ = some (.map (some m2)) ∧ w'.cell? ⟨w.heap.size, 0, none⟩ = some (.string (text f))) (by kernel_rfl) ⟨rfl, a2, a0⟩ (fun HD => ?_)
  refine wpAnyH_take (i := 0) (oi := ⟨some 14, _, _, _, _, _⟩) (v := (.pointer (some ⟨d, 0, none⟩))) rfl (by kernel_rfl) (by kernel_rfl) (by kernel_rfl) (fun _ _ _ h => h) (Or.inl ⟨by rfl, ?_⟩) HD ?_
  · intro w' hw'
    (go_simp; try with_reducible rfl)
  (try simp only [Act.put, List.setIfInBounds_toArray, List.set_cons_zero, List.set_cons_succ])
  refine wpAnyH_take (i := 1) (oi := ⟨some 15, _, _, _, _, _⟩) (v := (.pointer (some ⟨d, 0, none⟩))) rfl (by kernel_rfl) (by kernel_rfl) (by kernel_rfl) (fun _ _ _ h => h) (Or.inl ⟨by rfl, ?_⟩) HD ?_
  · intro w' hw'
    (go_simp; try with_reducible rfl)
  (try simp only [Act.put, List.setIfInBounds_toArray, List.set_cons_zero, List.set_cons_succ])
  refine wpAnyH_take (i := 2) (oi := ⟨some 16, _, _, _, _, _⟩) (v := (.pointer (some ⟨d, 2, none⟩))) rfl (by kernel_rfl) (by kernel_rfl) (by kernel_rfl) (fun _ _ _ h => h) (Or.inl ⟨by rfl, ?_⟩) HD ?_
  · intro w' hw'
    (go_simp; try with_reducible rfl)
  (try simp only [Act.put, List.setIfInBounds_toArray, List.set_cons_zero, List.set_cons_succ])
  refine wpAnyH_take (i := 3) (oi := ⟨some 17, _, _, _, _, _⟩) (v := (.map (some m2))) rfl (by kernel_rfl) (by kernel_rfl) (by kernel_rfl) (fun _ _ _ h => h) (Or.inl ⟨by rfl, ?_⟩) HD ?_
  · intro w' hw'
    (go_simp; try with_reducible rfl)
  (try simp only [Act.put, List.setIfInBounds_toArray, List.set_cons_zero, List.set_cons_succ])
  refine wpAnyH_take (i := 4) (oi := ⟨some 18, _, _, _, _, _⟩) (v := (.string (text f))) rfl (by kernel_rfl) (by kernel_rfl) (by kernel_rfl) (fun _ _ _ h => h) (Or.inl ⟨by rfl, ?_⟩) HD ?_
  · intro w' hw'
    (go_simp; try with_reducible rfl)
  (try simp only [Act.put, List.setIfInBounds_toArray, List.set_cons_zero, List.set_cons_succ])
  refine wpAnyH_take (i := 5) (oi := ⟨some 19, _, _, _, _, _⟩) (v := (.tuple #[v, .bool true])) rfl (by kernel_rfl) (by kernel_rfl) (by kernel_rfl) (fun _ _ _ h => h) (Or.inl ⟨by rfl, ?_⟩) HD ?_
  · intro w' hw'
    (have hz := HR.out w' hw'.1; go_simp; try with_reducible rfl)
  (try simp only [Act.put, List.setIfInBounds_toArray, List.set_cons_zero, List.set_cons_succ])
  refine wpAnyH_take (i := 6) (oi := ⟨some 13, _, _, _, _, _⟩) (v := (.tuple #[v, .bool true])) rfl (by kernel_rfl) (by kernel_rfl) (by kernel_rfl) (fun _ _ _ h => h) (Or.inl ⟨by rfl, ?_⟩) HD ?_
  · intro w' hw'
    (go_simp; try with_reducible rfl)
  (try simp only [Act.put, List.setIfInBounds_toArray, List.set_cons_zero, List.set_cons_succ])
  refine wpAnyH_take (i := 7) (oi := ⟨some 20, _, _, _, _, _⟩) (v := v) rfl (by kernel_rfl) (by kernel_rfl) (by kernel_rfl) (fun _ _ _ h => h) (Or.inl ⟨by rfl, ?_⟩) HD ?_
  · intro w' hw'
    (go_simp; try with_reducible rfl)
  (try simp only [Act.put, List.setIfInBounds_toArray, List.set_cons_zero, List.set_cons_succ])
  refine wpAnyH_take (i := 8) (oi := ⟨some 21, _, _, _, _, _⟩) (v := (.bool true)) rfl (by kernel_rfl) (by kernel_rfl) (by kernel_rfl) (fun _ _ _ h => h) (Or.inl ⟨by rfl, ?_⟩) HD ?_
  · intro w' hw'
    (go_simp; try with_reducible rfl)
  (try simp only [Act.put, List.setIfInBounds_toArray, List.set_cons_zero, List.set_cons_succ])
  refine wpAnyH_take (i := 9) (oi := ⟨some 6, _, _, _, _, _⟩) (v := v) rfl (by kernel_rfl) (by kernel_rfl) (by kernel_rfl) (fun _ _ _ h => h) (Or.inl ⟨by rfl, ?_⟩) HD ?_
  · intro w' hw'
    (go_simp; try with_reducible rfl)
  (try simp only [Act.put, List.setIfInBounds_toArray, List.set_cons_zero, List.set_cons_succ])
  refine wpAnyH_take (i := 10) (oi := ⟨some 7, _, _, _, _, _⟩) (v := (.bool true)) rfl (by kernel_rfl) (by kernel_rfl) (by kernel_rfl) (fun _ _ _ h => h) (Or.inl ⟨by rfl, ?_⟩) HD ?_
  · intro w' hw'
    (go_simp; try with_reducible rfl)
  (try simp only [Act.put, List.setIfInBounds_toArray, List.set_cons_zero, List.set_cons_succ])
  refine wpAnyH_done (by kernel_rfl) ?_ _
  clear HD
  go_wp2_with fail
  have HB1 : Hid (Below w.heap.size w (w.alloc (.cells #[.string (text f)] 9)).drew) := Lib.hid HBL.out.drew
  refine (dChange_any (c := .rm f) (vs := [.string (text f), .func (.func 77) #[] #[.pointer (some ⟨w.heap.size, 0, none⟩)], .int .i64 0, .slice none 0 0, .bool false]) (H.out.same (SameD.of_below HB1.out)) ⟨_, rfl, HB.out.1, HB.out.2.drew⟩ hf (Nat.le_trans hbw HB1.out.size) hcs).mono ?_
  rintro e w2 ⟨rfl, h2⟩
  have H2 := Lib.hid (h2.after HB1.out hbw)
  clear h2
  go_wp2_with fail
  go_ret
  exact ⟨rfl, H2.out⟩
end Go.Proofs.YtkdmfjpfanmgmaaGreatDoor
