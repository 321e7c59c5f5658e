/- Joined by mkmerge.py from the proof's texts Disk4. Conditions: each theorem's own hypotheses. -/
import Derived.Test.YtkdmfjpfanmgmaaGreatDoorM16
import Derived.Test.YtkdmfjpfanmgmaaGreatDoorM17
namespace Go.Proofs.YtkdmfjpfanmgmaaGreatDoor
open Go.RowKit Le Go.Maps
set_option maxRecDepth 100000
set_option linter.unusedSimpArgs false
set_option linter.unusedVariables false
theorem SameC.of_below {w w' : World} (h : Below w.heap.size w w') : SameC w w' := (SameD.of_below h).c
theorem SameC.trans {w w' w'' : World} (h : SameC w w') (g : SameC w' w'') : SameC w w'' := ⟨Nat.le_trans h.1 g.1, fun k cs t fr hk ht => g.2 k cs t fr (h.2 k cs t fr hk ht) ht⟩
theorem SameC.turned {w w' : World} {b : Nat} (h : w.mapTurned w' b) : SameC w w' := by
  obtain ⟨hz, hs⟩ := turned_same h
  refine ⟨Nat.le_of_eq hz.symm, fun k cs t fr hk _ => ?_⟩
  rw [hs k ?_]
  · exact hk
  · intro e
    obtain ⟨es, clock, _, _, hb, _⟩ := h
    rw [e, hb] at hk
    cases hk
theorem Below.turned {w w' : World} {b base : Nat} (h : w.mapTurned w' b) (hb : base ≤ b) : Below base w w' := by
  have hg := h.grown
  exact ⟨hg.os, hg.tape, hg.output, hg.size, fun k hk => (turned_same h).2 k (by omega)⟩
/-- Another map's files. -/
theorem FilesAt.other {w w' : World} {base b : Nat} {F : FM} (h : FilesAt w base b F) (hs : SameC w w') (hb : w'.heap[b]? = w.heap[b]?) : FilesAt w' base b F := by
  obtain ⟨hge, ho, D, hown, hz, h0, h1⟩ := h
  refine ⟨hge, ho, D, ?_, hz, h0, fun k l hk => ?_⟩
  · obtain ⟨es, clock, he, hf, hsz, hD⟩ := hown
    exact ⟨es, clock, hb.trans he, hf, hsz, hD⟩
  · obtain ⟨h2, A, c, h3, h4, h5, h6⟩ := h1 k l hk
    exact ⟨h2, A, c, h3, h4, h5, h6.same hs⟩
theorem Keeps.turned {w w' : World} {b : Nat} (h : w.mapTurned w' b) : Keeps [] w w' := by
  obtain ⟨hz, hs⟩ := turned_same h
  refine ⟨Nat.le_of_eq hz.symm, fun k t hk _ => hs k ?_⟩
  intro e
  obtain ⟨es, clock, _, _, hb, _⟩ := h
  obtain ⟨cs, fr, hk⟩ := hk
  rw [e, hb] at hk
  cases hk
theorem SameC.of_keeps {w w' : World} (h : Keeps [80, 106] w w') : SameC w w' :=
  ⟨h.size, fun k cs t fr hk ht => (h.block k t ⟨cs, fr, hk⟩ (by
    intro hm
    rcases List.mem_cons.1 hm with rfl | hm
    · exact absurd ht (by decide)
    · obtain rfl := List.mem_singleton.1 hm
      exact absurd ht (by decide))).trans hk⟩
/-- Maps stay. -/
def KeepM (w w' : World) : Prop := ∀ (k : Nat) (es : Array MapEntry) (c : Nat), w.heap[k]? = some (.map es c) → w'.heap[k]? = some (.map es c)
theorem KeepM.trans {w w' w'' : World} (h : KeepM w w') (g : KeepM w' w'') : KeepM w w'' := fun k es c hk => g k es c (h k es c hk)
theorem KeepM.of_below {w w' : World} (h : Below w.heap.size w w') : KeepM w w' := fun k es c hk => (h.block k (Array.getElem?_eq_some_iff.1 hk).1).trans hk
theorem KeepM.grown {w w' : World} {base : Nat} {e : TypeId} {size n : Nat} {v : Value} {xs : List Value} (h : w.ownsRow base e size v n xs) (hg : w.grownBy w' v.ownBlock) : KeepM w w' := fun k es c hk =>
  (hg.block k (Array.getElem?_eq_some_iff.1 hk).1 (fun e' => by
    obtain ⟨cs, fr, ht⟩ := own_typ h e'.symm
    rw [hk] at ht
    cases ht)).trans hk
theorem KeepM.set {w : World} {p : Addr} {t : TypeId} (hp : TypeAt w p.block t) (v : Value) : KeepM w (w.setCell p v) := fun k es c hk =>
  (Below.heap_setCell w p v k (fun e => by
    obtain ⟨cs, fr, ht⟩ := hp
    rw [← e, hk] at ht
    cases ht)).trans hk
theorem FilesAt.keep {w w' : World} {base b : Nat} {F : FM} (h : FilesAt w base b F) (hs : SameC w w') (hm : KeepM w w') : FilesAt w' base b F := by
  refine h.other hs ?_
  obtain ⟨D, ⟨es, clock, he, _⟩, _⟩ := h.map
  rw [he, hm _ _ _ he]
/-- What a change's closure leaves: the files changed, all cells as they were, other maps too. -/
structure MapTo (w w' : World) (base b : Nat) (F : FM) : Prop where
  at_ : FilesAt w' base b F
  bel : Below base w w'
  c : SameC w w'
  keeps : Keeps [] w w'
  others : ∀ k, k < w.heap.size → k ≠ b → w'.heap[k]? = w.heap[k]?
set_option maxHeartbeats 1600000 in
theorem doWr_any {w : World} {base b p q r : Nat} {F : FM} {f m : List UInt8} {i : Nat} {A : Option Addr} {c : Nat} (h : FilesAt w base b F) (h1 : Box w base p 9 (.string (text f))) (h2 : Box w base q 3 (.int .i64 i)) (h3 : Box w base r 72 (.slice A m.length c)) (h4 : BytesN w base A m)
    (hf : f.length ≤ maxLen) (hi : i ≤ ((F.get f).getD []).length) (hm : 0 < m.length) (hl : ((F.get f).getD []).length ≤ 1048576) (hml : m.length ≤ 1048576) (hn : F.length < maxLen) (hbw : base ≤ w.heap.size) :
    Calls Tryz.prog 82 #[.map (some b), .pointer (some ⟨p, 0, none⟩), .pointer (some ⟨q, 0, none⟩), .pointer (some ⟨r, 0, none⟩)] w fun e w' => e = .returned (.tuple #[]) ∧ MapTo w w' base b (F.put f (laidB ((F.get f).getD []) i m)) := by
  obtain ⟨v, hrun, hv⟩ := h.look_all hf
  obtain ⟨B, c1, rfl, hB⟩ : ∃ B c1, v = .slice B ((F.get f).getD []).length c1 ∧ BytesN w base B ((F.get f).getD []) := by
    cases hg : F.get f with
    | none => rw [hg] at hv; exact ⟨none, 0, hv, BytesN.nil _ _⟩
    | some l => rw [hg] at hv; obtain ⟨A, c, h1, _, _, h2⟩ := hv; exact ⟨A, c, h1, h2⟩
  have a0 : w.cell? ⟨p, 0, none⟩ = some (.string (text f)) := h1.2.cell 0
  have a1 : w.cell? ⟨q, 0, none⟩ = some (.int .i64 i) := h2.2.cell 0
  have a2 : w.cell? ⟨r, 0, none⟩ = some (.slice A m.length c) := h3.2.cell 0
  have hp := h1.2.lt
  have hq := h2.2.lt
  have hr := h3.2.lt
  have hbl := h.lt
  have HF := Lib.hid h
  have HB := Lib.hid hB.1
  have HM := Lib.hid h4.1
  have HL := Lib.hid hl
  have HML := Lib.hid hml
  have HI := Lib.hid hi
  have HP := Lib.hid hm
  have HR := Lib.hid hrun
  have HN := Lib.hid hn
  have HFL := Lib.hid hf
  have HBW := Lib.hid hbw
  clear h h1 h2 h3 h4 hB hv hl hml hi hm hrun hn hf hbw
  go_enter Tryz.func82, Tryz.ntmps82
  go_wp2_with fail
  refine wp_region_last 8 (S := fun w' => w'.heap[b]? = w.heap[b]? ∧ w'.cell? ⟨p, 0, none⟩ = some (.string (text f)) ∧ w'.cell? ⟨q, 0, none⟩ = some (.int .i64 i) ∧ w'.cell? ⟨r, 0, none⟩ = some (.slice A m.length c)) (by kernel_rfl) ⟨rfl, a0, a1, a2⟩ (fun HD => ?_)
  refine LastH.take (i := 0) (oi := ⟨some 5, _, _, _, _, _⟩) (v := (.map (some b))) rfl (by kernel_rfl) (by kernel_rfl) (by kernel_rfl) (by kernel_rfl) (fun _ _ _ h => h) (Or.inl ⟨by rfl, ?_⟩) HD ?_
  · intro w' hw'
    (go_simp; try with_reducible rfl)
  (try simp only [Act.put, List.setIfInBounds_toArray, List.set_cons_zero, List.set_cons_succ])
  refine LastH.take (i := 1) (oi := ⟨some 6, _, _, _, _, _⟩) (v := (.string (text f))) rfl (by kernel_rfl) (by kernel_rfl) (by kernel_rfl) (by kernel_rfl) (fun _ _ _ h => h) (Or.inl ⟨by rfl, ?_⟩) HD ?_
  · intro w' hw'
    (go_simp; try with_reducible rfl)
  (try simp only [Act.put, List.setIfInBounds_toArray, List.set_cons_zero, List.set_cons_succ])
  refine LastH.take (i := 2) (oi := ⟨some 7, _, _, _, _, _⟩) (v := (.map (some b))) rfl (by kernel_rfl) (by kernel_rfl) (by kernel_rfl) (by kernel_rfl) (fun _ _ _ h => h) (Or.inl ⟨by rfl, ?_⟩) HD ?_
  · intro w' hw'
    (go_simp; try with_reducible rfl)
  (try simp only [Act.put, List.setIfInBounds_toArray, List.set_cons_zero, List.set_cons_succ])
  refine LastH.take (i := 3) (oi := ⟨some 8, _, _, _, _, _⟩) (v := (.string (text f))) rfl (by kernel_rfl) (by kernel_rfl) (by kernel_rfl) (by kernel_rfl) (fun _ _ _ h => h) (Or.inl ⟨by rfl, ?_⟩) HD ?_
  · intro w' hw'
    (go_simp; try with_reducible rfl)
  (try simp only [Act.put, List.setIfInBounds_toArray, List.set_cons_zero, List.set_cons_succ])
  refine LastH.take (i := 4) (oi := ⟨some 9, _, _, _, _, _⟩) (v := (.slice B ((F.get f).getD []).length c1)) rfl (by kernel_rfl) (by kernel_rfl) (by kernel_rfl) (by kernel_rfl) (fun _ _ _ h => h) (Or.inl ⟨by rfl, ?_⟩) HD ?_
  · intro w' hw'
    (have hz := HR.out w' hw'.1; go_simp; try with_reducible rfl)
  (try simp only [Act.put, List.setIfInBounds_toArray, List.set_cons_zero, List.set_cons_succ])
  refine LastH.take (i := 5) (oi := ⟨some 10, _, _, _, _, _⟩) (v := (.int .i64 i)) rfl (by kernel_rfl) (by kernel_rfl) (by kernel_rfl) (by kernel_rfl) (fun _ _ _ h => h) (Or.inl ⟨by rfl, ?_⟩) HD ?_
  · intro w' hw'
    (go_simp; try with_reducible rfl)
  (try simp only [Act.put, List.setIfInBounds_toArray, List.set_cons_zero, List.set_cons_succ])
  refine LastH.take (i := 6) (oi := ⟨some 11, _, _, _, _, _⟩) (v := (.slice A m.length c)) rfl (by kernel_rfl) (by kernel_rfl) (by kernel_rfl) (by kernel_rfl) (fun _ _ _ h => h) (Or.inl ⟨by rfl, ?_⟩) HD ?_
  · intro w' hw'
    (go_simp; try with_reducible rfl)
  (try simp only [Act.put, List.setIfInBounds_toArray, List.set_cons_zero, List.set_cons_succ])
  refine LastH.one (i := 7) (o := ⟨some 12, _, _, _, _, _⟩) (by kernel_rfl) rfl (fun K hK => ?_)
  go_simp
  go_at_call 83
  have HM1 : Hid (Reads w.drew w.drew.heap.size A m.length (u8s m)) := Lib.hid (by have := HM.out.below (w' := w.drew) (Below.refl _ _).drew; simpa using this)
  have HB1 : Hid (Reads w.drew w.drew.heap.size B ((F.get f).getD []).length (u8s ((F.get f).getD []))) := Lib.hid (by have := HB.out.below (w' := w.drew) (Below.refl _ _).drew; simpa using this)
  refine (dlaid_any B c1 _ i A c m w.drew HB1.out HM1.out HI.out HP.out HL.out HML.out).mono ?_
  rintro e w1 ⟨A', c', rfl, h5, h6, h7, h8⟩
  have hb8 : Below w.heap.size w w1 := by have := (Below.refl w.heap.size w).drew.trans (show Below w.heap.size w.drew w1 from by simpa using h8); exact this
  have HF1 := Lib.hid (HF.out.same (SameD.of_below hb8))
  obtain ⟨w2, hu, h9, h10⟩ := HF1.out.put (k := f) (A := A') (c := c') HFL.out HN.out h5 h6 (h7.mono (by have := HBW.out; simpa using this))
  have hb8' : Below base w w1 := hb8.mono HBW.out
  refine hK.out _ _ ⟨hb8.block b hbl, (World.cell?_of_block (hb8.block p hp)).trans a0, (World.cell?_of_block (hb8.block q hq)).trans a1, (World.cell?_of_block (hb8.block r hr)).trans a2⟩ ?_
  clear hK K
  (try simp only [Act.put, List.setIfInBounds_toArray, List.set_cons_zero, List.set_cons_succ])
  refine LastH.end_ (i := 8) (o := ⟨none, _, _, _, _, _⟩) (by kernel_rfl) rfl rfl (fun K hK => ?_)
  go_simp
  refine hK.out _ _ (LastH.done (by kernel_rfl) ?_ _)
  go_wp2_with fail
  go_end0
  refine ⟨rfl, h9, hb8'.trans (Below.turned h10 HF1.out.ge), (SameC.of_below hb8).trans (SameC.turned h10), (Keeps.of_below hb8 (Nat.le_refl _)).trans (Keeps.turned h10), fun k hk hne => ?_⟩
  rw [(turned_same h10).2 k hne, hb8.block k hk]
end Go.Proofs.YtkdmfjpfanmgmaaGreatDoor
