/- The walks of the reference that reads: lists and structs. Printed by mkcu.py. -/
import Derived.Test.YteohhgkehkmgcaaCu3
namespace Go.Proofs.Yteohhgkehkmgcaa
open Go.RowKit Le
set_option maxRecDepth 100000
set_option linter.unusedVariables false
set_option linter.unusedSimpArgs false

set_option maxHeartbeats 1600000 in
theorem C_texts (base g : Nat) (o : Option (List UInt8)) (w : World) (h : CutAt w base g o) :
    Calls Try.prog 129 #[.pointer (some ⟨g, 0, none⟩)] w fun e w' => (∃ A n c, e = .returned (.slice A n c)) ∧ CutAt w' base g (stepO (.rows [.text]) o) ∧ Cuts base w w' := by
  obtain ⟨i0, hi0⟩ : ∃ i, Try.prog.info? 9 = some i := by
    cases hq : Try.prog.info? 9 with
    | none => have h0 : (Try.prog.info? 9).isSome = true := by kernel_rfl
              rw [hq] at h0; cases h0
    | some i => exact ⟨i, rfl⟩
  have hinf : (Try.prog.info? 9).map (fun i => (i.zero, i.size, decide (i.bytes ≤ 1000))) = some (some (.string ⟨#[]⟩), 1, true) := by kernel_rfl
  rw [hi0] at hinf
  simp only [Option.map_some, Option.some.injEq, Prod.mk.injEq, decide_eq_true_eq] at hinf
  obtain ⟨hz0, hz1, hz2⟩ := hinf
  have hby := Nat.mul_le_mul_left 4097 hz2
  have HI := Lib.hid (And.intro hi0 (And.intro hz0 hz1))
  clear hi0 hz0 hz1
  have hlt := h.lt
  have C := Lib.hid (C_many base g o w h)
  clear h
  go_enter Try.func129, Try.ntmps129
  go_wp2_with fail
  refine (unhide C).mono ?_
  rintro e w1 ⟨⟨N, rfl, hN4, hN⟩, hA, hK⟩
  have HA1 := Lib.hid hA
  have HK1 := Lib.hid hK
  have HR := Lib.hid (rows_step (sh := [.text]) hN)
  obtain ⟨o1, ho1⟩ : ∃ o1, stepM o = o1 := ⟨_, rfl⟩
  rw [ho1] at HA1 HR
  clear C hN hA hK ho1
  go_wp2
  go_loopw [4, 5] (fun v i wr => ∃ (j : Nat) (A : Option Addr) (c : Nat) (xs : List Value), j ≤ N ∧ i = .int .i64 j ∧ v = .slice A j c ∧ Hid (CutAt wr base g (iterO [.text] j o1)) ∧ Hid (wr.ownsRow w.heap.size 9 1 (.slice A j c) j xs) ∧ Hid (Cuts base w wr) ∧ w.heap.size ≤ wr.heap.size) (fun _ i _ => N - (intOf i).toNat)
  case atStart => exact ⟨0, none, 0, [], Nat.zero_le _, rfl, rfl, Lib.hid (by rw [iterO_zero]; exact HA1.out), Lib.hid (World.ownsRow_nil _ w.heap.size 9 1), HK1, HK1.out.keeps.size⟩
  case round =>
    obtain ⟨j, A, c, xs, hj, rfl, rfl, HA, HO, HK, hsz⟩ := hrel
    obtain ⟨nb, hnb⟩ : ∃ nb, (iterO [.text] j o1).isNone = nb := ⟨_, rfl⟩
    have hcb : wr.cell? ⟨g, 1, none⟩ = some (.bool nb) := by
      obtain ⟨r, A', n, c', i, lb, hB, _⟩ := HA.out
      rw [← hnb]
      exact hB.cell 1
    have HNB := Lib.hid hnb
    clear hnb
    by_cases hlt2 : j < N
    · cases nb with
      | true =>
        go_wp2
        go_ret
        refine ⟨⟨A, j, c, rfl⟩, ?_, HK.out⟩
        have h1 : iterO [.text] j o1 = none := by have := HNB.out; simpa using this
        rw [HR.out, iterO_none h1 (by omega), ← h1]
        exact HA.out
      | false =>
        clear hcb
        have hcb2 : wr.cell? ⟨g, 1, none⟩ = some (.bool false) := by
          obtain ⟨r, A', n, c', i, lb, hB, _⟩ := HA.out
          have := hB.cell 1
          rwa [show (iterO _ j o1).isNone = false from HNB.out] at this
        have C := Lib.hid (C_text base g _ wr HA.out)
        go_wp2_with fail
        refine (unhide C).mono ?_
        rintro e w2 ⟨⟨V, rfl, _⟩, hA, hK⟩
        have hst : stepO .text (iterO [.text] j o1) = iterO [.text] (j + 1) o1 := by rw [iterO_succ, stepS_cons, stepS_nil]
        rw [hst] at hA
        have HA2 := Lib.hid hA
        have HK2 := Lib.hid (HK.out.trans hK)
        have HO2 := Lib.hid (HO.out.keeps hK.keeps (by decide))
        have hsz2 := hK.keeps.size
        clear C hA hK HA HO HK hst hcb2
        have HNB := Lib.hid (Blk.new w2 9 [.string V])
        go_wp2_with (first | (at_builtin; refine wpList_appN rfl _ _ 44 rfl w.heap.size 9 i0 _ 1 i0.bytes Try.underlying44 HI.out.1 HI.out.2.1 HI.out.2.2 rfl rfl (by decide) (.slice A j c) j xs rfl (HO2.out.alloc _) ⟨w2.heap.size, 0, none⟩ 1 [.string V] rfl rfl HNB.out.news (by simp [Value.oneCell']) (by unfold maxLen; omega) (Nat.le_trans (Nat.mul_le_mul_right _ (by omega)) (Nat.le_trans hby (by decide))) (by simp; omega) ?_; intro A3 c3 w3 HO3 HG3))
        have HKA : Hid (Keeps [9] w2 w3) := Lib.hid ((Keeps.alloc w2 _).trans (Keeps.grown (HO2.out.alloc _) HG3.out (by simp) HG3.out.size))
        have HBA : Hid (Below base w2 w3) := Lib.hid (((Below.refl _ _).alloc (by omega) _).grown HG3.out (by simp; omega) (by intro k hk; have := own_block_ge HO2.out k hk; omega))
        have hrel : ∃ (j' : Nat) (A : Option Addr) (c : Nat) (xs : List Value), j' ≤ N ∧ Value.int .i64 ((j : Int) + 1) = .int .i64 j' ∧ Value.slice A3 (j + 1) c3 = .slice A j' c ∧ Hid (CutAt w3 base g (iterO [.text] j' o1)) ∧ Hid (w3.ownsRow w.heap.size 9 1 (.slice A j' c) j' xs) ∧ Hid (Cuts base w w3) ∧ w.heap.size ≤ w3.heap.size := by
          refine ⟨j + 1, A3, c3, _, by omega, by simp, rfl, Lib.hid (HA2.out.keeps HKA.out HBA.out (by decide) (by decide)), HO3, Lib.hid ⟨HK2.out.below.trans HBA.out, ?_⟩, by have := HKA.out.size; omega⟩
          exact (HK2.out.keeps.then_below ((Below.refl _ _).alloc (Nat.le_refl _) _)).grown_new HG3.out (fun k hk => by have := own_block_ge HO2.out k hk; omega)
        clear HKA HBA HO3 HG3 HO2 HA2 HK2
        go_wp2
        go_roundw
        case rel => obtain ⟨j', A, c, xs, h1, h2, h3⟩ := hrel; exact ⟨j', A, c, xs, h1, by rw [← h2], h3⟩
        case measure => simp [intOf]; omega
    · cases nb with
      | true =>
        go_wp2
        go_ret
        refine ⟨⟨A, j, c, rfl⟩, ?_, HK.out⟩
        obtain rfl : j = N := by omega
        rw [HR.out]
        exact HA.out
      | false =>
        go_wp2
        go_ret
        refine ⟨⟨A, j, c, rfl⟩, ?_, HK.out⟩
        obtain rfl : j = N := by omega
        rw [HR.out]
        exact HA.out

set_option maxHeartbeats 1600000 in
theorem C_set (base g : Nat) (o : Option (List UInt8)) (w : World) (h : CutAt w base g o) :
    Calls Try.prog 156 #[.pointer (some ⟨g, 0, none⟩)] w fun e w' => (∃ A n c, e = .returned (.slice A n c)) ∧ CutAt w' base g (stepO (.rows [.num]) o) ∧ Cuts base w w' := by
  obtain ⟨i0, hi0⟩ : ∃ i, Try.prog.info? 3 = some i := by
    cases hq : Try.prog.info? 3 with
    | none => have h0 : (Try.prog.info? 3).isSome = true := by kernel_rfl
              rw [hq] at h0; cases h0
    | some i => exact ⟨i, rfl⟩
  have hinf : (Try.prog.info? 3).map (fun i => (i.zero, i.size, decide (i.bytes ≤ 1000))) = some (some (.int .i64 0), 1, true) := by kernel_rfl
  rw [hi0] at hinf
  simp only [Option.map_some, Option.some.injEq, Prod.mk.injEq, decide_eq_true_eq] at hinf
  obtain ⟨hz0, hz1, hz2⟩ := hinf
  have hby := Nat.mul_le_mul_left 4097 hz2
  have HI := Lib.hid (And.intro hi0 (And.intro hz0 hz1))
  clear hi0 hz0 hz1
  have hlt := h.lt
  have C := Lib.hid (C_many base g o w h)
  clear h
  go_enter Try.func156, Try.ntmps156
  go_wp2_with fail
  refine (unhide C).mono ?_
  rintro e w1 ⟨⟨N, rfl, hN4, hN⟩, hA, hK⟩
  have HA1 := Lib.hid hA
  have HK1 := Lib.hid hK
  have HR := Lib.hid (rows_step (sh := [.num]) hN)
  obtain ⟨o1, ho1⟩ : ∃ o1, stepM o = o1 := ⟨_, rfl⟩
  rw [ho1] at HA1 HR
  clear C hN hA hK ho1
  go_wp2
  go_loopw [4, 5] (fun v i wr => ∃ (j : Nat) (A : Option Addr) (c : Nat) (xs : List Value), j ≤ N ∧ i = .int .i64 j ∧ v = .slice A j c ∧ Hid (CutAt wr base g (iterO [.num] j o1)) ∧ Hid (wr.ownsRow w.heap.size 3 1 (.slice A j c) j xs) ∧ Hid (Cuts base w wr) ∧ w.heap.size ≤ wr.heap.size) (fun _ i _ => N - (intOf i).toNat)
  case atStart => exact ⟨0, none, 0, [], Nat.zero_le _, rfl, rfl, Lib.hid (by rw [iterO_zero]; exact HA1.out), Lib.hid (World.ownsRow_nil _ w.heap.size 3 1), HK1, HK1.out.keeps.size⟩
  case round =>
    obtain ⟨j, A, c, xs, hj, rfl, rfl, HA, HO, HK, hsz⟩ := hrel
    obtain ⟨nb, hnb⟩ : ∃ nb, (iterO [.num] j o1).isNone = nb := ⟨_, rfl⟩
    have hcb : wr.cell? ⟨g, 1, none⟩ = some (.bool nb) := by
      obtain ⟨r, A', n, c', i, lb, hB, _⟩ := HA.out
      rw [← hnb]
      exact hB.cell 1
    have HNB := Lib.hid hnb
    clear hnb
    by_cases hlt2 : j < N
    · cases nb with
      | true =>
        go_wp2
        go_ret
        refine ⟨⟨A, j, c, rfl⟩, ?_, HK.out⟩
        have h1 : iterO [.num] j o1 = none := by have := HNB.out; simpa using this
        rw [HR.out, iterO_none h1 (by omega), ← h1]
        exact HA.out
      | false =>
        clear hcb
        have hcb2 : wr.cell? ⟨g, 1, none⟩ = some (.bool false) := by
          obtain ⟨r, A', n, c', i, lb, hB, _⟩ := HA.out
          have := hB.cell 1
          rwa [show (iterO _ j o1).isNone = false from HNB.out] at this
        have C := Lib.hid (C_num base g _ wr HA.out)
        go_wp2_with fail
        refine (unhide C).mono ?_
        rintro e w2 ⟨⟨V, rfl, _⟩, hA, hK⟩
        have hst : stepO .num (iterO [.num] j o1) = iterO [.num] (j + 1) o1 := by rw [iterO_succ, stepS_cons, stepS_nil]
        rw [hst] at hA
        have HA2 := Lib.hid hA
        have HK2 := Lib.hid (HK.out.trans hK)
        have HO2 := Lib.hid (HO.out.keeps hK.keeps (by decide))
        have hsz2 := hK.keeps.size
        clear C hA hK HA HO HK hst hcb2
        have HNB := Lib.hid (Blk.new w2 3 [.int .i64 V])
        go_wp2_with (first | (at_builtin; refine wpList_appN rfl _ _ 25 rfl w.heap.size 3 i0 _ 1 i0.bytes Try.underlying25 HI.out.1 HI.out.2.1 HI.out.2.2 rfl rfl (by decide) (.slice A j c) j xs rfl (HO2.out.alloc _) ⟨w2.heap.size, 0, none⟩ 1 [.int .i64 V] rfl rfl HNB.out.news (by simp [Value.oneCell']) (by unfold maxLen; omega) (Nat.le_trans (Nat.mul_le_mul_right _ (by omega)) (Nat.le_trans hby (by decide))) (by simp; omega) ?_; intro A3 c3 w3 HO3 HG3))
        have HKA : Hid (Keeps [3] w2 w3) := Lib.hid ((Keeps.alloc w2 _).trans (Keeps.grown (HO2.out.alloc _) HG3.out (by simp) HG3.out.size))
        have HBA : Hid (Below base w2 w3) := Lib.hid (((Below.refl _ _).alloc (by omega) _).grown HG3.out (by simp; omega) (by intro k hk; have := own_block_ge HO2.out k hk; omega))
        have hrel : ∃ (j' : Nat) (A : Option Addr) (c : Nat) (xs : List Value), j' ≤ N ∧ Value.int .i64 ((j : Int) + 1) = .int .i64 j' ∧ Value.slice A3 (j + 1) c3 = .slice A j' c ∧ Hid (CutAt w3 base g (iterO [.num] j' o1)) ∧ Hid (w3.ownsRow w.heap.size 3 1 (.slice A j' c) j' xs) ∧ Hid (Cuts base w w3) ∧ w.heap.size ≤ w3.heap.size := by
          refine ⟨j + 1, A3, c3, _, by omega, by simp, rfl, Lib.hid (HA2.out.keeps HKA.out HBA.out (by decide) (by decide)), HO3, Lib.hid ⟨HK2.out.below.trans HBA.out, ?_⟩, by have := HKA.out.size; omega⟩
          exact (HK2.out.keeps.then_below ((Below.refl _ _).alloc (Nat.le_refl _) _)).grown_new HG3.out (fun k hk => by have := own_block_ge HO2.out k hk; omega)
        clear HKA HBA HO3 HG3 HO2 HA2 HK2
        go_wp2
        go_roundw
        case rel => obtain ⟨j', A, c, xs, h1, h2, h3⟩ := hrel; exact ⟨j', A, c, xs, h1, by rw [← h2], h3⟩
        case measure => simp [intOf]; omega
    · cases nb with
      | true =>
        go_wp2
        go_ret
        refine ⟨⟨A, j, c, rfl⟩, ?_, HK.out⟩
        obtain rfl : j = N := by omega
        rw [HR.out]
        exact HA.out
      | false =>
        go_wp2
        go_ret
        refine ⟨⟨A, j, c, rfl⟩, ?_, HK.out⟩
        obtain rfl : j = N := by omega
        rw [HR.out]
        exact HA.out

set_option maxHeartbeats 1600000 in
theorem C_columns (base g : Nat) (o : Option (List UInt8)) (w : World) (h : CutAt w base g o) :
    Calls Try.prog 99 #[.pointer (some ⟨g, 0, none⟩)] w fun e w' => (∃ A n c, e = .returned (.slice A n c)) ∧ CutAt w' base g (stepO (.rows shColumn) o) ∧ Cuts base w w' := by
  obtain ⟨i0, hi0⟩ : ∃ i, Try.prog.info? 150 = some i := by
    cases hq : Try.prog.info? 150 with
    | none => have h0 : (Try.prog.info? 150).isSome = true := by kernel_rfl
              rw [hq] at h0; cases h0
    | some i => exact ⟨i, rfl⟩
  have hinf : (Try.prog.info? 150).map (fun i => (i.zero, i.size, decide (i.bytes ≤ 1000))) = some (some (.agg #[.string ⟨#[]⟩, .int .i64 0, .bool false]), 3, true) := by kernel_rfl
  rw [hi0] at hinf
  simp only [Option.map_some, Option.some.injEq, Prod.mk.injEq, decide_eq_true_eq] at hinf
  obtain ⟨hz0, hz1, hz2⟩ := hinf
  have hby := Nat.mul_le_mul_left 4097 hz2
  have HI := Lib.hid (And.intro hi0 (And.intro hz0 hz1))
  clear hi0 hz0 hz1
  have hlt := h.lt
  have C := Lib.hid (C_many base g o w h)
  clear h
  go_enter Try.func99, Try.ntmps99
  go_wp2_with fail
  refine (unhide C).mono ?_
  rintro e w1 ⟨⟨N, rfl, hN4, hN⟩, hA, hK⟩
  have HA1 := Lib.hid hA
  have HK1 := Lib.hid hK
  have HR := Lib.hid (rows_step (sh := shColumn) hN)
  obtain ⟨o1, ho1⟩ : ∃ o1, stepM o = o1 := ⟨_, rfl⟩
  rw [ho1] at HA1 HR
  clear C hN hA hK ho1
  go_wp2
  go_loopw [4, 5] (fun v i wr => ∃ (j : Nat) (A : Option Addr) (c : Nat) (xs : List Value), j ≤ N ∧ i = .int .i64 j ∧ v = .slice A j c ∧ Hid (CutAt wr base g (iterO shColumn j o1)) ∧ Hid (wr.ownsRow w.heap.size 150 3 (.slice A j c) j xs) ∧ Hid (Cuts base w wr) ∧ w.heap.size ≤ wr.heap.size) (fun _ i _ => N - (intOf i).toNat)
  case atStart => exact ⟨0, none, 0, [], Nat.zero_le _, rfl, rfl, Lib.hid (by rw [iterO_zero]; exact HA1.out), Lib.hid (World.ownsRow_nil _ w.heap.size 150 3), HK1, HK1.out.keeps.size⟩
  case round =>
    obtain ⟨j, A, c, xs, hj, rfl, rfl, HA, HO, HK, hsz⟩ := hrel
    obtain ⟨nb, hnb⟩ : ∃ nb, (iterO shColumn j o1).isNone = nb := ⟨_, rfl⟩
    have hcb : wr.cell? ⟨g, 1, none⟩ = some (.bool nb) := by
      obtain ⟨r, A', n, c', i, lb, hB, _⟩ := HA.out
      rw [← hnb]
      exact hB.cell 1
    have HNB := Lib.hid hnb
    clear hnb
    by_cases hlt2 : j < N
    · cases nb with
      | true =>
        go_wp2
        go_ret
        refine ⟨⟨A, j, c, rfl⟩, ?_, HK.out⟩
        have h1 : iterO shColumn j o1 = none := by have := HNB.out; simpa using this
        rw [HR.out, iterO_none h1 (by omega), ← h1]
        exact HA.out
      | false =>
        clear hcb
        have hcb2 : wr.cell? ⟨g, 1, none⟩ = some (.bool false) := by
          obtain ⟨r, A', n, c', i, lb, hB, _⟩ := HA.out
          have := hB.cell 1
          rwa [show (iterO _ j o1).isNone = false from HNB.out] at this
        have hbs := HA.out.lt
        have hgx : wr.heap.size ≤ wr.heap.size := Nat.le_refl _
        have hob : ∀ k, (Value.slice A j c).ownBlock = some k → k < wr.heap.size := fun k hk => (HO.out.lt k hk).2
        have HX : Hid (Blk (wr.alloc (.cells #[.string ⟨#[]⟩, .int .i64 0, .bool false] 150)) wr.heap.size 150 [.string ⟨#[]⟩, .int .i64 0, .bool false]) := Lib.hid (Blk.new wr 150 [.string ⟨#[]⟩, .int .i64 0, .bool false])
        have HTZ : Hid (World.there (wr.alloc (.cells #[.string ⟨#[]⟩, .int .i64 0, .bool false] 150)) (wr.heap.size) 0 (List.toArray ([.string ⟨#[]⟩, .int .i64 0, .bool false] : List Value)).size) := Lib.hid (HX.out.there 0 3 (by simp))
        have hsZ : Hid ((Try.prog.info? 150).map (·.size) = some (List.toArray ([.string ⟨#[]⟩, .int .i64 0, .bool false] : List Value)).size) := Lib.hid (by kernel_rfl)
        have h1Z : Hid ((List.toArray ([.string ⟨#[]⟩, .int .i64 0, .bool false] : List Value)).all (·.oneCell') = true) := Lib.hid (all_oneCell_toArray (by simp [Value.oneCell']))
        have hbw3 : Below wr.heap.size wr ((wr.alloc (.cells #[.string ⟨#[]⟩, .int .i64 0, .bool false] 150)).setCells (wr.heap.size) 0 [.string ⟨#[]⟩, .int .i64 0, .bool false]) := ((Below.refl _ _).alloc (Nat.le_refl _) _).trans (below_setCells_ hgx 0 [.string ⟨#[]⟩, .int .i64 0, .bool false])
        have HR := Lib.hid (HA.out.below_ hbw3)
        have HB : Hid (Below base wr ((wr.alloc (.cells #[.string ⟨#[]⟩, .int .i64 0, .bool false] 150)).setCells (wr.heap.size) 0 [.string ⟨#[]⟩, .int .i64 0, .bool false])) := Lib.hid (hbw3.mono hbs)
        have HKK := HK
        replace HK : Hid (Keeps [144, 142] wr ((wr.alloc (.cells #[.string ⟨#[]⟩, .int .i64 0, .bool false] 150)).setCells (wr.heap.size) 0 [.string ⟨#[]⟩, .int .i64 0, .bool false])) := Lib.hid (Keeps.of_below hbw3 (Nat.le_refl _))
        replace HX : Hid (Blk ((wr.alloc (.cells #[.string ⟨#[]⟩, .int .i64 0, .bool false] 150)).setCells (wr.heap.size) 0 [.string ⟨#[]⟩, .int .i64 0, .bool false]) wr.heap.size 150 [.string ⟨#[]⟩, .int .i64 0, .bool false]) := Lib.hid (HX.out.setCells0 [.string ⟨#[]⟩, .int .i64 0, .bool false] rfl)
        replace HO := Lib.hid (own_setCells hob 0 [.string ⟨#[]⟩, .int .i64 0, .bool false] (HO.out.alloc (.cells #[.string ⟨#[]⟩, .int .i64 0, .bool false] 150)))
        clear hbw3
        go_wp2_with (with_reducible refine wpList_store_mid rfl 150 _ _ rfl (wr.heap.size) 0 (List.toArray ([.string ⟨#[]⟩, .int .i64 0, .bool false] : List Value)) rfl rfl HTZ.out hsZ.out h1Z.out ?_)
        refine (C_text base g (iterO shColumn j o1) _ HR.out).mono ?_
        rintro e u0 ⟨⟨v, rfl, _⟩, hA, hK⟩
        obtain ⟨bu0, rfl⟩ : ∃ x, x = v := ⟨v, rfl⟩
        replace HR := Lib.hid hA
        replace HB := Lib.hid (HB.out.trans hK.below)
        replace HK := Lib.hid (HK.out.trans hK.keeps)
        replace HX := Lib.hid (HX.out.keeps hK.keeps (by decide))
        replace HO := Lib.hid (HO.out.keeps hK.keeps (by decide))
        have hszu0 := HK.out.size
        clear hA hK
        have hcxu0_0 : u0.cell? ⟨wr.heap.size, 0, none⟩ = some (.string ⟨#[]⟩) := HX.out.cell 0
        have hfzu0_0 : u0.frozen? ⟨wr.heap.size, 0, none⟩ = false := HX.out.frozen 0
        have HY : Hid (Blk (u0.setCell ⟨wr.heap.size, 0, none⟩ (.string bu0)) (wr.heap.size) 150 [.string bu0, .int .i64 0, .bool false]) := Lib.hid (HX.out.set_ 0 (.string bu0))
        have HKA : Hid (Keeps [150] u0 (u0.setCell ⟨wr.heap.size, 0, none⟩ (.string bu0))) := Lib.hid ((Keeps.refl _ _).trans (Keeps.set_ HX.out.typ (by simp) (.string bu0)))
        have HBA : Hid (Below wr.heap.size u0 (u0.setCell ⟨wr.heap.size, 0, none⟩ (.string bu0))) := Lib.hid ((Below.refl wr.heap.size u0).setCell hgx _)
        replace HO := Lib.hid (own_set HO.out hob 0 (.string bu0))
        replace HX := HY
        replace HR := Lib.hid (HR.out.keeps HKA.out (HBA.out.mono hbs) (by decide) (by decide))
        replace HB := Lib.hid (HB.out.trans (HBA.out.mono hbs))
        replace HK := Lib.hid (HK.out.below_new HBA.out)
        clear HY HKA HBA
        go_wp2_with fail
        refine (C_num base g (stepO .text (iterO shColumn j o1)) _ HR.out).mono ?_
        rintro e u1 ⟨⟨v, rfl, _⟩, hA, hK⟩
        obtain ⟨nu1, rfl⟩ : ∃ x, x = v := ⟨v, rfl⟩
        replace HR := Lib.hid hA
        replace HB := Lib.hid (HB.out.trans hK.below)
        replace HK := Lib.hid (HK.out.trans hK.keeps)
        replace HX := Lib.hid (HX.out.keeps hK.keeps (by decide))
        replace HO := Lib.hid (HO.out.keeps hK.keeps (by decide))
        have hszu1 := HK.out.size
        clear hA hK
        have hcxu1_0 : u1.cell? ⟨wr.heap.size, 1, none⟩ = some (.int .i64 0) := HX.out.cell 1
        have hfzu1_0 : u1.frozen? ⟨wr.heap.size, 1, none⟩ = false := HX.out.frozen 1
        have HY : Hid (Blk (u1.setCell ⟨wr.heap.size, 1, none⟩ (.int .i64 nu1)) (wr.heap.size) 150 [.string bu0, .int .i64 nu1, .bool false]) := Lib.hid (HX.out.set_ 1 (.int .i64 nu1))
        have HKA : Hid (Keeps [150] u1 (u1.setCell ⟨wr.heap.size, 1, none⟩ (.int .i64 nu1))) := Lib.hid ((Keeps.refl _ _).trans (Keeps.set_ HX.out.typ (by simp) (.int .i64 nu1)))
        have HBA : Hid (Below wr.heap.size u1 (u1.setCell ⟨wr.heap.size, 1, none⟩ (.int .i64 nu1))) := Lib.hid ((Below.refl wr.heap.size u1).setCell hgx _)
        replace HO := Lib.hid (own_set HO.out hob 1 (.int .i64 nu1))
        replace HX := HY
        replace HR := Lib.hid (HR.out.keeps HKA.out (HBA.out.mono hbs) (by decide) (by decide))
        replace HB := Lib.hid (HB.out.trans (HBA.out.mono hbs))
        replace HK := Lib.hid (HK.out.below_new HBA.out)
        clear HY HKA HBA
        go_wp2_with fail
        refine (C_flag base g (stepO .num (stepO .text (iterO shColumn j o1))) _ HR.out).mono ?_
        rintro e u2 ⟨⟨v, rfl⟩, hA, hK⟩
        obtain ⟨fu2, rfl⟩ : ∃ x, x = v := ⟨v, rfl⟩
        replace HR := Lib.hid hA
        replace HB := Lib.hid (HB.out.trans hK.below)
        replace HK := Lib.hid (HK.out.trans hK.keeps)
        replace HX := Lib.hid (HX.out.keeps hK.keeps (by decide))
        replace HO := Lib.hid (HO.out.keeps hK.keeps (by decide))
        have hszu2 := HK.out.size
        clear hA hK
        have hcxu2_0 : u2.cell? ⟨wr.heap.size, 2, none⟩ = some (.bool false) := HX.out.cell 2
        have hfzu2_0 : u2.frozen? ⟨wr.heap.size, 2, none⟩ = false := HX.out.frozen 2
        have HY : Hid (Blk (u2.setCell ⟨wr.heap.size, 2, none⟩ (.bool fu2)) (wr.heap.size) 150 [.string bu0, .int .i64 nu1, .bool fu2]) := Lib.hid (HX.out.set_ 2 (.bool fu2))
        have HKA : Hid (Keeps [150] u2 (u2.setCell ⟨wr.heap.size, 2, none⟩ (.bool fu2))) := Lib.hid ((Keeps.refl _ _).trans (Keeps.set_ HX.out.typ (by simp) (.bool fu2)))
        have HBA : Hid (Below wr.heap.size u2 (u2.setCell ⟨wr.heap.size, 2, none⟩ (.bool fu2))) := Lib.hid ((Below.refl wr.heap.size u2).setCell hgx _)
        replace HO := Lib.hid (own_set HO.out hob 2 (.bool fu2))
        replace HX := HY
        replace HR := Lib.hid (HR.out.keeps HKA.out (HBA.out.mono hbs) (by decide) (by decide))
        replace HB := Lib.hid (HB.out.trans (HBA.out.mono hbs))
        replace HK := Lib.hid (HK.out.below_new HBA.out)
        clear HY HKA HBA
        have hst : stepO .flag (stepO .num (stepO .text (iterO shColumn j o1))) = iterO shColumn (j + 1) o1 := by rw [iterO_succ]; show _ = stepS [.text, .num, .flag] _; simp only [stepS_cons, stepS_nil]
        rw [hst] at HR
        have HA2 := HR
        have HK2 : Hid (Cuts base w (u2.setCell ⟨wr.heap.size, 2, none⟩ (.bool fu2))) := Lib.hid ⟨HKK.out.below.trans HB.out, HKK.out.keeps.trans HK.out⟩
        have HO2 := HO
        have hsz2 := HK.out.size
        have HRG := Lib.hid HX.out.range0
        have hiV : Hid ((Try.prog.info? 150).map (·.size) = some (List.length ([.string bu0, .int .i64 nu1, .bool fu2] : List Value))) := Lib.hid (by kernel_rfl)
        clear HKK HB HK HA HO HR hst hcb2 HX HTZ
        have HNB : Hid (Blk ((u2.setCell ⟨wr.heap.size, 2, none⟩ (.bool fu2)).alloc (.cells #[.string bu0, .int .i64 nu1, .bool fu2] 150)) u2.heap.size 150 [.string bu0, .int .i64 nu1, .bool fu2]) := Lib.hid (by have := Blk.new (u2.setCell ⟨wr.heap.size, 2, none⟩ (.bool fu2)) 150 [.string bu0, .int .i64 nu1, .bool fu2]; rwa [show (u2.setCell ⟨wr.heap.size, 2, none⟩ (.bool fu2)).heap.size = u2.heap.size by simp] at this)
        go_wp2_with (first | (with_reducible refine wpList_load_mid rfl 150 _ rfl wr.heap.size 0 rfl [.string bu0, .int .i64 nu1, .bool fu2] _ HRG.out Try.underlying150 rfl hiV.out ?_) | (at_builtin; refine wpList_appN rfl _ _ 42 rfl w.heap.size 150 i0 _ 3 i0.bytes Try.underlying42 HI.out.1 HI.out.2.1 HI.out.2.2 rfl rfl (by decide) (.slice A j c) j xs rfl (HO2.out.alloc _) ⟨u2.heap.size, 0, none⟩ 1 [.string bu0, .int .i64 nu1, .bool fu2] rfl rfl HNB.out.news (by simp [Value.oneCell']) (by unfold maxLen; omega) (Nat.le_trans (Nat.mul_le_mul_right _ (by omega)) (Nat.le_trans hby (by decide))) (by simp; omega) ?_; intro A3 c3 w3 HO3 HG3))
        have HKA : Hid (Keeps [150] (u2.setCell ⟨wr.heap.size, 2, none⟩ (.bool fu2)) w3) := Lib.hid ((Keeps.alloc (u2.setCell ⟨wr.heap.size, 2, none⟩ (.bool fu2)) _).trans (Keeps.grown (HO2.out.alloc _) HG3.out (by simp) HG3.out.size))
        have HBA : Hid (Below base (u2.setCell ⟨wr.heap.size, 2, none⟩ (.bool fu2)) w3) := Lib.hid (((Below.refl _ _).alloc (by omega) _).grown HG3.out (by simp; omega) (by intro k hk; have := own_block_ge HO2.out k hk; omega))
        have hrel : ∃ (j' : Nat) (A : Option Addr) (c : Nat) (xs : List Value), j' ≤ N ∧ Value.int .i64 ((j : Int) + 1) = .int .i64 j' ∧ Value.slice A3 (j + 1) c3 = .slice A j' c ∧ Hid (CutAt w3 base g (iterO shColumn j' o1)) ∧ Hid (w3.ownsRow w.heap.size 150 3 (.slice A j' c) j' xs) ∧ Hid (Cuts base w w3) ∧ w.heap.size ≤ w3.heap.size := by
          refine ⟨j + 1, A3, c3, _, by omega, by simp, rfl, Lib.hid (HA2.out.keeps HKA.out HBA.out (by decide) (by decide)), HO3, Lib.hid ⟨HK2.out.below.trans HBA.out, ?_⟩, by have := HKA.out.size; omega⟩
          exact (HK2.out.keeps.then_below ((Below.refl _ _).alloc (Nat.le_refl _) _)).grown_new HG3.out (fun k hk => by have := own_block_ge HO2.out k hk; omega)
        clear HKA HBA HO3 HG3 HO2 HA2 HK2
        go_wp2
        go_roundw
        case rel => obtain ⟨j', A, c, xs, h1, h2, h3⟩ := hrel; exact ⟨j', A, c, xs, h1, by rw [← h2], h3⟩
        case measure => simp [intOf]; omega
    · cases nb with
      | true =>
        go_wp2
        go_ret
        refine ⟨⟨A, j, c, rfl⟩, ?_, HK.out⟩
        obtain rfl : j = N := by omega
        rw [HR.out]
        exact HA.out
      | false =>
        go_wp2
        go_ret
        refine ⟨⟨A, j, c, rfl⟩, ?_, HK.out⟩
        obtain rfl : j = N := by omega
        rw [HR.out]
        exact HA.out

end Go.Proofs.Yteohhgkehkmgcaa
