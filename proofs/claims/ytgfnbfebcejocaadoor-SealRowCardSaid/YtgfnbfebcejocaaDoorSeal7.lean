/- The walks of package seal, on: SealAll; frames in a row, cut off. -/
import Derived.Test.YtgfnbfebcejocaaDoorSame
namespace Go.Proofs.YtgfnbfebcejocaaDoor
open Go.RowKit Le

theorem Lists.kept_ {w w' : World} {base g : Nat} {v : Value} {bs : List (List UInt8)} (h : Lists w base (OwnB w base) v bs) (hg : w.grownBy w' (some g)) (hlt : g < base) : Lists w' base (OwnB w' base) v bs := by
  obtain ⟨xs, hO, hE⟩ := h.own
  refine ⟨xs, hO.kept hg ?_, hE.imp fun x b (hx : OwnB w base x b) => World.ownsRow.kept hx hg ?_⟩
  · exact .inr fun e => by have := (hO.lt _ e).1; omega
  · exact .inr fun e => by have := (World.ownsRow.lt hx _ e).1; omega
theorem Lists.below_ {w w' : World} {base : Nat} {v : Value} {bs : List (List UInt8)} (h : Lists w base (OwnB w base) v bs) (hb : Below w.heap.size w w') : Lists w' base (OwnB w' base) v bs := by
  obtain ⟨xs, hO, hE⟩ := h.own
  exact ⟨xs, hO.below_ hb, hE.imp fun x b (hx : OwnB w base x b) => hx.below hb⟩
theorem Lists.own_row {w : World} {base : Nat} {A : Option Addr} {n c : Nat} {bs : List (List UInt8)} (h : Lists w base (OwnB w base) (.slice A n c) bs) (hn : bs.length = n) : RowB w A n bs := h.row hn fun _ _ hx => OwnB.rd hx
theorem Lists.rd_row {w : World} {base B : Nat} {A : Option Addr} {n c : Nat} {bs : List (List UInt8)} (h : Lists w base (RdB w B) (.slice A n c) bs) (hn : bs.length = n) (hB : B ≤ w.heap.size) : RowB w A n bs := h.row hn fun _ _ hx => RdB.more hx hB

theorem allOf_len (l : List UInt8) : (allOf l).1.length ≤ l.length := by
  unfold allOf
  split
  · simp
  · split
    · rename_i h h2
      have hp := firstOf_pos h2
      have := allOf_len (l.drop (firstOf l).2.1)
      rw [List.length_drop] at this
      simp only [List.length_cons]
      omega
    · simp
termination_by l.length
decreasing_by
  rename_i h2
  have := firstOf_pos h2
  rw [List.length_drop]
  omega

set_option maxHeartbeats 1600000 in
theorem sealAll_small (A : Option Addr) (n c : Nat) (l : List UInt8) (w : World) (hT : Tab w) (hb : Reads w w.heap.size A n (u8s l)) (hnc : n ≤ c) (hn : n ≤ 2097152) :
    Calls Tryd.prog 8 #[.slice A n c] w fun e w' => e = .returned (.bool true) ∧ Below w.heap.size w w' := by
  have HL := Lib.hid (reads_len hb)
  have HT := Lib.hid hT
  clear hT
  go_enter Tryd.func8, Tryd.ntmps8
  go_wp2_with fail
  refine (lend_any A n c l w hb (by omega)).mono ?_
  rintro e w1 ⟨rfl, hX, hw1⟩
  have HX := Lib.hid hX
  have z1 := hX.lt
  have HT1 := Lib.hid (HT.out.below hw1 HT.out.lt)
  have HB1 := Lib.hid (hb.below hw1)
  have HN := Lib.hid (allOf_len l)
  clear hX hb
  go_wp2_with fail
  refine (all_any _ n (n + 2) l w1 HT1.out (lent_reads HX.out HL.out) (by omega) (by omega)).mono ?_
  obtain ⟨⟨bs, K, E⟩, HF⟩ : ∃ R, Hid (allOf l = R) := ⟨_, Lib.hid rfl⟩
  rw [HF.out] at HN ⊢
  obtain ⟨m, HM⟩ : ∃ m, Hid (bs.length = m) := ⟨_, Lib.hid rfl⟩
  have hm : m ≤ 2097152 := by have h1 := HN.out; have h2 := HM.out; have h3 := HL.out; dsimp only at h1; omega
  dsimp only
  rw [HM.out]
  rintro e w2 ⟨A2, c2, rfl, hL2, hw2⟩
  have HL2 := Lib.hid hL2
  have HX2 := Lib.hid (HX.out.below hw2 z1)
  have HB2 := Lib.hid (HB1.out.below (hw2.mono (by omega)))
  have HW2 := Lib.hid (hw1.trans (hw2.mono (by omega)))
  clear hL2 hw2 HX HB1 HT1 hw1 HN
  go_wp2_with fail
  refine (back_any A n c w.heap.size w.heap.size l w2 HB2.out (Nat.le_refl _) HX2.out (by omega)).mono ?_
  rintro e w3 ⟨rfl, hg3⟩
  have HW3 := Lib.hid (HW2.out.grown hg3 HW2.out.size (by intro k hk; injection hk with hk; omega))
  have HB3 := Lib.hid (HB2.out.grown hg3 HW2.out.size (by intro k hk; injection hk with hk; omega))
  have HM3 := Lib.hid (HL2.out.kept_ hg3 z1)
  clear hg3 HW2 HB2 HL2 HX2
  have z3 := HW3.out.size
  go_wp2_with fail
  refine (refAll_any A n c l w3 (HB3.out.more z3) hnc (by omega)).mono ?_
  rw [HF.out]
  dsimp only
  rw [HM.out]
  rintro e w4 ⟨A4, c4, rfl, hR4, hw4⟩
  have HW4 := Lib.hid (HW3.out.trans (hw4.mono z3))
  have HR4 := Lib.hid (hR4.rd_row HM.out hw4.size)
  have HO4 := Lib.hid ((HM3.out.below_ hw4).own_row HM.out)
  have HT4 := Lib.hid (HT.out.below HW4.out HT.out.lt)
  have z4 := hw4.size
  clear hR4 hw4 HW3 HB3 HM3 HF
  go_wp2_with fail
  refine (finds_any w4 HT4.out).mono ?_
  rintro e w5 ⟨rfl, hw5⟩
  have HW5 := Lib.hid (HW4.out.trans (hw5.mono HW4.out.size))
  have HR5 := Lib.hid (HR4.out.below hw5)
  have HO5 := Lib.hid (HO4.out.below hw5)
  clear hw5 HW4 HO4 HR4 HT4
  go_wp2_with fail
  refine (same_any A2 A4 m m c2 c4 bs bs w5 HO5.out HR5.out (by omega) (by omega)).mono ?_
  rw [decide_eq_true rfl]
  rintro e w6 ⟨rfl, k, rfl⟩
  go_wp2
  go_ret
  exact ⟨by (simp) <;> rfl, HW5.out.drewN k⟩

set_option maxHeartbeats 400000 in
theorem sealAll_big (A : Option Addr) (n c : Nat) (w : World) (hn : 2097152 < n) :
    Calls Tryd.prog 8 #[.slice A n c] w fun e w' => e = .returned (.bool true) ∧ Below w.heap.size w w' := by
  go_enter Tryd.func8, Tryd.ntmps8
  go_wp2
  go_ret
  exact ⟨rfl, Below.refl _ _⟩

/-! ### Frames in a row. -/
theorem allOf_nil : allOf [] = ([], 0, 0) := by unfold allOf; rw [dif_pos rfl]
theorem allOf_frame (l L : List UInt8) (h : l.length ≤ 1048576) : allOf (frameOf l ++ L) = (l :: (allOf L).1, 8 + l.length + (allOf L).2.1, (allOf L).2.2) := by
  have hne : frameOf l ++ L ≠ [] := by
    intro e
    have := congrArg List.length e
    simp at this
  have hf := first_frame l L h
  have hd : (frameOf l ++ L).drop (8 + l.length) = L := List.drop_left' (by simp)
  rw [allOf, dif_neg hne, dif_pos (by rw [hf])]
  rw [hf]
  dsimp only
  rw [hd]
def flat (ls : List (List UInt8)) : List UInt8 := ls.flatMap frameOf
theorem flat_cons (l : List UInt8) (ls : List (List UInt8)) : flat (l :: ls) = frameOf l ++ flat ls := by simp [flat]
theorem flat_snoc (ls : List (List UInt8)) (l : List UInt8) : flat (ls ++ [l]) = flat ls ++ frameOf l := by simp [flat]
theorem allOf_flat (ls : List (List UInt8)) (h : ∀ l ∈ ls, l.length ≤ 1048576) : allOf (flat ls) = (ls, (flat ls).length, 0) := by
  induction ls with
  | nil => exact allOf_nil
  | cons l ls ih =>
    rw [flat_cons, allOf_frame l _ (h l (by simp)), ih (fun x hx => h x (by simp [hx]))]
    simp
theorem first_cut (l L : List UInt8) (k : Nat) (h : l.length ≤ 1048576) (hk : k < 8 + l.length) : firstOf ((frameOf l ++ L).take k) = ([], 0, 20) := by
  have hlen : ((frameOf l ++ L).take k).length = k := by rw [List.length_take, List.length_append, frameOf_length]; omega
  unfold firstOf
  rw [hlen]
  by_cases h8 : k < 8
  · rw [if_pos h8]
  · have hn : num (((frameOf l ++ L).take k).take 4) = l.length := by
      rw [List.take_take, Nat.min_eq_left (by omega)]
      exact num_frame l L h
    rw [if_neg h8, hn, if_neg (by omega), if_pos hk]
theorem allOf_cut (ls : List (List UInt8)) (h : ∀ l ∈ ls, l.length ≤ 1048576) (cut : Nat) (hc : cut ≤ (flat ls).length) :
    ∃ k n e, allOf ((flat ls).take cut) = (ls.take k, n, e) ∧ k ≤ ls.length ∧ n ≤ cut ∧ ((e = 0 ∧ n = cut) ∨ (e = 20 ∧ n ≠ cut)) := by
  induction ls generalizing cut with
  | nil =>
    have : cut = 0 := by simpa [flat] using hc
    subst this
    exact ⟨0, 0, 0, by rw [List.take_zero]; exact allOf_nil, by simp, by omega, .inl ⟨rfl, rfl⟩⟩
  | cons l ls ih =>
    rw [flat_cons] at hc ⊢
    have hl := h l (by simp)
    rcases Nat.eq_zero_or_pos cut with h0 | h0
    · subst h0
      exact ⟨0, 0, 0, by rw [List.take_zero]; exact allOf_nil, by simp, by omega, .inl ⟨rfl, rfl⟩⟩
    · by_cases hlt : cut < 8 + l.length
      · have hf := first_cut l (flat ls) cut hl hlt
        have hne : (frameOf l ++ flat ls).take cut ≠ [] := by
          intro e
          have := congrArg List.length e
          rw [List.length_take] at this
          simp at this
          omega
        refine ⟨0, 0, 20, ?_, by simp, by omega, .inr ⟨rfl, by omega⟩⟩
        rw [allOf, dif_neg hne, dif_neg (by rw [hf]; simp), hf]
        simp
      · rw [List.length_append, frameOf_length] at hc
        obtain ⟨k, n, e, he, hk, hn, hor⟩ := ih (fun x hx => h x (by simp [hx])) (cut - (8 + l.length)) (by omega)
        refine ⟨k + 1, 8 + l.length + n, e, ?_, by simpa using hk, by omega, ?_⟩
        · rw [List.take_append, List.take_of_length_le (by rw [frameOf_length]; omega), frameOf_length, allOf_frame l _ hl, he]
          simp
        · rcases hor with ⟨h1, h2⟩ | ⟨h1, h2⟩
          · exact .inl ⟨h1, by omega⟩
          · exact .inr ⟨h1, by omega⟩
end Go.Proofs.YtgfnbfebcejocaaDoor
