/- Joined by mkmerge.py from the proof's texts Seal6, Same, Seal7. Conditions: each theorem's own hypotheses. -/
import Derived.Test.YtkdmfjpfanmgmaaGreatDoorM31
import Derived.Lib.OwnKind
import Derived.WalkMore
namespace Go.Proofs.YtkdmfjpfanmgmaaGreatDoor
open Go.RowKit Le
set_option maxRecDepth 100000
theorem firstOf_pos {l : List UInt8} (h : (firstOf l).2.2 = 0) : 8 ≤ (firstOf l).2.1 ∧ (firstOf l).2.1 ≤ l.length ∧ (firstOf l).2.1 = 8 + (firstOf l).1.length := by
  revert h
  unfold firstOf bodyOf
  repeat' split
  all_goals simp
  all_goals omega
theorem firstOf_le (l : List UInt8) : (firstOf l).2.1 ≤ l.length ∧ (firstOf l).2.2 ≤ 21 := by
  unfold firstOf bodyOf
  repeat' split
  all_goals simp
  all_goals omega
/-- All frames of bytes: their bodies, how many bytes they take, the error. -/
def allOf (l : List UInt8) : List (List UInt8) × Nat × Nat :=
  if _h : l = [] then ([], 0, 0)
  else if _h2 : (firstOf l).2.2 = 0 then
    ((firstOf l).1 :: (allOf (l.drop (firstOf l).2.1)).1, (firstOf l).2.1 + (allOf (l.drop (firstOf l).2.1)).2.1, (allOf (l.drop (firstOf l).2.1)).2.2)
  else ([], 0, (firstOf l).2.2)
termination_by l.length
decreasing_by
  all_goals
    have h3 := firstOf_pos _h2
    rw [List.length_drop]
    omega
theorem allOf_stop {l : List UInt8} (hne : l ≠ []) (he : (firstOf l).2.2 ≠ 0) : allOf l = ([], 0, (firstOf l).2.2) := by
  rw [allOf, dif_neg hne, dif_neg he]
theorem allOf_step {l : List UInt8} (hne : l ≠ []) (he : (firstOf l).2.2 = 0) : allOf l = ((firstOf l).1 :: (allOf (l.drop (firstOf l).2.1)).1, (firstOf l).2.1 + (allOf (l.drop (firstOf l).2.1)).2.1, (allOf (l.drop (firstOf l).2.1)).2.2) := by
  rw [allOf, dif_neg hne, dif_pos he]
/-- So far: the bodies bs are found, up to the place at. -/
def SoFar (l : List UInt8) (bs : List (List UInt8)) (at_ : Nat) : Prop :=
  allOf l = (bs ++ (allOf (l.drop at_)).1, at_ + (allOf (l.drop at_)).2.1, (allOf (l.drop at_)).2.2)
theorem SoFar.start (l : List UInt8) : SoFar l [] 0 := by simp [SoFar]
theorem SoFar.end_ {l : List UInt8} {bs : List (List UInt8)} {at_ : Nat} (h : SoFar l bs at_) (hl : l.length ≤ at_) : allOf l = (bs, at_, 0) := by
  unfold SoFar at h
  rw [List.drop_of_length_le hl] at h
  have e : allOf [] = ([], 0, 0) := by unfold allOf; rw [dif_pos rfl]
  rw [h, e]
  simp
theorem SoFar.stop {l : List UInt8} {bs : List (List UInt8)} {at_ : Nat} (h : SoFar l bs at_) (hl : at_ < l.length) (he : (firstOf (l.drop at_)).2.2 ≠ 0) : allOf l = (bs, at_, (firstOf (l.drop at_)).2.2) := by
  unfold SoFar at h
  have hne : l.drop at_ ≠ [] := by
    intro e
    have := congrArg List.length e
    rw [List.length_drop] at this
    simp at this
    omega
  rw [allOf_stop hne he] at h
  rw [h]
  simp
theorem SoFar.step {l : List UInt8} {bs : List (List UInt8)} {at_ : Nat} (h : SoFar l bs at_) (hl : at_ < l.length) (he : (firstOf (l.drop at_)).2.2 = 0) : SoFar l (bs ++ [(firstOf (l.drop at_)).1]) (at_ + (firstOf (l.drop at_)).2.1) := by
  unfold SoFar at h ⊢
  have hne : l.drop at_ ≠ [] := by
    intro e
    have := congrArg List.length e
    rw [List.length_drop] at this
    simp at this
    omega
  rw [allOf_step hne he, List.drop_drop] at h
  rw [h]
  simp [Nat.add_assoc]
/-! ### Rows of byte slices. -/
def Each (Q : Value → List UInt8 → Prop) (xs : List Value) (bs : List (List UInt8)) : Prop :=
  xs.length = bs.length ∧ ∀ (i : Nat) (x : Value) (b : List UInt8), xs[i]? = some x → bs[i]? = some b → Q x b
theorem Each.nil (Q : Value → List UInt8 → Prop) : Each Q [] [] := ⟨rfl, fun i x b h => by rw [List.getElem?_nil] at h; cases h⟩
theorem Each.snoc {Q : Value → List UInt8 → Prop} {xs : List Value} {bs : List (List UInt8)} (h : Each Q xs bs) {x : Value} {b : List UInt8} (hx : Q x b) : Each Q (xs ++ [x]) (bs ++ [b]) := by
  refine ⟨by simp [h.1], fun i y c hy hc => ?_⟩
  rcases Nat.lt_or_ge i xs.length with hi | hi
  · rw [List.getElem?_append_left hi] at hy
    rw [List.getElem?_append_left (by have := h.1; omega)] at hc
    exact h.2 i y c hy hc
  · rw [List.getElem?_append_right hi] at hy
    rw [List.getElem?_append_right (by have := h.1; omega)] at hc
    have hi0 : i - xs.length = 0 := by
      rcases Nat.eq_zero_or_pos (i - xs.length) with h0 | h0
      · exact h0
      · rw [List.getElem?_eq_none (by simp; omega)] at hy; cases hy
    have hj0 : i - bs.length = 0 := by have := h.1; omega
    rw [hi0] at hy
    rw [hj0] at hc
    simp at hy hc
    subst hy
    subst hc
    exact hx
theorem Each.imp {Q R : Value → List UInt8 → Prop} {xs : List Value} {bs : List (List UInt8)} (h : Each Q xs bs) (hi : ∀ x b, Q x b → R x b) : Each R xs bs :=
  ⟨h.1, fun i x b hx hb => hi x b (h.2 i x b hx hb)⟩
theorem Each.at_ {Q : Value → List UInt8 → Prop} {xs : List Value} {bs : List (List UInt8)} (h : Each Q xs bs) {i : Nat} (hi : i < bs.length) : ∃ x, xs[i]? = some x ∧ Q x (bs[i]'hi) := by
  have hx : i < xs.length := by have := h.1; omega
  exact ⟨xs[i]'hx, by simp [hx], h.2 i _ _ (by simp [hx]) (by simp [hi])⟩
/-- A slice value that is of the call's own, from base on. -/
def OwnB (w : World) (base : Nat) (v : Value) (b : List UInt8) : Prop := w.ownsRow base 5 1 v b.length (u8s b)
/-- A slice value that reads as bytes, in blocks below B. -/
def RdB (w : World) (B : Nat) (v : Value) (b : List UInt8) : Prop := ∃ A c, v = .slice A b.length c ∧ Reads w B A b.length (u8s b)
theorem OwnB.rd {w : World} {base : Nat} {v : Value} {b : List UInt8} (h : OwnB w base v b) : RdB w w.heap.size v b := by
  obtain ⟨A, c, rfl⟩ := own_slice h
  exact ⟨A, c, rfl, Reads.of_own h⟩
theorem RdB.one {w : World} {B : Nat} {v : Value} {b : List UInt8} (h : RdB w B v b) : v.oneCell' = true := by
  obtain ⟨A, c, rfl, _⟩ := h
  rfl
theorem OwnB.below {w w' : World} {base : Nat} {v : Value} {b : List UInt8} (h : OwnB w base v b) (hb : Below w.heap.size w w') : OwnB w' base v b := World.ownsRow.below_ h hb
theorem RdB.below {w w' : World} {B : Nat} {v : Value} {b : List UInt8} (h : RdB w B v b) (hb : Below B w w') : RdB w' B v b := by
  obtain ⟨A, c, rfl, hr⟩ := h
  exact ⟨A, c, rfl, hr.below hb⟩
theorem RdB.more {w : World} {B B' : Nat} {v : Value} {b : List UInt8} (h : RdB w B v b) (hB : B ≤ B') : RdB w B' v b := by
  obtain ⟨A, c, rfl, hr⟩ := h
  exact ⟨A, c, rfl, hr.more hB⟩
/-- Bytes of the call's own stay where a row of slices grows. -/
theorem OwnB.grown {w w' : World} {base base' : Nat} {v r : Value} {b : List UInt8} {n : Nat} {xs : List Value} (h : OwnB w base v b) (hr : w.ownsRow base' 72 1 r n xs) (hg : w.grownBy w' r.ownBlock) : OwnB w' base v b := by
  refine World.ownsRow.kept h hg ?_
  cases hv : v.ownBlock with
  | none => exact .inl rfl
  | some k =>
    refine .inr ?_
    intro e
    rcases h.2 with ⟨rfl, _⟩ | ⟨g, cap, cur, rfl, _, hg1, _⟩
    · simp [Value.ownBlock] at hv
    rcases hr.2 with ⟨rfl, _⟩ | ⟨g2, cap2, cur2, rfl, _, hg2, _⟩
    · simp [Value.ownBlock] at e
    simp [Value.ownBlock] at hv e
    rw [hv, e, hg2] at hg1
    simp at hg1
theorem info_sl : (Tryz.prog.info? 72).map (fun i => (i.zero, i.size, i.bytes)) = some (some (.slice none 0 0), 1, 24) := by kernel_rfl
/-- What the program's and the reference's lists of bodies are: the row is of the call's own, each slice in it has Q. -/
structure Lists (w : World) (base : Nat) (Q : Value → List UInt8 → Prop) (v : Value) (bs : List (List UInt8)) : Prop where
  own : ∃ xs, w.ownsRow base 72 1 v bs.length xs ∧ Each Q xs bs
theorem Lists.nil (w : World) (base : Nat) (Q : Value → List UInt8 → Prop) : Lists w base Q (.slice none 0 0) [] := ⟨[], ⟨rfl, .inl ⟨rfl, rfl⟩⟩, Each.nil Q⟩
set_option maxHeartbeats 1600000 in
theorem all_any (A : Option Addr) (n c : Nat) (l : List UInt8) (w : World) (hT : Tab w) (hb : Reads w w.heap.size A n (u8s l)) (hnc : n ≤ c) (hm40 : n ≤ 2147483648) :
    Calls Tryz.prog 96 #[.slice A n c] w fun e w' => ∃ A' c', e = .returned (.tuple #[.slice A' (allOf l).1.length c', .int .i64 (allOf l).2.1, .int .i64 (allOf l).2.2]) ∧ Lists w' w.heap.size (OwnB w' w.heap.size) (.slice A' (allOf l).1.length c') (allOf l).1 ∧ Below w.heap.size w w' := by
  obtain ⟨i0, hi0, hz0, hz1, hz2⟩ := info_parts info_sl
  have HL := Lib.hid (sreads_len hb)
  have HT := Lib.hid hT
  have HB := Lib.hid hb
  clear hT hb
  go_enter Tryz.func96, Tryz.ntmps96
  go_wp2
  go_step3
  go_wp2
  go_step3
  go_wp2
  go_loopw [5, 6, 7] (fun v i e wr => ∃ (at_ : Nat) (bs : List (List UInt8)) (A' : Option Addr) (m c' : Nat), at_ ≤ n ∧ m ≤ at_ ∧ i = .int .i64 at_ ∧ e = .int .i64 0 ∧ v = .slice A' m c' ∧ Hid (bs.length = m) ∧ Hid (SoFar l bs at_) ∧ Hid (Below w.heap.size w wr) ∧ Hid (Lists wr w.heap.size (OwnB wr w.heap.size) (.slice A' m c') bs)) (fun _ i _ _ => n - (intOf i).toNat)
  case atStart => exact ⟨0, [], none, 0, 0, Nat.zero_le _, Nat.le_refl _, rfl, rfl, rfl, Lib.hid rfl, Lib.hid (SoFar.start l), Lib.hid (Below.refl _ _), Lib.hid (Lists.nil _ _ _)⟩
  case round =>
    obtain ⟨at_, bs, A', m, c', hat, hma, rfl, rfl, rfl, HM, HS, HW, HLs⟩ := hrel
    by_cases hlt : at_ < n
    · have zr := HW.out.size
      have HTr := Lib.hid (HT.out.below HW.out HT.out.lt)
      obtain ⟨ad, hA, _, _⟩ := HB.out.2 (by omega)
      subst hA
      have hcut := reads_cut_u8 (HB.out.below HW.out) (k := at_) (c := c) (by omega) hnc
      have hca : ¬ c = at_ := by omega
      rw [if_neg hca] at hcut
      have C := first_any _ (n - at_) (c - at_) (l.drop at_) wr HTr.out (hcut.more zr) (by omega) (by omega)
      have HP := fun h => @firstOf_pos (l.drop at_) h
      have HE := (firstOf_le (l.drop at_)).2
      have HS1 := fun h => HS.out.step (by have := HL.out; omega) h
      have HS2 := fun h => HS.out.stop (by have := HL.out; omega) h
      have hdl : (l.drop at_).length = n - at_ := by rw [List.length_drop, HL.out]
      rw [hdl] at HP
      obtain ⟨⟨b, K, E⟩, HF⟩ : ∃ R, Hid (firstOf (l.drop at_) = R) := ⟨_, Lib.hid rfl⟩
      rw [HF.out] at C HP HS1 HS2 HE
      dsimp only at C HP HS1 HS2 HE
      have HC := Lib.hid C
      have HPP := Lib.hid HP
      have HSS1 := Lib.hid HS1
      have HSS2 := Lib.hid HS2
      clear C HP HS1 HS2 hcut HF HTr HS hdl
      by_cases hE : E = 0
      · subst hE
        obtain ⟨hK8, hKl, hKb⟩ := HPP.out (by simp)
        clear hKb
        clear HPP HSS2 HE
        go_wp2_with fail
        refine (unhide HC).mono ?_
        rintro e w1 ⟨A1, c1, rfl, hM⟩
        obtain ⟨xs, hO, hEa⟩ := HLs.out.own
        rw [HM.out] at hO
        have z1 := hM.below.size
        have HO1 := Lib.hid (hO.below_ hM.below)
        have HE1 := Lib.hid (hEa.imp (fun x b (h : OwnB wr w.heap.size x b) => h.below hM.below))
        have HW1 := Lib.hid (HW.out.trans (hM.below.mono zr))
        have HB1 : Hid (OwnB w1 w.heap.size (.slice A1 b.length c1) b) := Lib.hid (own_mono hM.own zr)
        have zw1 := HW1.out.size
        clear hM hO hEa HLs HC
        go_wp2_with (at_builtin; refine wpList_app rfl _ _ _ rfl w.heap.size 72 i0 _ 24 Tryz.underlying154 hi0 hz0 hz1 hz2 rfl (.slice A' m c') m xs rfl (HO1.out.alloc _) _ _ 1 1 _ rfl (Reads.new1 w1 _ _) (fun u hu => by simp at hu; subst hu; rfl) (by unfold maxLen; omega) (by omega) (by simp; omega) w (HW1.out.alloc zw1 _) ?_; intro A3 c3 w3 HO3 hb3 HG3)
        have HW3 := Lib.hid hb3
        have HA1 : Hid (Below w1.heap.size w1 (w1.alloc (.cells #[.slice A1 b.length c1] 72))) := Lib.hid ((Below.refl _ _).alloc (Nat.le_refl _) _)
        have HE3 := Lib.hid (HE1.out.imp (fun x b (h : OwnB w1 w.heap.size x b) => (h.below HA1.out).grown (HO1.out.alloc _) HG3.out))
        have HB3 := Lib.hid ((HB1.out.below HA1.out).grown (HO1.out.alloc _) HG3.out)
        go_roundw
        case rel => exact ⟨at_ + K, bs ++ [b], A3, m + 1, c3, by omega, by omega, rfl, rfl, rfl, Lib.hid (by simp [HM.out]), Lib.hid (HSS1.out (by simp)), HW3, Lib.hid ⟨_, by rw [List.length_append, HM.out]; exact HO3.out, HE3.out.snoc HB3.out⟩⟩
        case measure => simp [intOf]; omega
      · have HA := Lib.hid (HSS2.out (by simpa using hE))
        have t0 : ¬ (E : Int) = 0 := by omega
        have t1 : ((E : Int) == 0) = false := by simpa using t0
        have t2 : ((E : Int) != 0) = true := by simpa using t0
        clear HPP HSS1 HSS2
        go_wp2_with fail
        refine (unhide HC).mono ?_
        rintro e w1 ⟨A1, c1, rfl, hM⟩
        obtain ⟨xs, hO, hEa⟩ := HLs.out.own
        have HO1 := Lib.hid (hO.below_ hM.below)
        have HE1 := Lib.hid (hEa.imp (fun x b (h : OwnB wr w.heap.size x b) => h.below hM.below))
        have HW1 := Lib.hid (HW.out.trans (hM.below.mono zr))
        clear hM hO hEa HLs HC
        go_wp2
        try rw [Exit.noGoto_ret]
        go_ret3
        rw [HA.out]
        exact ⟨A', c', by rw [← HM.out]; rfl, ⟨xs, by have h := HO1.out; rw [← HM.out] at h; exact h, HE1.out⟩, HW1.out⟩
    · obtain rfl : at_ = n := by omega
      have HA := Lib.hid (HS.out.end_ (by have := HL.out; omega))
      go_wp2
      try rw [Exit.noGoto_ret]
      go_ret3
      rw [HA.out]
      refine ⟨A', c', by rw [← HM.out]; rfl, ?_, HW.out⟩
      have h := HLs.out
      rw [← HM.out] at h
      exact h
end Go.Proofs.YtkdmfjpfanmgmaaGreatDoor
namespace Go.Proofs.YtkdmfjpfanmgmaaGreatDoor
open Go.RowKit Le
set_option maxRecDepth 100000
/-! ### Same -/
/-- A row of byte slices, as it reads. -/
def RowB (w : World) (A : Option Addr) (n : Nat) (bs : List (List UInt8)) : Prop := bs.length = n ∧ ∃ xs, Reads w w.heap.size A n xs ∧ Each (RdB w w.heap.size) xs bs
theorem RowB.below {w w' : World} {A : Option Addr} {n : Nat} {bs : List (List UInt8)} (h : RowB w A n bs) (hb : Below w.heap.size w w') : RowB w' A n bs := by
  obtain ⟨hl, xs, hr, he⟩ := h
  exact ⟨hl, xs, (hr.below hb).more hb.size, he.imp fun x b h => (h.below hb).more hb.size⟩
theorem Lists.row {w : World} {base : Nat} {A : Option Addr} {n c : Nat} {Q : Value → List UInt8 → Prop} {bs : List (List UInt8)} (h : Lists w base Q (.slice A n c) bs) (hn : bs.length = n) (hq : ∀ x b, Q x b → RdB w w.heap.size x b) : RowB w A n bs := by
  obtain ⟨xs, hO, hE⟩ := h.own
  refine ⟨hn, xs, ?_, hE.imp hq⟩
  rw [hn] at hO
  exact Reads.of_own hO
end Go.Proofs.YtkdmfjpfanmgmaaGreatDoor
namespace Go.Proofs.YtkdmfjpfanmgmaaGreatDoor
open Go.RowKit Le
set_option maxRecDepth 100000
theorem Lists.below_ {w w' : World} {base : Nat} {v : Value} {bs : List (List UInt8)} (h : Lists w base (OwnB w base) v bs) (hb : Below w.heap.size w w') : Lists w' base (OwnB w' base) v bs := by
  obtain ⟨xs, hO, hE⟩ := h.own
  exact ⟨xs, hO.below_ hb, hE.imp fun x b (hx : OwnB w base x b) => hx.below hb⟩
/-! ### Frames in a row. -/
theorem allOf_nil : allOf [] = ([], 0, 0) := by unfold allOf; rw [dif_pos rfl]
theorem allOf_frame (l L : List UInt8) (h : l.length ≤ 1048576) : allOf (frameOf l ++ L) = (l :: (allOf L).1, 8 + l.length + (allOf L).2.1, (allOf L).2.2) := by
  have hne : frameOf l ++ L ≠ [] := by
    intro e
    have := congrArg List.length e
    simp at this
  have hf := first_frame l L h
  have hd : (frameOf l ++ L).drop (8 + l.length) = L := List.drop_left' (by simp)
  rw [allOf, dif_neg hne, dif_pos (by rw [hf])]
  rw [hf]
  dsimp only
  rw [hd]
def flat (ls : List (List UInt8)) : List UInt8 := ls.flatMap frameOf
theorem flat_cons (l : List UInt8) (ls : List (List UInt8)) : flat (l :: ls) = frameOf l ++ flat ls := by simp [flat]
theorem flat_snoc (ls : List (List UInt8)) (l : List UInt8) : flat (ls ++ [l]) = flat ls ++ frameOf l := by simp [flat]
theorem allOf_flat (ls : List (List UInt8)) (h : ∀ l ∈ ls, l.length ≤ 1048576) : allOf (flat ls) = (ls, (flat ls).length, 0) := by
  induction ls with
  | nil => exact allOf_nil
  | cons l ls ih =>
    rw [flat_cons, allOf_frame l _ (h l (by simp)), ih (fun x hx => h x (by simp [hx]))]
    simp
end Go.Proofs.YtkdmfjpfanmgmaaGreatDoor
