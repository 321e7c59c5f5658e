/- The walks of the reference that lays: its four small methods. -/
import Derived.Test.YtkdmfjpfanmgmaaCut
import Derived.Test.YtkdmfjpfanmgmaaCel
namespace Go.Proofs.Ytkdmfjpfanmgmaa
open Go.RowKit Le
set_option maxRecDepth 100000

/-- The reference's Lay at block g: the bytes B, a row of its own from base on; the first error. -/
def LayAt (w : World) (base g : Nat) (s : St) : Prop :=
  ∃ A n c, Blk w g 82 [.slice A n c, .int .i64 s.2] ∧ w.ownsRow base 5 1 (.slice A n c) n (u8s s.1) ∧ base ≤ g

/-- What the reference's Lay leaves: what lies below base, and all blocks of other types. -/
structure Lays (base : Nat) (w w' : World) : Prop where
  below : Below base w w'
  keeps : Keeps [82, 5] w w'
theorem Lays.trans {base : Nat} {w w' w'' : World} (h : Lays base w w') (g : Lays base w' w'') : Lays base w w'' := ⟨h.below.trans g.below, h.keeps.trans g.keeps⟩
theorem Lays.refl (base : Nat) (w : World) : Lays base w w := ⟨Below.refl _ _, Keeps.refl _ _⟩
theorem Lays.alloc {base : Nat} {w : World} (h : base ≤ w.heap.size) (o : Obj) : Lays base w (w.alloc o) := ⟨(Below.refl _ _).alloc h o, Keeps.alloc w o⟩
theorem lays_end {base g n : Nat} {w w1 w3 : World} {v : Value} {xs cs : List Value} (hk : Keeps [82, 5] w w1) (hO : w1.ownsRow base 5 1 v n xs) (hG : w1.grownBy w3 v.ownBlock)
    (hB : Blk w3 g 82 cs) (hb : Below base w w3) (hbg : base ≤ g) (i : Nat) (u : Value) : Lays base w (w3.setCell ⟨g, i, none⟩ u) :=
  ⟨hb.setCell hbg _, (hk.trans (Keeps.grown hO hG (by simp) hG.size)).trans (Keeps.set_ hB.typ (by simp) u)⟩

theorem blk_own_ne {w : World} {g : Nat} {t e : TypeId} {cs : List Value} {base size n : Nat} {v : Value} {xs : List Value} (hg : Blk w g t cs) (h : w.ownsRow base e size v n xs) (hte : t ≠ e) : some g ≠ v.ownBlock := by
  intro he
  rcases h.2 with ⟨rfl, _⟩ | ⟨g', cap, cur, rfl, _, hg', _⟩
  · simp [Value.ownBlock] at he
  · simp [Value.ownBlock] at he
    subst he
    unfold Blk at hg
    rw [hg] at hg'
    simp at hg'
    exact hte hg'.2

/-- The row has grown, the Lay is told. -/
theorem lay_stored {w : World} {base g n c n0 c0 : Nat} {A A0 : Option Addr} {E : Nat} {xs : List Value} {B : List UInt8} (hB : Blk w g 82 [.slice A0 n0 c0, .int .i64 E])
    (hO : w.ownsRow base 5 1 (.slice A n c) n xs) (hbg : base ≤ g) (hx : u8s B = xs) : LayAt (w.setCell ⟨g, 0, none⟩ (.slice A n c)) base g (B, E) := by
  subst hx
  refine ⟨A, n, c, hB.set_ 0 (.slice A n c), hO.kept (grownBy_setCell (World.grownBy.refl _ _) 0 _) (.inr (blk_own_ne hB hO (by decide)).symm), hbg⟩

set_option maxHeartbeats 800000 in
theorem lay_number_ok (base g : Nat) (N : Int) (s : St) (w : World) (h : LayAt w base g s) (h0 : 0 ≤ N) (h1 : N ≤ 1000000000) (hs : s.1.length ≤ 1099511627776) :
    Calls Try.prog 61 #[.pointer (some ⟨g, 0, none⟩), .int .i64 N] w fun e w' => e = .returned (.tuple #[]) ∧ LayAt w' base g (layNum N s) ∧ Lays base w w' := by
  obtain ⟨i0, hi0, hz0, hz1, hz2⟩ := info_parts info_u8
  obtain ⟨A, n, c, hB, hO, hbg⟩ := h
  have hl := hB.lt
  have hn : s.1.length = n := by have := hO.1; simpa using this
  have HB := Lib.hid hB
  have HO := Lib.hid hO
  clear hB hO
  go_enter Try.func61, Try.ntmps61
  go_wp2_with fail
  refine (refNumber_ok N w h0 h1).mono ?_
  rintro e w1 ⟨A1, c1, rfl, hM⟩
  have HB1 := Lib.hid (HB.out.below hM.below hl)
  have HO1 := Lib.hid (HO.out.below_ hM.below)
  have HR1 := Lib.hid hM.reads
  have HW1 : Hid (Below base w w1) := Lib.hid (hM.below.mono (by omega))
  have z1 := hM.below.size
  have hc1 : w1.cell? ⟨g, 0, none⟩ = some (.slice A n c) := HB1.out.cell 0
  have hne := Lib.hid (blk_own_ne HB1.out HO1.out (by decide))
  have HK1 : Hid (Keeps [82, 5] w w1) := Lib.hid (Keeps.of_below hM.below (Nat.le_refl _))
  clear hM HB HO
  go_wp2_with (at_builtin; refine wpList_app rfl _ _ _ rfl base 5 i0 _ 1 Try.underlying59 hi0 hz0 hz1 hz2 rfl (.slice A n c) n _ rfl HO1.out _ _ 4 c1 _ rfl HR1.out (u8s_one _) (by unfold maxLen; omega) (by omega) (by omega) w HW1.out ?_; intro A3 c3 w3 HO3 hb3 HG3; have HB3 := Lib.hid (HB1.out.grown HG3.out hne.out); have hf3 : w3.frozen? ⟨g, 0, none⟩ = false := HB3.out.frozen 0; have hc3 : w3.cell? ⟨g, 0, none⟩ = some (.slice A n c) := HB3.out.cell 0)
  go_end0
  refine ⟨rfl, ?_, lays_end HK1.out HO1.out HG3.out HB3.out hb3 hbg _ _⟩
  unfold layNum
  rw [if_pos ⟨h0, h1⟩]
  exact lay_stored HB3.out HO3.out hbg (by simp [u8s_append])
/-- Nothing is laid (the argument is bad), the first error told. -/
theorem lay_failed {w w3 : World} {base g n c n0 c0 : Nat} {A A0 : Option Addr} {E E' : Nat} {xs : List Value} {B : List UInt8} (hB : Blk w g 82 [.slice A0 n0 c0, .int .i64 E])
    (hO : w.ownsRow base 5 1 (.slice A n c) n xs) (hbg : base ≤ g) (hx : u8s B = xs) (hw : w3 = w.setCell ⟨g, 0, none⟩ (.slice A n c)) (hE : E' = E) : LayAt w3 base g (B, E') := by
  subst hw
  subst hE
  exact lay_stored hB hO hbg hx

set_option maxHeartbeats 800000 in
theorem lay_number_no (base g : Nat) (N : Int) (s : St) (w : World) (h : LayAt w base g s) (h0 : N < 0 ∨ 1000000000 < N) (hs : s.1.length ≤ 1099511627776) :
    Calls Try.prog 61 #[.pointer (some ⟨g, 0, none⟩), .int .i64 N] w fun e w' => e = .returned (.tuple #[]) ∧ LayAt w' base g (layNum N s) ∧ Lays base w w' := by
  obtain ⟨i0, hi0, hz0, hz1, hz2⟩ := info_parts info_u8
  obtain ⟨A, n, c, hB, hO, hbg⟩ := h
  have hl := hB.lt
  have hn : s.1.length = n := by have := hO.1; simpa using this
  have HN : Hid (layNum N s = s.fail 1) := Lib.hid (by unfold layNum; rw [if_neg (by omega)])
  obtain ⟨B, E⟩ := s
  dsimp only at hs hn hB hO
  by_cases hE : E = 0
  · subst hE
    have hB2 := hB.set_ 1 (.int .i64 1)
    have hO2 : (w.setCell ⟨g, 1, none⟩ (.int .i64 1)).ownsRow base 5 1 (.slice A n c) n (u8s B) := hO.kept (grownBy_setCell (World.grownBy.refl _ _) 1 _) (.inr (blk_own_ne hB hO (by decide)).symm)
    have hc1 : w.cell? ⟨g, 1, none⟩ = some (.int .i64 0) := hB.cell 1
    have hf1 : w.frozen? ⟨g, 1, none⟩ = false := hB.frozen 1
    have HW1 : Hid (Below base w (w.setCell ⟨g, 1, none⟩ (.int .i64 1))) := Lib.hid ((Below.refl _ _).setCell hbg _)
    have hc2 : (w.setCell ⟨g, 1, none⟩ (.int .i64 1)).cell? ⟨g, 0, none⟩ = some (.slice A n c) := hB2.cell 0
    have HK1 : Hid (Keeps [82, 5] w (w.setCell ⟨g, 1, none⟩ (.int .i64 1))) := Lib.hid (Keeps.set_ hB.typ (by simp) _)
    have HB := Lib.hid hB2
    have HO := Lib.hid hO2
    have hz := HW1.out.size
    have hl2 := hB2.lt
    have hne := Lib.hid (blk_own_ne HB.out HO.out (by decide))
    clear hB hO hB2 hO2
    go_enter Try.func61, Try.ntmps61
    go_wp2_with fail
    refine (refNumber_no N w h0).mono ?_
    rintro e w' ⟨rfl, hww⟩
    subst hww
    go_wp2_with (at_builtin; refine wpList_app rfl _ _ _ rfl base 5 i0 _ 1 Try.underlying59 hi0 hz0 hz1 hz2 rfl (.slice A n c) n _ rfl HO.out 0 _ 0 0 [] rfl Reads.none_ (by simp) (by unfold maxLen; omega) (by omega) (by simp; omega) w HW1.out ?_; intro A3 c3 w3 HO3 hb3 HG3; have HB3 := Lib.hid (HB.out.grown HG3.out hne.out); have hf3 : w3.frozen? ⟨g, 0, none⟩ = false := HB3.out.frozen 0; have hc3 : w3.cell? ⟨g, 0, none⟩ = some (.slice A n c) := HB3.out.cell 0)
    go_end0
    refine ⟨rfl, ?_, lays_end HK1.out HO.out HG3.out HB3.out hb3 hbg _ _⟩
    rw [HN.out]
    exact lay_stored HB3.out HO3.out hbg (by simp)
  · have t1 : ((E : Int) == 0) = false := by simpa using hE
    have hc1 : w.cell? ⟨g, 1, none⟩ = some (.int .i64 E) := hB.cell 1
    have hc2 : w.cell? ⟨g, 0, none⟩ = some (.slice A n c) := hB.cell 0
    have HB := Lib.hid hB
    have HO := Lib.hid hO
    have hne := Lib.hid (blk_own_ne HB.out HO.out (by decide))
    have hE2 : St.fail (B, E) 1 = (B, E) := by simp [St.fail, hE]
    have HE2 := Lib.hid hE2
    clear hB hO hE2
    go_enter Try.func61, Try.ntmps61
    go_wp2_with fail
    refine (refNumber_no N w h0).mono ?_
    rintro e w' ⟨rfl, hww⟩
    subst hww
    go_wp2_with (at_builtin; refine wpList_app rfl _ _ _ rfl base 5 i0 _ 1 Try.underlying59 hi0 hz0 hz1 hz2 rfl (.slice A n c) n _ rfl HO.out 0 _ 0 0 [] rfl Reads.none_ (by simp) (by unfold maxLen; omega) (by omega) (by omega) w (Below.refl _ _) ?_; intro A3 c3 w3 HO3 hb3 HG3; have HB3 := Lib.hid (HB.out.grown HG3.out hne.out); have hf3 : w3.frozen? ⟨g, 0, none⟩ = false := HB3.out.frozen 0; have hc3 : w3.cell? ⟨g, 0, none⟩ = some (.slice A n c) := HB3.out.cell 0)
    go_end0
    refine ⟨rfl, ?_, lays_end (Keeps.refl _ _) HO.out HG3.out HB3.out hb3 hbg _ _⟩
    rw [HN.out, HE2.out]
    exact lay_stored HB3.out HO3.out hbg (by simp)
theorem text_data (l : List UInt8) : (text l).data.toList = l := by simp [text]

set_option maxHeartbeats 800000 in
theorem lay_text_ok (base g : Nat) (b : List UInt8) (s : St) (w : World) (h : LayAt w base g s) (h1 : b.length ≤ 65536) (hs : s.1.length ≤ 1099511627776) :
    Calls Try.prog 63 #[.pointer (some ⟨g, 0, none⟩), .string (text b)] w fun e w' => e = .returned (.tuple #[]) ∧ LayAt w' base g (layText b s) ∧ Lays base w w' := by
  obtain ⟨i0, hi0, hz0, hz1, hz2⟩ := info_parts info_u8
  obtain ⟨A, n, c, hB, hO, hbg⟩ := h
  have hl := hB.lt
  have hn : s.1.length = n := by have := hO.1; simpa using this
  have HB := Lib.hid hB
  have HO := Lib.hid hO
  clear hB hO
  go_enter Try.func63, Try.ntmps63
  go_wp2_with fail
  have C := refText_ok (text b) w (by rw [text_size]; exact h1)
  rw [text_size, text_data] at C
  refine C.mono ?_
  rintro e w1 ⟨A1, c1, rfl, hM⟩
  have HB1 := Lib.hid (HB.out.below hM.below hl)
  have HO1 := Lib.hid (HO.out.below_ hM.below)
  have HR1 := Lib.hid hM.reads
  have HW1 : Hid (Below base w w1) := Lib.hid (hM.below.mono (by omega))
  have z1 := hM.below.size
  have hc1 : w1.cell? ⟨g, 0, none⟩ = some (.slice A n c) := HB1.out.cell 0
  have hne := Lib.hid (blk_own_ne HB1.out HO1.out (by decide))
  have HK1 : Hid (Keeps [82, 5] w w1) := Lib.hid (Keeps.of_below hM.below (Nat.le_refl _))
  clear hM HB HO
  go_wp2_with (at_builtin; refine wpList_app rfl _ _ _ rfl base 5 i0 _ 1 Try.underlying59 hi0 hz0 hz1 hz2 rfl (.slice A n c) n _ rfl HO1.out _ _ (4 + b.length) c1 _ rfl HR1.out (u8s_one _) (by unfold maxLen; omega) (by omega) (by omega) w HW1.out ?_; intro A3 c3 w3 HO3 hb3 HG3; have HB3 := Lib.hid (HB1.out.grown HG3.out hne.out); have hf3 : w3.frozen? ⟨g, 0, none⟩ = false := HB3.out.frozen 0; have hc3 : w3.cell? ⟨g, 0, none⟩ = some (.slice A n c) := HB3.out.cell 0)
  go_end0
  refine ⟨rfl, ?_, lays_end HK1.out HO1.out HG3.out HB3.out hb3 hbg _ _⟩
  unfold layText
  rw [if_pos h1]
  exact lay_stored HB3.out HO3.out hbg (by simp [u8s_append])
set_option maxHeartbeats 800000 in
theorem lay_text_no (base g : Nat) (b : List UInt8) (s : St) (w : World) (h : LayAt w base g s) (h0 : 65536 < b.length) (hs : s.1.length ≤ 1099511627776) :
    Calls Try.prog 63 #[.pointer (some ⟨g, 0, none⟩), .string (text b)] w fun e w' => e = .returned (.tuple #[]) ∧ LayAt w' base g (layText b s) ∧ Lays base w w' := by
  obtain ⟨i0, hi0, hz0, hz1, hz2⟩ := info_parts info_u8
  obtain ⟨A, n, c, hB, hO, hbg⟩ := h
  have hl := hB.lt
  have hn : s.1.length = n := by have := hO.1; simpa using this
  have HN : Hid (layText b s = s.fail 2) := Lib.hid (by unfold layText; rw [if_neg (by omega)])
  obtain ⟨B, E⟩ := s
  dsimp only at hs hn hB hO
  by_cases hE : E = 0
  · subst hE
    have hB2 := hB.set_ 1 (.int .i64 2)
    have hO2 : (w.setCell ⟨g, 1, none⟩ (.int .i64 2)).ownsRow base 5 1 (.slice A n c) n (u8s B) := hO.kept (grownBy_setCell (World.grownBy.refl _ _) 1 _) (.inr (blk_own_ne hB hO (by decide)).symm)
    have hc1 : w.cell? ⟨g, 1, none⟩ = some (.int .i64 0) := hB.cell 1
    have hf1 : w.frozen? ⟨g, 1, none⟩ = false := hB.frozen 1
    have HW1 : Hid (Below base w (w.setCell ⟨g, 1, none⟩ (.int .i64 2))) := Lib.hid ((Below.refl _ _).setCell hbg _)
    have hc2 : (w.setCell ⟨g, 1, none⟩ (.int .i64 2)).cell? ⟨g, 0, none⟩ = some (.slice A n c) := hB2.cell 0
    have HK1 : Hid (Keeps [82, 5] w (w.setCell ⟨g, 1, none⟩ (.int .i64 2))) := Lib.hid (Keeps.set_ hB.typ (by simp) _)
    have HB := Lib.hid hB2
    have HO := Lib.hid hO2
    have hz := HW1.out.size
    have hl2 := hB2.lt
    have hne := Lib.hid (blk_own_ne HB.out HO.out (by decide))
    clear hB hO hB2 hO2
    go_enter Try.func63, Try.ntmps63
    go_wp2_with fail
    refine (refText_no (text b) w (by rw [text_size]; exact h0)).mono ?_
    rintro e w' ⟨rfl, hww⟩
    subst hww
    go_wp2_with (at_builtin; refine wpList_app rfl _ _ _ rfl base 5 i0 _ 1 Try.underlying59 hi0 hz0 hz1 hz2 rfl (.slice A n c) n _ rfl HO.out 0 _ 0 0 [] rfl Reads.none_ (by simp) (by unfold maxLen; omega) (by omega) (by simp; omega) w HW1.out ?_; intro A3 c3 w3 HO3 hb3 HG3; have HB3 := Lib.hid (HB.out.grown HG3.out hne.out); have hf3 : w3.frozen? ⟨g, 0, none⟩ = false := HB3.out.frozen 0; have hc3 : w3.cell? ⟨g, 0, none⟩ = some (.slice A n c) := HB3.out.cell 0)
    go_end0
    refine ⟨rfl, ?_, lays_end HK1.out HO.out HG3.out HB3.out hb3 hbg _ _⟩
    rw [HN.out]
    exact lay_stored HB3.out HO3.out hbg (by simp)
  · have t1 : ((E : Int) == 0) = false := by simpa using hE
    have hc1 : w.cell? ⟨g, 1, none⟩ = some (.int .i64 E) := hB.cell 1
    have hc2 : w.cell? ⟨g, 0, none⟩ = some (.slice A n c) := hB.cell 0
    have HB := Lib.hid hB
    have HO := Lib.hid hO
    have hne := Lib.hid (blk_own_ne HB.out HO.out (by decide))
    have hE2 : St.fail (B, E) 2 = (B, E) := by simp [St.fail, hE]
    have HE2 := Lib.hid hE2
    clear hB hO hE2
    go_enter Try.func63, Try.ntmps63
    go_wp2_with fail
    refine (refText_no (text b) w (by rw [text_size]; exact h0)).mono ?_
    rintro e w' ⟨rfl, hww⟩
    subst hww
    go_wp2_with (at_builtin; refine wpList_app rfl _ _ _ rfl base 5 i0 _ 1 Try.underlying59 hi0 hz0 hz1 hz2 rfl (.slice A n c) n _ rfl HO.out 0 _ 0 0 [] rfl Reads.none_ (by simp) (by unfold maxLen; omega) (by omega) (by omega) w (Below.refl _ _) ?_; intro A3 c3 w3 HO3 hb3 HG3; have HB3 := Lib.hid (HB.out.grown HG3.out hne.out); have hf3 : w3.frozen? ⟨g, 0, none⟩ = false := HB3.out.frozen 0; have hc3 : w3.cell? ⟨g, 0, none⟩ = some (.slice A n c) := HB3.out.cell 0)
    go_end0
    refine ⟨rfl, ?_, lays_end (Keeps.refl _ _) HO.out HG3.out HB3.out hb3 hbg _ _⟩
    rw [HN.out, HE2.out]
    exact lay_stored HB3.out HO3.out hbg (by simp)

theorem lay_number (base g : Nat) (N : Int) (s : St) (w : World) (h : LayAt w base g s) (hs : s.1.length ≤ 1099511627776) :
    Calls Try.prog 61 #[.pointer (some ⟨g, 0, none⟩), .int .i64 N] w fun e w' => e = .returned (.tuple #[]) ∧ LayAt w' base g (layNum N s) ∧ Lays base w w' := by
  by_cases h0 : 0 ≤ N ∧ N ≤ 1000000000
  · exact lay_number_ok base g N s w h h0.1 h0.2 hs
  · exact lay_number_no base g N s w h (by omega) hs
theorem lay_text (base g : Nat) (b : List UInt8) (s : St) (w : World) (h : LayAt w base g s) (hs : s.1.length ≤ 1099511627776) :
    Calls Try.prog 63 #[.pointer (some ⟨g, 0, none⟩), .string (text b)] w fun e w' => e = .returned (.tuple #[]) ∧ LayAt w' base g (layText b s) ∧ Lays base w w' := by
  by_cases h0 : b.length ≤ 65536
  · exact lay_text_ok base g b s w h h0 hs
  · exact lay_text_no base g b s w h (by omega) hs

end Go.Proofs.Ytkdmfjpfanmgmaa
