/- The walks of the program's writer: its four small methods. A fault is a panic. -/
import Derived.Test.YtkdmfjpfanmgmaaWrit2
import Derived.Test.YtkdmfjpfanmgmaaShapes
namespace Go.Proofs.Ytkdmfjpfanmgmaa
open Go.RowKit Le
set_option maxRecDepth 100000

/-- What is thrown. -/
def thrown (E : Nat) : List PanicEntry := [{ v := .iface 92 (.agg #[.int .i64 E]), recovered := false }]
/-- The program's writer at block g: the bytes b, a row of its own from base on. -/
def WrAt (w : World) (base g : Nat) (b : List UInt8) : Prop :=
  ∃ A n c, Blk w g 86 [.slice A n c] ∧ w.ownsRow base 5 1 (.slice A n c) n (u8s b) ∧ base ≤ g
/-- How a method of the writer ends: the state behind it is s. -/
def WEnd (s : St) (w' : World) (base g : Nat) (e : Ending) : Prop :=
  (s.2 = 0 ∧ e = .returned (.tuple #[]) ∧ WrAt w' base g s.1) ∨ (s.2 ≠ 0 ∧ e = .panicked (thrown s.2))
/-- What the writer leaves. -/
structure Wrs (base : Nat) (w w' : World) : Prop where
  below : Below base w w'
  keeps : Keeps [86, 5] w w'
theorem Wrs.trans {base : Nat} {w w' w'' : World} (h : Wrs base w w') (g : Wrs base w' w'') : Wrs base w w'' := ⟨h.below.trans g.below, h.keeps.trans g.keeps⟩
theorem Wrs.refl (base : Nat) (w : World) : Wrs base w w := ⟨Below.refl _ _, Keeps.refl _ _⟩
theorem Wrs.alloc {base : Nat} {w : World} (h : base ≤ w.heap.size) (o : Obj) : Wrs base w (w.alloc o) := ⟨(Below.refl _ _).alloc h o, Keeps.alloc w o⟩
theorem WrAt.lt {w : World} {base g : Nat} {b : List UInt8} (h : WrAt w base g b) : base ≤ w.heap.size := by
  obtain ⟨A, n, c, hB, _, hbg⟩ := h
  have := hB.lt
  omega
theorem WrAt.alloc {w : World} {base g : Nat} {b : List UInt8} (h : WrAt w base g b) (o : Obj) : WrAt (w.alloc o) base g b := by
  obtain ⟨A, n, c, hB, hO, hbg⟩ := h
  exact ⟨A, n, c, hB.alloc o, hO.alloc o, hbg⟩
theorem WrAt.below_ {w w' : World} {base g : Nat} {b : List UInt8} (h : WrAt w base g b) (hb : Below w.heap.size w w') : WrAt w' base g b := by
  obtain ⟨A, n, c, hB, hO, hbg⟩ := h
  exact ⟨A, n, c, hB.below hb hB.lt, hO.below_ hb, hbg⟩
theorem Wrs.of_below {w w' : World} {base : Nat} (hb : Below w.heap.size w w') (h : base ≤ w.heap.size) : Wrs base w w' := ⟨hb.mono h, Keeps.of_below hb (Nat.le_refl _)⟩
theorem WEnd.bad {s : St} {w' : World} {base g : Nat} {E : Nat} (h0 : E ≠ 0) (he : s.2 = E) : WEnd s w' base g (.panicked (thrown E)) := .inr ⟨by omega, by rw [he]⟩
theorem wr_stored {w : World} {base g n c n0 c0 : Nat} {A A0 : Option Addr} {xs : List Value} {B : List UInt8} (hB : Blk w g 86 [.slice A0 n0 c0])
    (hO : w.ownsRow base 5 1 (.slice A n c) n xs) (hbg : base ≤ g) (hx : u8s B = xs) : WrAt (w.setCell ⟨g, 0, none⟩ (.slice A n c)) base g B := by
  subst hx
  exact ⟨A, n, c, hB.set_ 0 (.slice A n c), hO.kept (grownBy_setCell (World.grownBy.refl _ _) 0 _) (.inr (blk_own_ne hB hO (by decide)).symm), hbg⟩
/-- A new block, then the writer is told. -/
theorem wr_new {w w1 : World} {base g n n0 c0 : Nat} {A0 : Option Addr} {B : List UInt8} (hB : Blk w g 86 [.slice A0 n0 c0]) (hbg : base ≤ g) (hN : Blk w1 w.heap.size 5 (u8s B)) (hw : Below w.heap.size w w1) (hn : B.length = n) (hm : n ≤ 281474976710656) :
    WrAt (w1.setCell ⟨g, 0, none⟩ (.slice (some ⟨w.heap.size, 0, none⟩) n n)) base g B ∧ Wrs base w (w1.setCell ⟨g, 0, none⟩ (.slice (some ⟨w.heap.size, 0, none⟩) n n)) := by
  have hl := hB.lt
  have hB1 := hB.below hw hl
  have hO := hN.own (base := base) (by omega) (Nat.le_refl n) (by simp [hn]) (by unfold maxLen; omega)
  rw [List.take_of_length_le (by simp [hn])] at hO
  exact ⟨wr_stored hB1 hO hbg rfl, (hw.mono (by omega)).setCell hbg _, (Keeps.of_below hw (Nat.le_refl _)).trans (Keeps.set_ hB1.typ (by simp) _)⟩

set_option maxHeartbeats 800000 in
theorem W_num (base g : Nat) (N : Int) (s : St) (w : World) (h : WrAt w base g s.1) (hz : s.2 = 0) (hs : (lay .num (.int N) s).1.length ≤ 1099511627776) :
    Calls Try.prog 57 #[.pointer (some ⟨g, 0, none⟩), .int .i64 N] w fun e w' => WEnd (lay .num (.int N) s) w' base g e ∧ Wrs base w w' := by
  rw [lay_num_eq] at hs ⊢
  obtain ⟨B, E⟩ := s
  dsimp only at hz h
  subst hz
  obtain ⟨A, n, c, hB, hO, hbg⟩ := h
  have hr := Reads.of_own hO
  have hn : B.length = n := by have := hO.1; simpa using this
  have hs2 : n ≤ 1099511627776 := by have := (grows_num N (B, 0)).le; simp only at this; omega
  have hc0 : w.cell? ⟨g, 0, none⟩ = some (.slice A n c) := hB.cell 0
  have HB := Lib.hid hB
  have HN := Lib.hid hn
  have HS := Lib.hid hs
  clear hB hO hs hn
  by_cases h0 : 0 ≤ N ∧ N ≤ 1000000000
  · have C := Lib.hid (putNumber_ok A n c B N w hr hs2 h0.1 h0.2)
    have HE : Hid (layNum N (B, 0) = (B ++ low N.toNat 4, 0)) := Lib.hid (by unfold layNum; rw [if_pos h0]; rfl)
    clear hr
    go_enter Try.func57, Try.ntmps57
    go_wp2_with fail
    refine (unhide C).mono ?_
    rintro e w1 ⟨rfl, hN, hw⟩
    have hl := HB.out.lt
    have hB1 := HB.out.below hw hl
    have hf1 : w1.frozen? ⟨g, 0, none⟩ = false := hB1.frozen 0
    have hc1 : w1.cell? ⟨g, 0, none⟩ = some (.slice A n c) := hB1.cell 0
    have HN1 := Lib.hid hN
    clear hN hB1 C
    go_wp2
    go_end0
    have h2 := wr_new HB.out hbg HN1.out hw (n := n + 4) (by simp [HN.out]) (by omega)
    exact ⟨.inl ⟨by rw [HE.out], rfl, by rw [HE.out]; exact h2.1⟩, h2.2⟩
  · have h0' : N < 0 ∨ 1000000000 < N := by omega
    have C := Lib.hid (putNumber_no A n c N w h0')
    have HE : Hid (layNum N (B, 0) = (B, 1)) := Lib.hid (by unfold layNum; rw [if_neg h0]; rfl)
    clear hr h0' h0
    go_enter Try.func57, Try.ntmps57
    go_wp2_with fail
    refine (unhide C).mono ?_
    rintro e w1 ⟨rfl, rfl⟩
    clear C
    go_wp2
    refine ⟨rfl, ?_⟩
    exact ⟨.inr ⟨by rw [HE.out]; simp, by rw [HE.out]; rfl⟩, Wrs.refl _ _⟩

set_option maxHeartbeats 800000 in
theorem W_text (base g : Nat) (b : List UInt8) (s : St) (w : World) (h : WrAt w base g s.1) (hz : s.2 = 0) (hs : (lay .text (.text b) s).1.length ≤ 1099511627776) :
    Calls Try.prog 59 #[.pointer (some ⟨g, 0, none⟩), .string (text b)] w fun e w' => WEnd (lay .text (.text b) s) w' base g e ∧ Wrs base w w' := by
  rw [lay_text_eq] at hs ⊢
  obtain ⟨B, E⟩ := s
  dsimp only at hz h
  subst hz
  obtain ⟨A, n, c, hB, hO, hbg⟩ := h
  have hr := Reads.of_own hO
  have hn : B.length = n := by have := hO.1; simpa using this
  have hs2 : n ≤ 1099511627776 := by have := (grows_text b (B, 0)).le; simp only at this; omega
  have hc0 : w.cell? ⟨g, 0, none⟩ = some (.slice A n c) := hB.cell 0
  have HB := Lib.hid hB
  have HN := Lib.hid hn
  have HS := Lib.hid hs
  clear hB hO hs hn
  by_cases h0 : b.length ≤ 65536
  · have C := Lib.hid (putText_ok A n c B (text b) w hr hs2 (by rw [text_size]; exact h0))
    rw [text_size, text_data] at C
    have HE : Hid (layText b (B, 0) = (B ++ (low b.length 4 ++ b), 0)) := Lib.hid (by unfold layText; rw [if_pos h0]; rfl)
    clear hr
    go_enter Try.func59, Try.ntmps59
    go_wp2_with fail
    refine (unhide C).mono ?_
    rintro e w1 ⟨A1, c1, rfl, hM⟩
    have hl := HB.out.lt
    have HB1 := Lib.hid (HB.out.below hM.below hl)
    have hf1 : w1.frozen? ⟨g, 0, none⟩ = false := HB1.out.frozen 0
    have hc1 : w1.cell? ⟨g, 0, none⟩ = some (.slice A n c) := HB1.out.cell 0
    have HM1 := Lib.hid hM
    clear hM C
    go_wp2
    go_end0
    have hO : w1.ownsRow base 5 1 (.slice A1 (n + 4 + b.length) c1) (n + 4 + b.length) (u8s (B ++ low b.length 4 ++ b)) := by
      refine ⟨HM1.out.own.1, ?_⟩
      rcases HM1.out.own.2 with hn | ⟨g', cap, cur, e1, hbg', rest⟩
      · exact .inl hn
      · exact .inr ⟨g', cap, cur, e1, by omega, rest⟩
    exact ⟨.inl ⟨by rw [HE.out], rfl, by rw [HE.out]; exact wr_stored HB1.out hO hbg (by rw [List.append_assoc])⟩, ⟨(HM1.out.below.mono (by omega)).setCell hbg _, (Keeps.of_below HM1.out.below (Nat.le_refl _)).trans (Keeps.set_ HB1.out.typ (by simp) _)⟩⟩
  · have C := Lib.hid (putText_no A n c (text b) w (by rw [text_size]; omega))
    have HE : Hid (layText b (B, 0) = (B, 2)) := Lib.hid (by unfold layText; rw [if_neg h0]; rfl)
    clear hr h0
    go_enter Try.func59, Try.ntmps59
    go_wp2_with fail
    refine (unhide C).mono ?_
    rintro e w1 ⟨rfl, rfl⟩
    clear C
    go_wp2
    refine ⟨rfl, ?_⟩
    exact ⟨.inr ⟨by rw [HE.out]; simp, by rw [HE.out]; rfl⟩, Wrs.refl _ _⟩

theorem wrs_end {base g n : Nat} {w w1 w3 : World} {v : Value} {xs cs : List Value} (hk : Keeps [86, 5] w w1) (hO : w1.ownsRow base 5 1 v n xs) (hG : w1.grownBy w3 v.ownBlock)
    (hB : Blk w3 g 86 cs) (hb : Below base w w3) (hbg : base ≤ g) (i : Nat) (u : Value) : Wrs base w (w3.setCell ⟨g, i, none⟩ u) :=
  ⟨hb.setCell hbg _, (hk.trans (Keeps.grown hO hG (by simp) hG.size)).trans (Keeps.set_ hB.typ (by simp) u)⟩
end Go.Proofs.Ytkdmfjpfanmgmaa
