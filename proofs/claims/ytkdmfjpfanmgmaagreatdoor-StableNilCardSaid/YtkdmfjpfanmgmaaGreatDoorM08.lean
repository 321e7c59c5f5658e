/- Joined by mkmerge.py from the proof's texts Wr1, Wr2, Put0, Many. Conditions: each theorem's own hypotheses. -/
import Derived.Test.YtkdmfjpfanmgmaaGreatDoorM07
import Derived.Deep.RegionLaw
import Derived.Test.YtkdmfjpfanmgmaaGreatDoorM01
import Derived.Recover
import Derived.Defers
namespace Go.Proofs.YtkdmfjpfanmgmaaGreatDoor
open Go.RowKit Le
set_option maxRecDepth 100000
/-- What is thrown. -/
def thrown (E : Nat) : List PanicEntry := [{ v := .iface 179 (.agg #[.int .i64 E]), recovered := false }]
/-- The program's writer at block g: the bytes b, a row of its own from base on. -/
def WrAt (w : World) (base g : Nat) (b : List UInt8) : Prop :=
  ∃ A n c, Blk w g 147 [.slice A n c] ∧ w.ownsRow base 5 1 (.slice A n c) n (u8s b) ∧ base ≤ g
/-- How a method of the writer ends: the state behind it is s. -/
def WEnd (s : St) (w' : World) (base g : Nat) (e : Ending) : Prop :=
  (s.2 = 0 ∧ e = .returned (.tuple #[]) ∧ WrAt w' base g s.1) ∨ (s.2 ≠ 0 ∧ e = .panicked (thrown s.2))
/-- What the writer leaves. -/
structure Wrs (base : Nat) (w w' : World) : Prop where
  below : Below base w w'
  keeps : Keeps [147, 5] w w'
theorem Wrs.trans {base : Nat} {w w' w'' : World} (h : Wrs base w w') (g : Wrs base w' w'') : Wrs base w w'' := ⟨h.below.trans g.below, h.keeps.trans g.keeps⟩
theorem Wrs.refl (base : Nat) (w : World) : Wrs base w w := ⟨Below.refl _ _, Keeps.refl _ _⟩
theorem Wrs.alloc {base : Nat} {w : World} (h : base ≤ w.heap.size) (o : Obj) : Wrs base w (w.alloc o) := ⟨(Below.refl _ _).alloc h o, Keeps.alloc w o⟩
theorem WrAt.lt {w : World} {base g : Nat} {b : List UInt8} (h : WrAt w base g b) : base ≤ w.heap.size := by
  obtain ⟨A, n, c, hB, _, hbg⟩ := h
  have := hB.lt
  omega
theorem WrAt.alloc {w : World} {base g : Nat} {b : List UInt8} (h : WrAt w base g b) (o : Obj) : WrAt (w.alloc o) base g b := by
  obtain ⟨A, n, c, hB, hO, hbg⟩ := h
  exact ⟨A, n, c, hB.alloc o, hO.alloc o, hbg⟩
theorem WrAt.below_ {w w' : World} {base g : Nat} {b : List UInt8} (h : WrAt w base g b) (hb : Below w.heap.size w w') : WrAt w' base g b := by
  obtain ⟨A, n, c, hB, hO, hbg⟩ := h
  exact ⟨A, n, c, hB.below hb hB.lt, hO.below_ hb, hbg⟩
theorem Wrs.of_below {w w' : World} {base : Nat} (hb : Below w.heap.size w w') (h : base ≤ w.heap.size) : Wrs base w w' := ⟨hb.mono h, Keeps.of_below hb (Nat.le_refl _)⟩
theorem WEnd.bad {s : St} {w' : World} {base g : Nat} {E : Nat} (h0 : E ≠ 0) (he : s.2 = E) : WEnd s w' base g (.panicked (thrown E)) := .inr ⟨by omega, by rw [he]⟩
theorem wr_stored {w : World} {base g n c n0 c0 : Nat} {A A0 : Option Addr} {xs : List Value} {B : List UInt8} (hB : Blk w g 147 [.slice A0 n0 c0])
    (hO : w.ownsRow base 5 1 (.slice A n c) n xs) (hbg : base ≤ g) (hx : u8s B = xs) : WrAt (w.setCell ⟨g, 0, none⟩ (.slice A n c)) base g B := by
  subst hx
  exact ⟨A, n, c, hB.set_ 0 (.slice A n c), hO.kept (grownBy_setCell (World.grownBy.refl _ _) 0 _) (.inr (blk_own_ne hB hO (by decide)).symm), hbg⟩
/-- A new block, then the writer is told. -/
theorem wr_new {w w1 : World} {base g n n0 c0 : Nat} {A0 : Option Addr} {B : List UInt8} (hB : Blk w g 147 [.slice A0 n0 c0]) (hbg : base ≤ g) (hN : Blk w1 w.heap.size 5 (u8s B)) (hw : Below w.heap.size w w1) (hn : B.length = n) (hm : n ≤ 281474976710656) :
    WrAt (w1.setCell ⟨g, 0, none⟩ (.slice (some ⟨w.heap.size, 0, none⟩) n n)) base g B ∧ Wrs base w (w1.setCell ⟨g, 0, none⟩ (.slice (some ⟨w.heap.size, 0, none⟩) n n)) := by
  have hl := hB.lt
  have hB1 := hB.below hw hl
  have hO := hN.own (base := base) (by omega) (Nat.le_refl n) (by simp [hn]) (by unfold maxLen; omega)
  rw [List.take_of_length_le (by simp [hn])] at hO
  exact ⟨wr_stored hB1 hO hbg rfl, (hw.mono (by omega)).setCell hbg _, (Keeps.of_below hw (Nat.le_refl _)).trans (Keeps.set_ hB1.typ (by simp) _)⟩
set_option maxHeartbeats 800000 in
theorem W_num (base g : Nat) (N : Int) (s : St) (w : World) (h : WrAt w base g s.1) (hz : s.2 = 0) (hs : (lay .num (.int N) s).1.length ≤ 1099511627776) :
    Calls Tryz.prog 90 #[.pointer (some ⟨g, 0, none⟩), .int .i64 N] w fun e w' => WEnd (lay .num (.int N) s) w' base g e ∧ Wrs base w w' := by
  rw [lay_num_eq] at hs ⊢
  obtain ⟨B, E⟩ := s
  dsimp only at hz h
  subst hz
  obtain ⟨A, n, c, hB, hO, hbg⟩ := h
  have hr := Reads.of_own hO
  have hn : B.length = n := by have := hO.1; simpa using this
  have hs2 : n ≤ 1099511627776 := by have := (grows_num N (B, 0)).le; simp only at this; omega
  have hc0 : w.cell? ⟨g, 0, none⟩ = some (.slice A n c) := hB.cell 0
  have HB := Lib.hid hB
  have HN := Lib.hid hn
  have HS := Lib.hid hs
  clear hB hO hs hn
  by_cases h0 : 0 ≤ N ∧ N ≤ 1000000000
  · have C := Lib.hid (putNumber_ok A n c B N w hr hs2 h0.1 h0.2)
    have HE : Hid (layNum N (B, 0) = (B ++ low N.toNat 4, 0)) := Lib.hid (by unfold layNum; rw [if_pos h0]; rfl)
    clear hr
    go_enter Tryz.func90, Tryz.ntmps90
    go_wp2_with fail
    refine (unhide C).mono ?_
    rintro e w1 ⟨rfl, hN, hw⟩
    have hl := HB.out.lt
    have hB1 := HB.out.below hw hl
    have hf1 : w1.frozen? ⟨g, 0, none⟩ = false := hB1.frozen 0
    have hc1 : w1.cell? ⟨g, 0, none⟩ = some (.slice A n c) := hB1.cell 0
    have HN1 := Lib.hid hN
    clear hN hB1 C
    go_wp2
    go_end0
    have h2 := wr_new HB.out hbg HN1.out hw (n := n + 4) (by simp [HN.out]) (by omega)
    exact ⟨.inl ⟨by rw [HE.out], rfl, by rw [HE.out]; exact h2.1⟩, h2.2⟩
  · have h0' : N < 0 ∨ 1000000000 < N := by omega
    have C := Lib.hid (putNumber_no A n c N w h0')
    have HE : Hid (layNum N (B, 0) = (B, 1)) := Lib.hid (by unfold layNum; rw [if_neg h0]; rfl)
    clear hr h0' h0
    go_enter Tryz.func90, Tryz.ntmps90
    go_wp2_with fail
    refine (unhide C).mono ?_
    rintro e w1 ⟨rfl, rfl⟩
    clear C
    go_wp2
    refine ⟨rfl, ?_⟩
    exact ⟨.inr ⟨by rw [HE.out]; simp, by rw [HE.out]; rfl⟩, Wrs.refl _ _⟩
set_option maxHeartbeats 800000 in
theorem W_text (base g : Nat) (b : List UInt8) (s : St) (w : World) (h : WrAt w base g s.1) (hz : s.2 = 0) (hs : (lay .text (.text b) s).1.length ≤ 1099511627776) :
    Calls Tryz.prog 92 #[.pointer (some ⟨g, 0, none⟩), .string (text b)] w fun e w' => WEnd (lay .text (.text b) s) w' base g e ∧ Wrs base w w' := by
  rw [lay_text_eq] at hs ⊢
  obtain ⟨B, E⟩ := s
  dsimp only at hz h
  subst hz
  obtain ⟨A, n, c, hB, hO, hbg⟩ := h
  have hr := Reads.of_own hO
  have hn : B.length = n := by have := hO.1; simpa using this
  have hs2 : n ≤ 1099511627776 := by have := (grows_text b (B, 0)).le; simp only at this; omega
  have hc0 : w.cell? ⟨g, 0, none⟩ = some (.slice A n c) := hB.cell 0
  have HB := Lib.hid hB
  have HN := Lib.hid hn
  have HS := Lib.hid hs
  clear hB hO hs hn
  by_cases h0 : b.length ≤ 65536
  · have C := Lib.hid (putText_ok A n c B (text b) w hr hs2 (by rw [text_size]; exact h0))
    rw [text_size, text_data] at C
    have HE : Hid (layText b (B, 0) = (B ++ (low b.length 4 ++ b), 0)) := Lib.hid (by unfold layText; rw [if_pos h0]; rfl)
    clear hr
    go_enter Tryz.func92, Tryz.ntmps92
    go_wp2_with fail
    refine (unhide C).mono ?_
    rintro e w1 ⟨A1, c1, rfl, hM⟩
    have hl := HB.out.lt
    have HB1 := Lib.hid (HB.out.below hM.below hl)
    have hf1 : w1.frozen? ⟨g, 0, none⟩ = false := HB1.out.frozen 0
    have hc1 : w1.cell? ⟨g, 0, none⟩ = some (.slice A n c) := HB1.out.cell 0
    have HM1 := Lib.hid hM
    clear hM C
    go_wp2
    go_end0
    have hO : w1.ownsRow base 5 1 (.slice A1 (n + 4 + b.length) c1) (n + 4 + b.length) (u8s (B ++ low b.length 4 ++ b)) := by
      refine ⟨HM1.out.own.1, ?_⟩
      rcases HM1.out.own.2 with hn | ⟨g', cap, cur, e1, hbg', rest⟩
      · exact .inl hn
      · exact .inr ⟨g', cap, cur, e1, by omega, rest⟩
    exact ⟨.inl ⟨by rw [HE.out], rfl, by rw [HE.out]; exact wr_stored HB1.out hO hbg (by rw [List.append_assoc])⟩, ⟨(HM1.out.below.mono (by omega)).setCell hbg _, (Keeps.of_below HM1.out.below (Nat.le_refl _)).trans (Keeps.set_ HB1.out.typ (by simp) _)⟩⟩
  · have C := Lib.hid (putText_no A n c (text b) w (by rw [text_size]; omega))
    have HE : Hid (layText b (B, 0) = (B, 2)) := Lib.hid (by unfold layText; rw [if_neg h0]; rfl)
    clear hr h0
    go_enter Tryz.func92, Tryz.ntmps92
    go_wp2_with fail
    refine (unhide C).mono ?_
    rintro e w1 ⟨rfl, rfl⟩
    clear C
    go_wp2
    refine ⟨rfl, ?_⟩
    exact ⟨.inr ⟨by rw [HE.out]; simp, by rw [HE.out]; rfl⟩, Wrs.refl _ _⟩
end Go.Proofs.YtkdmfjpfanmgmaaGreatDoor
namespace Go.Proofs.YtkdmfjpfanmgmaaGreatDoor
open Go.RowKit Le
set_option maxRecDepth 100000
set_option linter.unusedVariables false
set_option maxHeartbeats 1600000 in
theorem W_many_int (base g : Nat) (ds : List (List Da)) (A : Option Addr) (c : Nat) (s : St) (w : World) (h : WrAt w base g s.1) (hz : s.2 = 0) (hR : RowsAt w (· < base) [.num] ds A) (hs : (lay (.rows [.num]) (.rows ds) s).1.length ≤ 1099511627776) :
    Calls Tryz.prog 117 #[.pointer (some ⟨g, 0, none⟩), .slice A ds.length c, .func (.func 90) #[] #[]] w fun e w' => WEnd (lay (.rows [.num]) (.rows ds) s) w' base g e ∧ Wrs base w w' := by
  by_cases h4 : ds.length ≤ 4096
  · have e4 := lay_rows_ok (l := [.num]) hz h4
    have C := Lib.hid (W_num base g ds.length s w h hz (by rw [lay_num_eq, ← foldT_zero [.num] ds (layNum _ s)]; exact Nat.le_trans (foldT_le_lay hz h4 0) hs))
    have HS := Lib.hid hs
    have HR := Lib.hid hR
    have HZ := Lib.hid hz
    have H4 := Lib.hid e4
    clear hR hs h hz e4
    go_enter Tryz.func117, Tryz.ntmps117
    go_wp2_with fail
    refine (unhide C).mono ?_
    rintro e w1 ⟨hE, hK⟩
    have HK1 := Lib.hid hK
    clear hK C
    rcases hE with ⟨h0, rfl, hL⟩ | ⟨h0, rfl⟩
    · rw [lay_num_eq] at h0 hL
      have HL1 := Lib.hid hL
      have H01 := Lib.hid h0
      clear hL h0
      go_wp2
      go_loopw [19] (fun i wr => ∃ j : Nat, j ≤ ds.length ∧ i = .int .i64 j ∧ Hid ((foldT [.num] ds j (layNum ds.length s)).2 = 0) ∧ Hid (WrAt wr base g (foldT [.num] ds j (layNum ds.length s)).1) ∧ Hid (Wrs base w wr)) (fun i _ => ds.length - (intOf i).toNat)
      case atStart => exact ⟨0, Nat.zero_le _, rfl, Lib.hid (by rw [foldT_zero]; exact H01.out), Lib.hid (by rw [foldT_zero]; exact HL1.out), HK1⟩
      case round =>
        obtain ⟨j, hj, rfl, H0, HL, HK⟩ := hrel
        by_cases hlt : j < ds.length
        · have HQ := Lib.hid (foldT_succ [.num] ds j (layNum ds.length s) hlt)
          have q := foldT_le_lay (l := [.num]) HZ.out h4 (j + 1)
          rw [HQ.out] at q
          obtain ⟨ad, vs, rfl, hC, hcell⟩ := (HR.out.below HK.out.below).at_ hlt
          obtain ⟨dd, hdd⟩ : ∃ dd, dd = ds[j] := ⟨_, rfl⟩
          rw [← hdd] at hC HQ q
          clear hdd
          have HQ4 := Lib.hid (Nat.le_trans q HS.out)
          clear q
          obtain ⟨_, _, _, _, rfl, rfl, c0, hC⟩ := hC.cons
          obtain ⟨rfl, rfl⟩ := hC.nil
          obtain ⟨n0, rfl, rfl⟩ := c0.num
          have hc0_0 : wr.cell? (ad.add j) = some (.int .i64 n0) := by have := hcell 0 _ rfl; simpa using this
          clear hcell
          have hlt2 := HL.out.lt
          go_wp2_with fail
          refine (W_num base g n0 _ _ HL.out H0.out (by have := HQ4.out; simpa only [lays] using this)).mono ?_
          rintro e wr1 ⟨hE, hK⟩
          replace HK := Lib.hid (HK.out.trans hK)
          rcases hE with ⟨h0, rfl, hL⟩ | ⟨h0, rfl⟩
          all_goals have HQ1 : Hid (foldT [.num] ds (j + 1) (layNum ds.length s) = lay .num (.int n0) (foldT [.num] ds j (layNum ds.length s))) := Lib.hid (by rw [HQ.out]; simp only [lays])
          · rw [← HQ1.out] at h0 hL
            replace HL := Lib.hid hL
            replace H0 := Lib.hid h0
            clear hL h0 hK
            go_wp2
            go_roundw
            case rel => exact ⟨j + 1, by omega, by go_num, H0, HL, HK⟩
            case measure => simp [intOf]; omega
          · rw [← HQ1.out] at h0 ⊢
            refine ⟨rfl, WEnd.bad h0 (by rw [H4.out]; exact foldT_err _ _ _ _ h0), HK.out⟩
        · go_wp2
          go_end0
          obtain rfl : j = ds.length := by omega
          exact ⟨.inl ⟨by rw [H4.out]; exact H0.out, rfl, by rw [H4.out]; exact HL.out⟩, HK.out⟩
    · refine ⟨rfl, WEnd.bad h0 ?_, HK1.out⟩
      rw [H4.out, lay_num_eq]
      rw [lay_num_eq, ← foldT_zero [.num] ds (layNum _ s)] at h0
      rw [foldT_err [.num] ds 0 _ h0, foldT_zero]
  · have HE : Hid ((lay (.rows [.num]) (.rows ds) s).2 = 2) := Lib.hid (by rw [lay_rows_big hz (by omega)]; simp [St.fail, hz])
    clear hR hs h hz
    go_enter Tryz.func117, Tryz.ntmps117
    go_wp2
    exact ⟨rfl, WEnd.bad (E := 2) (by decide) HE.out, Wrs.refl _ _⟩
set_option maxHeartbeats 1600000 in
theorem W_config (base g : Nat) (ds : List Da) (vs : List Value) (s : St) (w : World) (h : WrAt w base g s.1) (hz : s.2 = 0) (hC : Cels w (· < base) shConfig ds vs) (hs : (lays shConfig ds s).1.length ≤ 1099511627776) :
    Calls Tryz.prog 91 #[.pointer (some ⟨g, 0, none⟩), .agg vs.toArray] w fun e w' => WEnd (lays shConfig ds s) w' base g e ∧ Wrs base w w' := by
  replace hC : Cels w (· < base) [.rows [.num], .rows [.num]] ds vs := hC
  obtain ⟨_, _, _, _, rfl, rfl, c0, hC⟩ := hC.cons
  obtain ⟨_, _, _, _, rfl, rfl, c1, hC⟩ := hC.cons
  obtain ⟨rfl, rfl⟩ := hC.nil
  obtain ⟨r0, A0, k0, rfl, rfl, R0⟩ := c0.rows
  replace R0 := Lib.hid R0
  obtain ⟨r1, A1, k1, rfl, rfl, R1⟩ := c1.rows
  replace R1 := Lib.hid R1
  simp only [shConfig, lays] at hs ⊢
  have q2 := Lib.hid hs
  have q1 := Lib.hid (lay_le q2.out)
  have q0 := Lib.hid (lay_le q1.out)
  clear hs
  have hlt := h.lt
  have HA : Hid (Wrs base w (w.alloc (.cells #[.slice A0 r0.length k0, .slice A1 r1.length k1] 27))) := Lib.hid (Wrs.alloc hlt _)
  have HX : Hid (Blk (w.alloc (.cells #[.slice A0 r0.length k0, .slice A1 r1.length k1] 27)) w.heap.size 27 [.slice A0 r0.length k0, .slice A1 r1.length k1]) := Lib.hid (Blk.new w _ _)
  have HL := Lib.hid (h.alloc (.cells #[.slice A0 r0.length k0, .slice A1 r1.length k1] 27))
  have HK : Hid (Wrs base (w.alloc (.cells #[.slice A0 r0.length k0, .slice A1 r1.length k1] 27)) (w.alloc (.cells #[.slice A0 r0.length k0, .slice A1 r1.length k1] 27))) := Lib.hid (Wrs.refl _ _)
  have HZ := Lib.hid hz
  clear h hz
  go_enter Tryz.func91, Tryz.ntmps91
  go_wp2_with fail
  refine (W_many_int base g r0 A0 k0 _ _ HL.out HZ.out (R0.out.below (HA.out.trans HK.out).below) q1.out).mono ?_
  rintro e w1 ⟨hE, hK⟩
  replace HK := Lib.hid (HK.out.trans hK)
  rcases hE with ⟨h0, rfl, hL⟩ | ⟨h0, rfl⟩
  rotate_left
  · have he := lays_err [.rows [.num]] [.rows r1] _ h0
    simp only [lays] at he
    exact ⟨rfl, WEnd.bad h0 he, HA.out.trans HK.out⟩
  replace HL := Lib.hid hL
  replace HZ := Lib.hid h0
  have HB1 := Lib.hid (HX.out.keeps HK.out.keeps (by decide))
  have hc1_0 : w1.cell? ⟨w.heap.size, 1, none⟩ = some (.slice A1 r1.length k1) := HB1.out.cell 1
  clear hL hK h0
  go_wp2_with fail
  refine (W_many_int base g r1 A1 k1 _ _ HL.out HZ.out (R1.out.below (HA.out.trans HK.out).below) q2.out).mono ?_
  rintro e w2 ⟨hE, hK⟩
  replace HK := Lib.hid (HK.out.trans hK)
  rcases hE with ⟨h0, rfl, hL⟩ | ⟨h0, rfl⟩
  rotate_left
  · exact ⟨rfl, WEnd.bad h0 rfl, HA.out.trans HK.out⟩
  replace HL := Lib.hid hL
  replace HZ := Lib.hid h0
  clear hL hK h0
  go_wp2
  go_end0
  exact ⟨.inl ⟨HZ.out, rfl, HL.out⟩, HA.out.trans HK.out⟩
set_option maxHeartbeats 1600000 in
theorem W_record (base g : Nat) (ds : List Da) (vs : List Value) (s : St) (w : World) (h : WrAt w base g s.1) (hz : s.2 = 0) (hC : Cels w (· < base) shRecord ds vs) (hs : (lays shRecord ds s).1.length ≤ 1099511627776) :
    Calls Tryz.prog 56 #[.pointer (some ⟨g, 0, none⟩), .agg vs.toArray] w fun e w' => WEnd (lays shRecord ds s) w' base g e ∧ Wrs base w w' := by
  replace hC : Cels w (· < base) [.num, .num, .num, .num, .num, .num, .rows [.num], .rows [.num], .text, .num, .num, .num, .rows [.num], .rows [.num], .text] ds vs := hC
  obtain ⟨_, _, _, _, rfl, rfl, c0, hC⟩ := hC.cons
  obtain ⟨_, _, _, _, rfl, rfl, c1, hC⟩ := hC.cons
  obtain ⟨_, _, _, _, rfl, rfl, c2, hC⟩ := hC.cons
  obtain ⟨_, _, _, _, rfl, rfl, c3, hC⟩ := hC.cons
  obtain ⟨_, _, _, _, rfl, rfl, c4, hC⟩ := hC.cons
  obtain ⟨_, _, _, _, rfl, rfl, c5, hC⟩ := hC.cons
  obtain ⟨_, _, _, _, rfl, rfl, c6, hC⟩ := hC.cons
  obtain ⟨_, _, _, _, rfl, rfl, c7, hC⟩ := hC.cons
  obtain ⟨_, _, _, _, rfl, rfl, c8, hC⟩ := hC.cons
  obtain ⟨_, _, _, _, rfl, rfl, c9, hC⟩ := hC.cons
  obtain ⟨_, _, _, _, rfl, rfl, c10, hC⟩ := hC.cons
  obtain ⟨_, _, _, _, rfl, rfl, c11, hC⟩ := hC.cons
  obtain ⟨_, _, _, _, rfl, rfl, c12, hC⟩ := hC.cons
  obtain ⟨_, _, _, _, rfl, rfl, c13, hC⟩ := hC.cons
  obtain ⟨_, _, _, _, rfl, rfl, c14, hC⟩ := hC.cons
  obtain ⟨rfl, rfl⟩ := hC.nil
  obtain ⟨n0, rfl, rfl⟩ := c0.num
  obtain ⟨n1, rfl, rfl⟩ := c1.num
  obtain ⟨n2, rfl, rfl⟩ := c2.num
  obtain ⟨n3, rfl, rfl⟩ := c3.num
  obtain ⟨n4, rfl, rfl⟩ := c4.num
  obtain ⟨n5, rfl, rfl⟩ := c5.num
  obtain ⟨r6, A6, k6, rfl, rfl, R6⟩ := c6.rows
  replace R6 := Lib.hid R6
  obtain ⟨r7, A7, k7, rfl, rfl, R7⟩ := c7.rows
  replace R7 := Lib.hid R7
  obtain ⟨b8, rfl, rfl⟩ := c8.txt
  obtain ⟨n9, rfl, rfl⟩ := c9.num
  obtain ⟨n10, rfl, rfl⟩ := c10.num
  obtain ⟨n11, rfl, rfl⟩ := c11.num
  obtain ⟨r12, A12, k12, rfl, rfl, R12⟩ := c12.rows
  replace R12 := Lib.hid R12
  obtain ⟨r13, A13, k13, rfl, rfl, R13⟩ := c13.rows
  replace R13 := Lib.hid R13
  obtain ⟨b14, rfl, rfl⟩ := c14.txt
  simp only [shRecord, lays] at hs ⊢
  have q15 := Lib.hid hs
  have q14 := Lib.hid (lay_le q15.out)
  have q13 := Lib.hid (lay_le q14.out)
  have q12 := Lib.hid (lay_le q13.out)
  have q11 := Lib.hid (lay_le q12.out)
  have q10 := Lib.hid (lay_le q11.out)
  have q9 := Lib.hid (lay_le q10.out)
  have q8 := Lib.hid (lay_le q9.out)
  have q7 := Lib.hid (lay_le q8.out)
  have q6 := Lib.hid (lay_le q7.out)
  have q5 := Lib.hid (lay_le q6.out)
  have q4 := Lib.hid (lay_le q5.out)
  have q3 := Lib.hid (lay_le q4.out)
  have q2 := Lib.hid (lay_le q3.out)
  have q1 := Lib.hid (lay_le q2.out)
  have q0 := Lib.hid (lay_le q1.out)
  clear hs
  have hlt := h.lt
  have HA : Hid (Wrs base w (w.alloc (.cells #[.int .i64 n0, .int .i64 n1, .int .i64 n2, .int .i64 n3, .int .i64 n4, .int .i64 n5, .slice A6 r6.length k6, .slice A7 r7.length k7, .string (text b8), .int .i64 n9, .int .i64 n10, .int .i64 n11, .slice A12 r12.length k12, .slice A13 r13.length k13, .string (text b14)] 33))) := Lib.hid (Wrs.alloc hlt _)
  have HX : Hid (Blk (w.alloc (.cells #[.int .i64 n0, .int .i64 n1, .int .i64 n2, .int .i64 n3, .int .i64 n4, .int .i64 n5, .slice A6 r6.length k6, .slice A7 r7.length k7, .string (text b8), .int .i64 n9, .int .i64 n10, .int .i64 n11, .slice A12 r12.length k12, .slice A13 r13.length k13, .string (text b14)] 33)) w.heap.size 33 [.int .i64 n0, .int .i64 n1, .int .i64 n2, .int .i64 n3, .int .i64 n4, .int .i64 n5, .slice A6 r6.length k6, .slice A7 r7.length k7, .string (text b8), .int .i64 n9, .int .i64 n10, .int .i64 n11, .slice A12 r12.length k12, .slice A13 r13.length k13, .string (text b14)]) := Lib.hid (Blk.new w _ _)
  have HL := Lib.hid (h.alloc (.cells #[.int .i64 n0, .int .i64 n1, .int .i64 n2, .int .i64 n3, .int .i64 n4, .int .i64 n5, .slice A6 r6.length k6, .slice A7 r7.length k7, .string (text b8), .int .i64 n9, .int .i64 n10, .int .i64 n11, .slice A12 r12.length k12, .slice A13 r13.length k13, .string (text b14)] 33))
  have HK : Hid (Wrs base (w.alloc (.cells #[.int .i64 n0, .int .i64 n1, .int .i64 n2, .int .i64 n3, .int .i64 n4, .int .i64 n5, .slice A6 r6.length k6, .slice A7 r7.length k7, .string (text b8), .int .i64 n9, .int .i64 n10, .int .i64 n11, .slice A12 r12.length k12, .slice A13 r13.length k13, .string (text b14)] 33)) (w.alloc (.cells #[.int .i64 n0, .int .i64 n1, .int .i64 n2, .int .i64 n3, .int .i64 n4, .int .i64 n5, .slice A6 r6.length k6, .slice A7 r7.length k7, .string (text b8), .int .i64 n9, .int .i64 n10, .int .i64 n11, .slice A12 r12.length k12, .slice A13 r13.length k13, .string (text b14)] 33))) := Lib.hid (Wrs.refl _ _)
  have HZ := Lib.hid hz
  clear h hz
  go_enter Tryz.func56, Tryz.ntmps56
  go_wp2_with fail
  refine (W_num base g n0 _ _ HL.out HZ.out q1.out).mono ?_
  rintro e w1 ⟨hE, hK⟩
  replace HK := Lib.hid (HK.out.trans hK)
  rcases hE with ⟨h0, rfl, hL⟩ | ⟨h0, rfl⟩
  rotate_left
  · have he := lays_err [.num, .num, .num, .num, .num, .rows [.num], .rows [.num], .text, .num, .num, .num, .rows [.num], .rows [.num], .text] [.int n1, .int n2, .int n3, .int n4, .int n5, .rows r6, .rows r7, .text b8, .int n9, .int n10, .int n11, .rows r12, .rows r13, .text b14] _ h0
    simp only [lays] at he
    exact ⟨rfl, WEnd.bad h0 he, HA.out.trans HK.out⟩
  replace HL := Lib.hid hL
  replace HZ := Lib.hid h0
  have HB1 := Lib.hid (HX.out.keeps HK.out.keeps (by decide))
  have hc1_0 : w1.cell? ⟨w.heap.size, 1, none⟩ = some (.int .i64 n1) := HB1.out.cell 1
  clear hL hK h0
  go_wp2_with fail
  refine (W_num base g n1 _ _ HL.out HZ.out q2.out).mono ?_
  rintro e w2 ⟨hE, hK⟩
  replace HK := Lib.hid (HK.out.trans hK)
  rcases hE with ⟨h0, rfl, hL⟩ | ⟨h0, rfl⟩
  rotate_left
  · have he := lays_err [.num, .num, .num, .num, .rows [.num], .rows [.num], .text, .num, .num, .num, .rows [.num], .rows [.num], .text] [.int n2, .int n3, .int n4, .int n5, .rows r6, .rows r7, .text b8, .int n9, .int n10, .int n11, .rows r12, .rows r13, .text b14] _ h0
    simp only [lays] at he
    exact ⟨rfl, WEnd.bad h0 he, HA.out.trans HK.out⟩
  replace HL := Lib.hid hL
  replace HZ := Lib.hid h0
  have HB2 := Lib.hid (HX.out.keeps HK.out.keeps (by decide))
  have hc2_0 : w2.cell? ⟨w.heap.size, 2, none⟩ = some (.int .i64 n2) := HB2.out.cell 2
  clear hL hK h0
  go_wp2_with fail
  refine (W_num base g n2 _ _ HL.out HZ.out q3.out).mono ?_
  rintro e w3 ⟨hE, hK⟩
  replace HK := Lib.hid (HK.out.trans hK)
  rcases hE with ⟨h0, rfl, hL⟩ | ⟨h0, rfl⟩
  rotate_left
  · have he := lays_err [.num, .num, .num, .rows [.num], .rows [.num], .text, .num, .num, .num, .rows [.num], .rows [.num], .text] [.int n3, .int n4, .int n5, .rows r6, .rows r7, .text b8, .int n9, .int n10, .int n11, .rows r12, .rows r13, .text b14] _ h0
    simp only [lays] at he
    exact ⟨rfl, WEnd.bad h0 he, HA.out.trans HK.out⟩
  replace HL := Lib.hid hL
  replace HZ := Lib.hid h0
  have HB3 := Lib.hid (HX.out.keeps HK.out.keeps (by decide))
  have hc3_0 : w3.cell? ⟨w.heap.size, 3, none⟩ = some (.int .i64 n3) := HB3.out.cell 3
  clear hL hK h0
  go_wp2_with fail
  refine (W_num base g n3 _ _ HL.out HZ.out q4.out).mono ?_
  rintro e w4 ⟨hE, hK⟩
  replace HK := Lib.hid (HK.out.trans hK)
  rcases hE with ⟨h0, rfl, hL⟩ | ⟨h0, rfl⟩
  rotate_left
  · have he := lays_err [.num, .num, .rows [.num], .rows [.num], .text, .num, .num, .num, .rows [.num], .rows [.num], .text] [.int n4, .int n5, .rows r6, .rows r7, .text b8, .int n9, .int n10, .int n11, .rows r12, .rows r13, .text b14] _ h0
    simp only [lays] at he
    exact ⟨rfl, WEnd.bad h0 he, HA.out.trans HK.out⟩
  replace HL := Lib.hid hL
  replace HZ := Lib.hid h0
  have HB4 := Lib.hid (HX.out.keeps HK.out.keeps (by decide))
  have hc4_0 : w4.cell? ⟨w.heap.size, 4, none⟩ = some (.int .i64 n4) := HB4.out.cell 4
  clear hL hK h0
  go_wp2_with fail
  refine (W_num base g n4 _ _ HL.out HZ.out q5.out).mono ?_
  rintro e w5 ⟨hE, hK⟩
  replace HK := Lib.hid (HK.out.trans hK)
  rcases hE with ⟨h0, rfl, hL⟩ | ⟨h0, rfl⟩
  rotate_left
  · have he := lays_err [.num, .rows [.num], .rows [.num], .text, .num, .num, .num, .rows [.num], .rows [.num], .text] [.int n5, .rows r6, .rows r7, .text b8, .int n9, .int n10, .int n11, .rows r12, .rows r13, .text b14] _ h0
    simp only [lays] at he
    exact ⟨rfl, WEnd.bad h0 he, HA.out.trans HK.out⟩
  replace HL := Lib.hid hL
  replace HZ := Lib.hid h0
  have HB5 := Lib.hid (HX.out.keeps HK.out.keeps (by decide))
  have hc5_0 : w5.cell? ⟨w.heap.size, 5, none⟩ = some (.int .i64 n5) := HB5.out.cell 5
  clear hL hK h0
  go_wp2_with fail
  refine (W_num base g n5 _ _ HL.out HZ.out q6.out).mono ?_
  rintro e w6 ⟨hE, hK⟩
  replace HK := Lib.hid (HK.out.trans hK)
  rcases hE with ⟨h0, rfl, hL⟩ | ⟨h0, rfl⟩
  rotate_left
  · have he := lays_err [.rows [.num], .rows [.num], .text, .num, .num, .num, .rows [.num], .rows [.num], .text] [.rows r6, .rows r7, .text b8, .int n9, .int n10, .int n11, .rows r12, .rows r13, .text b14] _ h0
    simp only [lays] at he
    exact ⟨rfl, WEnd.bad h0 he, HA.out.trans HK.out⟩
  replace HL := Lib.hid hL
  replace HZ := Lib.hid h0
  have HB6 := Lib.hid (HX.out.keeps HK.out.keeps (by decide))
  have hc6_0 : w6.cell? ⟨w.heap.size, 6, none⟩ = some (.slice A6 r6.length k6) := HB6.out.cell 6
  have hc6_1 : w6.cell? ⟨w.heap.size, 7, none⟩ = some (.slice A7 r7.length k7) := HB6.out.cell 7
  clear hL hK h0
  go_wp2_with fail
  refine (W_config base g _ _ _ _ HL.out HZ.out (Cels.mk (Cel.mk_rows k6 (R6.out.below (HA.out.trans HK.out).below)) (Cels.mk (Cel.mk_rows k7 (R7.out.below (HA.out.trans HK.out).below)) Cels.mk0)) (by simp only [shConfig, lays]; exact q8.out)).mono ?_
  rintro e w7 ⟨hE, hK⟩
  simp only [shConfig, lays] at hE
  replace HK := Lib.hid (HK.out.trans hK)
  rcases hE with ⟨h0, rfl, hL⟩ | ⟨h0, rfl⟩
  rotate_left
  · have he := lays_err [.text, .num, .num, .num, .rows [.num], .rows [.num], .text] [.text b8, .int n9, .int n10, .int n11, .rows r12, .rows r13, .text b14] _ h0
    simp only [lays] at he
    exact ⟨rfl, WEnd.bad h0 he, HA.out.trans HK.out⟩
  replace HL := Lib.hid hL
  replace HZ := Lib.hid h0
  have HB7 := Lib.hid (HX.out.keeps HK.out.keeps (by decide))
  have hc7_0 : w7.cell? ⟨w.heap.size, 8, none⟩ = some (.string (text b8)) := HB7.out.cell 8
  clear hL hK h0
  go_wp2_with fail
  refine (W_text base g b8 _ _ HL.out HZ.out q9.out).mono ?_
  rintro e w8 ⟨hE, hK⟩
  replace HK := Lib.hid (HK.out.trans hK)
  rcases hE with ⟨h0, rfl, hL⟩ | ⟨h0, rfl⟩
  rotate_left
  · have he := lays_err [.num, .num, .num, .rows [.num], .rows [.num], .text] [.int n9, .int n10, .int n11, .rows r12, .rows r13, .text b14] _ h0
    simp only [lays] at he
    exact ⟨rfl, WEnd.bad h0 he, HA.out.trans HK.out⟩
  replace HL := Lib.hid hL
  replace HZ := Lib.hid h0
  have HB8 := Lib.hid (HX.out.keeps HK.out.keeps (by decide))
  have hc8_0 : w8.cell? ⟨w.heap.size, 9, none⟩ = some (.int .i64 n9) := HB8.out.cell 9
  clear hL hK h0
  go_wp2_with fail
  refine (W_num base g n9 _ _ HL.out HZ.out q10.out).mono ?_
  rintro e w9 ⟨hE, hK⟩
  replace HK := Lib.hid (HK.out.trans hK)
  rcases hE with ⟨h0, rfl, hL⟩ | ⟨h0, rfl⟩
  rotate_left
  · have he := lays_err [.num, .num, .rows [.num], .rows [.num], .text] [.int n10, .int n11, .rows r12, .rows r13, .text b14] _ h0
    simp only [lays] at he
    exact ⟨rfl, WEnd.bad h0 he, HA.out.trans HK.out⟩
  replace HL := Lib.hid hL
  replace HZ := Lib.hid h0
  have HB9 := Lib.hid (HX.out.keeps HK.out.keeps (by decide))
  have hc9_0 : w9.cell? ⟨w.heap.size, 10, none⟩ = some (.int .i64 n10) := HB9.out.cell 10
  clear hL hK h0
  go_wp2_with fail
  refine (W_num base g n10 _ _ HL.out HZ.out q11.out).mono ?_
  rintro e w10 ⟨hE, hK⟩
  replace HK := Lib.hid (HK.out.trans hK)
  rcases hE with ⟨h0, rfl, hL⟩ | ⟨h0, rfl⟩
  rotate_left
  · have he := lays_err [.num, .rows [.num], .rows [.num], .text] [.int n11, .rows r12, .rows r13, .text b14] _ h0
    simp only [lays] at he
    exact ⟨rfl, WEnd.bad h0 he, HA.out.trans HK.out⟩
  replace HL := Lib.hid hL
  replace HZ := Lib.hid h0
  have HB10 := Lib.hid (HX.out.keeps HK.out.keeps (by decide))
  have hc10_0 : w10.cell? ⟨w.heap.size, 11, none⟩ = some (.int .i64 n11) := HB10.out.cell 11
  clear hL hK h0
  go_wp2_with fail
  refine (W_num base g n11 _ _ HL.out HZ.out q12.out).mono ?_
  rintro e w11 ⟨hE, hK⟩
  replace HK := Lib.hid (HK.out.trans hK)
  rcases hE with ⟨h0, rfl, hL⟩ | ⟨h0, rfl⟩
  rotate_left
  · have he := lays_err [.rows [.num], .rows [.num], .text] [.rows r12, .rows r13, .text b14] _ h0
    simp only [lays] at he
    exact ⟨rfl, WEnd.bad h0 he, HA.out.trans HK.out⟩
  replace HL := Lib.hid hL
  replace HZ := Lib.hid h0
  have HB11 := Lib.hid (HX.out.keeps HK.out.keeps (by decide))
  have hc11_0 : w11.cell? ⟨w.heap.size, 12, none⟩ = some (.slice A12 r12.length k12) := HB11.out.cell 12
  have hc11_1 : w11.cell? ⟨w.heap.size, 13, none⟩ = some (.slice A13 r13.length k13) := HB11.out.cell 13
  clear hL hK h0
  go_wp2_with fail
  refine (W_config base g _ _ _ _ HL.out HZ.out (Cels.mk (Cel.mk_rows k12 (R12.out.below (HA.out.trans HK.out).below)) (Cels.mk (Cel.mk_rows k13 (R13.out.below (HA.out.trans HK.out).below)) Cels.mk0)) (by simp only [shConfig, lays]; exact q14.out)).mono ?_
  rintro e w12 ⟨hE, hK⟩
  simp only [shConfig, lays] at hE
  replace HK := Lib.hid (HK.out.trans hK)
  rcases hE with ⟨h0, rfl, hL⟩ | ⟨h0, rfl⟩
  rotate_left
  · have he := lays_err [.text] [.text b14] _ h0
    simp only [lays] at he
    exact ⟨rfl, WEnd.bad h0 he, HA.out.trans HK.out⟩
  replace HL := Lib.hid hL
  replace HZ := Lib.hid h0
  have HB12 := Lib.hid (HX.out.keeps HK.out.keeps (by decide))
  have hc12_0 : w12.cell? ⟨w.heap.size, 14, none⟩ = some (.string (text b14)) := HB12.out.cell 14
  clear hL hK h0
  go_wp2_with fail
  refine (W_text base g b14 _ _ HL.out HZ.out q15.out).mono ?_
  rintro e w13 ⟨hE, hK⟩
  replace HK := Lib.hid (HK.out.trans hK)
  rcases hE with ⟨h0, rfl, hL⟩ | ⟨h0, rfl⟩
  rotate_left
  · exact ⟨rfl, WEnd.bad h0 rfl, HA.out.trans HK.out⟩
  replace HL := Lib.hid hL
  replace HZ := Lib.hid h0
  clear hL hK h0
  go_wp2
  go_end0
  exact ⟨.inl ⟨HZ.out, rfl, HL.out⟩, HA.out.trans HK.out⟩
end Go.Proofs.YtkdmfjpfanmgmaaGreatDoor
namespace Go.Proofs.YtkdmfjpfanmgmaaGreatDoor
open Go.RowKit Le
set_option maxRecDepth 100000
set_option linter.unusedSimpArgs false
theorem fault_is (E : Nat) (w : World) : (Instr.typeAssert (.iface 179 (.agg #[.int .i64 E])) 20 179 false).run Tryz.prog w = .ok (.agg #[.int .i64 E]) w := by kernel_rfl
theorem fault_field (E : Nat) (w : World) : (Instr.field 179 (.agg #[.int .i64 E]) 0).run Tryz.prog w = .ok (.int .i64 E) w := by kernel_rfl
set_option maxHeartbeats 800000 in
theorem caught_idle (p : Addr) (w : World) :
    CallsD Tryz.prog 89 #[.pointer (some p)] .returning w fun e u' w' => e = .returned (.tuple #[]) ∧ u' = .returning ∧ w' = w := by
  refine callsD_of_wpS Tryz.func89 rfl fun c₀ cs hu => ?_
  apply wpS_seq
  apply wpS_region
  simp [wpOpsS, go_sem, recoverD, hu, Tryz.ntmps89, Exit.thenS]
  apply wpS_seq
  apply wpS_region
  simp [wpOpsS, go_sem, recoverD, hu, Tryz.ntmps89, Exit.thenS]
  refine wpS_cond (t := false) (by simp [Act.eval, Array.replicate]) ?_
  simp only [Bool.false_eq_true, if_false]
  refine wpS_of_wp (wp_skip ?_)
  cases c₀
  simp_all [bodyPostS, results]
set_option maxHeartbeats 800000 in
theorem caught_hit (p : Addr) (E : Nat) (x : Int) (older : List PanicEntry) (w : World) (hc : w.cell? p = some (.int .i64 x)) (hz : w.frozen? p = false) :
    CallsD Tryz.prog 89 #[.pointer (some p)] (.panicking ({ v := .iface 179 (.agg #[.int .i64 E]), recovered := false } :: older)) w fun e u' w' =>
      e = .returned (.tuple #[]) ∧ u' = .panicking ({ v := .iface 179 (.agg #[.int .i64 E]), recovered := true } :: older) ∧ w' = w.setCell p (.int .i64 E) := by
  refine callsD_of_wpS Tryz.func89 rfl fun c₀ cs hu => ?_
  apply wpS_seq
  apply wpS_region
  simp [wpOpsS, go_sem, recoverD, hu, Tryz.ntmps89, Exit.thenS]
  apply wpS_seq
  apply wpS_region
  simp [wpOpsS, go_sem, recoverD, hu, Tryz.ntmps89, Exit.thenS]
  refine wpS_cond (t := true) (by simp [Act.eval, Array.replicate]) ?_
  simp only [if_true]
  refine wpS_of_wp ?_
  have hta := fault_is E
  have htf := fault_field E
  clear hu
  go_wp2
  simp [bodyPostS, results]
/-- What comes out. -/
def out (s : St) : List UInt8 := if s.2 = 0 then s.1 else []
/-- How a put ends: the bytes, or the first error. -/
def PutEnd (s : St) (w' : World) (e : Ending) : Prop :=
  ∃ A n c, e = .returned (.tuple #[.slice A n c, .int .i64 s.2]) ∧ n = (out s).length ∧ (n ≤ c ∧ c ≤ 9223372036854775807) ∧ Reads w' w'.heap.size A n (u8s (out s))
theorem own_cap {w : World} {base : Nat} {e : TypeId} {size n c : Nat} {A : Option Addr} {xs : List Value} (h : w.ownsRow base e size (.slice A n c) n xs) : n ≤ c ∧ c ≤ 9223372036854775807 := by
  rcases h.2 with ⟨h1, h2⟩ | ⟨g, cap, cur, h1, _, _, h2, h3, _⟩
  · injection h1 with _ h3 h4
    omega
  · injection h1 with _ _ h4
    subst h4
    exact ⟨h2, h3⟩
end Go.Proofs.YtkdmfjpfanmgmaaGreatDoor
namespace Go.Proofs.YtkdmfjpfanmgmaaGreatDoor
open Go.RowKit Le
/-! ### A row that grows by things of many cells. -/
/-- The things in a row's cells. -/
def Things (w : World) (us : List TypeId) (sh : List Sh) (ds : List (List Da)) (xs : List Value) : Prop :=
  ∀ (j : Nat) (d : List Da), ds[j]? = some d → ∃ vs, Cels w (InT w us) sh d vs ∧ ∀ (i : Nat) (u : Value), vs[i]? = some u → xs[j * sh.length + i]? = some u
theorem Things.nil (w : World) (us : List TypeId) (sh : List Sh) (xs : List Value) : Things w us sh [] xs := fun j d h => by simp at h
theorem Things.keeps {ts us : List TypeId} {w w' : World} {sh : List Sh} {ds : List (List Da)} {xs : List Value} (h : Things w us sh ds xs) (hk : Keeps ts w w') (hd : ∀ t, t ∈ us → t ∉ ts) : Things w' us sh ds xs := fun j d hj => by
  obtain ⟨vs, h1, h2⟩ := h j d hj
  exact ⟨vs, h1.keeps hk hd, h2⟩
theorem Things.snoc {us : List TypeId} {w : World} {sh : List Sh} {ds : List (List Da)} {xs vs : List Value} {d : List Da} (h : Things w us sh ds xs) (hx : xs.length = ds.length * sh.length) (hv : Cels w (InT w us) sh d vs) : Things w us sh (ds ++ [d]) (xs ++ vs) := fun j d' hj => by
  by_cases hlt : j < ds.length
  · rw [List.getElem?_append_left hlt] at hj
    obtain ⟨vs', h1, h2⟩ := h j d' hj
    refine ⟨vs', h1, fun i u hu => ?_⟩
    have h3 := h2 i u hu
    have h4 : j * sh.length + i < xs.length := by
      rcases Nat.lt_or_ge (j * sh.length + i) xs.length with h4 | h4
      · exact h4
      · rw [List.getElem?_eq_none h4] at h3; cases h3
    rw [List.getElem?_append_left h4]
    exact h3
  · have hje : j = ds.length := by
      rcases Nat.lt_or_ge j (ds.length + 1) with h4 | h4
      · omega
      · rw [List.getElem?_eq_none (by simp; omega)] at hj; cases hj
    subst hje
    rw [List.getElem?_append_right (Nat.le_refl _), Nat.sub_self] at hj
    simp only [List.getElem?_cons_zero, Option.some.injEq] at hj
    subst hj
    refine ⟨vs, hv, fun i u hu => ?_⟩
    rw [List.getElem?_append_right (by omega), hx, Nat.add_sub_cancel_left]
    exact hu
theorem Keeps.grown_new {ts : List TypeId} {w w2 w3 : World} {row : Option Nat} (h : Keeps ts w w2) (hg : w2.grownBy w3 row) (hr : ∀ k, row = some k → w.heap.size ≤ k) : Keeps ts w w3 :=
  ⟨Nat.le_trans h.size hg.size, fun k t hk hn => by
    rw [hg.block k (by have := hk.lt; have := h.size; omega) (by intro e; have := hr k e.symm; have := hk.lt; omega)]
    exact h.block k t hk hn⟩
theorem Keeps.then_below {ts : List TypeId} {w w2 w3 : World} (h : Keeps ts w w2) (hb : Below w2.heap.size w2 w3) : Keeps ts w w3 := h.trans (Keeps.of_below hb (Nat.le_refl _))
theorem wpList_appN {P : Program} {w : World} {ops : Array Oper} {rest : List Oper} {o : Oper} {a : Act} {Q : Exit → Act → World → Prop} (hgd : o.guard = none) (s x : Operand) (t : TypeId)
    (ho : o.op = .call { callee := .builtin .append, args := #[s, x], argTypes := #[t, t] })
    (base : Nat) (e : TypeId) (i : TypeInfo) (z : Value) (size bytes : Nat) (ht : P.underlying t = some (.slice e)) (hi : P.info? e = some i) (hz : i.zero = some z)
    (hsize : i.size = size) (hby : i.bytes = bytes) (hzs : z.cells.size = size) (hsz : 0 < size)
    (v : Value) (n : Nat) (xs : List Value) (hs : a.eval s = v) (hown : w.ownsRow base e size v n xs)
    (ad : Addr) (c : Nat) (news : List Value) (hx : a.eval x = .slice (some ad) 1 c) (hl : news.length = size) (hnews : ∀ j u, news[j]? = some u → w.cell? (ad.add j) = some u) (h1 : ∀ u ∈ news, u.oneCell' = true)
    (h63 : n + 1 ≤ maxLen) (hbytes : (n + 1) * bytes ≤ 140737488355328) (hbase : base ≤ w.heap.size)
    (h : ∀ A' c' w', Hid (w'.ownsRow base e size (.slice A' (n + 1) c') (n + 1) (xs ++ news)) → Hid (w.grownBy w' v.ownBlock) → wpList P ops Q rest (a.put o.dst (.slice A' (n + 1) c')) w') : wpList P ops Q (o :: rest) a w := by
  refine wpList_plain hgd fun K hK => ?_
  obtain ⟨v', w', hrun, h2, h3, _⟩ := run_append_own (P := P) w base t o.type e i z size bytes ht hi hz hsize hby hzs hsz v n xs hown ad 1 c news (by rw [hl, Nat.one_mul]) hnews h1 h63 hbytes hbase
  unfold Oper.wp execOp
  simp only [ho, resolve, invoke, builtin, Sem.run_bind, Sem.run_pure, Result.andThen_ok, List.map_toArray, List.map_cons, List.map_nil, hs, hx, hrun]
  obtain ⟨A', c', rfl⟩ := own_slice h2
  exact hK _ _ (h A' c' w' h2 h3)
theorem Blk.news {w : World} {g : Nat} {t : TypeId} {cs : List Value} (h : Blk w g t cs) : ∀ j u, cs[j]? = some u → w.cell? ((⟨g, 0, none⟩ : Addr).add j) = some u := fun j u hu => by
  rw [Addr.add_mid, Nat.zero_add]
  exact (h.cell j).trans hu
theorem Cel.oneCell {w : World} {S : Nat → Prop} {a : Sh} {d : Da} {v : Value} (h : Cel w S a d v) : v.oneCell' = true := by
  cases a with
  | num => obtain ⟨_, _, rfl⟩ := h.num; rfl
  | whole => obtain ⟨_, _, rfl, _⟩ := h.whole; rfl
  | text => obtain ⟨_, _, rfl⟩ := h.txt; rfl
  | flag => obtain ⟨_, _, rfl⟩ := h.flag; rfl
  | rows l => obtain ⟨_, _, _, _, rfl, _⟩ := h.rows; rfl
theorem Cels.oneCell {w : World} {S : Nat → Prop} : ∀ {l : List Sh} {ds : List Da} {vs : List Value}, Cels w S l ds vs → ∀ u ∈ vs, u.oneCell' = true
  | [], ds, vs, h => by
    obtain ⟨rfl, rfl⟩ := h.nil
    intro u hu
    cases hu
  | a :: l, ds, vs, h => by
    obtain ⟨d, ds', v, vs', rfl, rfl, h1, h2⟩ := h.cons
    intro u hu
    rcases List.mem_cons.1 hu with rfl | hu
    · exact h1.oneCell
    · exact h2.oneCell u hu
/-! ### Many cells stored into a known block. -/
/-- Cells laid over a list from offset o on. -/
def laidOver : List Value → Nat → List Value → List Value
  | cs, _, [] => cs
  | cs, o, v :: r => laidOver (cs.set o v) (o + 1) r
theorem Blk.setCells_ {w : World} {g : Nat} {t : TypeId} : ∀ {cs : List Value} (o : Nat) (vs : List Value), Blk w g t cs → Blk (w.setCells g o vs) g t (laidOver cs o vs)
  | _, _, [], h => h
  | _, o, v :: r, h => Blk.setCells_ (o + 1) r (h.set_ o v)
theorem laidOver_mid : ∀ (new : List Value) (pre old post : List Value), old.length = new.length → laidOver (pre ++ (old ++ post)) pre.length new = pre ++ (new ++ post)
  | [], pre, old, post, h => by
    obtain rfl : old = [] := List.eq_nil_of_length_eq_zero h
    rfl
  | v :: r, pre, old, post, h => by
    cases old with
    | nil => simp at h
    | cons u old =>
      have e : (pre ++ (u :: old ++ post)).set pre.length v = (pre ++ [v]) ++ (old ++ post) := by
        rw [List.set_append, if_neg (by omega), Nat.sub_self]
        simp
      have h2 := laidOver_mid r (pre ++ [v]) old post (by simpa using h)
      rw [laidOver, e]
      rw [List.length_append] at h2
      refine h2.trans ?_
      simp
theorem Blk.setCells {w : World} {g : Nat} {t : TypeId} {cs cs' : List Value} (h : Blk w g t cs) (o : Nat) (new : List Value) (pre old post : List Value) (he : cs = pre ++ (old ++ post)) (hl : old.length = new.length) (ho : pre.length = o) (he' : pre ++ (new ++ post) = cs') : Blk (w.setCells g o new) g t cs' := by
  subst ho
  have h2 := h.setCells_ pre.length new
  rwa [he, laidOver_mid new pre old post hl, he'] at h2
theorem Blk.setCells0 {w : World} {g : Nat} {t : TypeId} {cs : List Value} (h : Blk w g t cs) (new : List Value) (hl : cs.length = new.length) : Blk (w.setCells g 0 new) g t new :=
  h.setCells 0 new [] cs [] (by simp) hl rfl (by simp)
theorem Keeps.setCells {ts : List TypeId} {g : Nat} {t : TypeId} (ht : t ∈ ts) : ∀ {w : World} (_ : TypeAt w g t) (o : Nat) (vs : List Value), Keeps ts w (w.setCells g o vs)
  | _, _, _, [] => Keeps.refl _ _
  | _, hg, o, v :: r => (Keeps.set_ hg ht v).trans (Keeps.setCells ht (hg.setCell _ _) (o + 1) r)
theorem below_setCells_ {B g : Nat} (hg : B ≤ g) : ∀ {w : World} (o : Nat) (vs : List Value), Below B w (w.setCells g o vs)
  | _, _, [] => Below.refl _ _
  | _, o, v :: r => ((Below.refl B _).setCell hg v).trans (below_setCells_ hg (o + 1) r)
theorem Blk.there {w : World} {g : Nat} {t : TypeId} {cs : List Value} (h : Blk w g t cs) (o n : Nat) (hn : o + n ≤ cs.length) : w.there g o n := fun j hj => by
  refine ⟨?_, h.frozen _⟩
  rw [h.cell, List.getElem?_eq_getElem (by omega)]
  rfl
theorem Keeps.below_new {ts : List TypeId} {w w2 w3 : World} (h : Keeps ts w w2) (hb : Below w.heap.size w2 w3) : Keeps ts w w3 :=
  ⟨Nat.le_trans h.size hb.size, fun k t hk hn => (hb.block k hk.lt).trans (h.block k t hk hn)⟩
theorem rows_keeps {ts us : List TypeId} {w w' : World} {l : List Sh} {ds : List (List Da)} {A : Option Addr} (h : RowsAt w (InT w us) l ds A) (hk : Keeps ts w w') (hd : ∀ t, t ∈ us → t ∉ ts) : RowsAt w' (InT w' us) l ds A := h.turn (hk.inT hd) (fun _ hp => hk.cell hd hp)
/-- A struct's variable is read whole at the end. -/
theorem results_cell {P : Program} {fn : Func} {t : Tmp} {ty : TypeId} (h : fn.results = #[.cell t ty]) (tmps : Array Value) (w : World) (b : Nat) (hb : tmps.getD t undef = .pointer (some ⟨b, 0, none⟩)) (cs : List Value) (d : TypeDesc) (hc : w.rangeAt b 0 cs)
    (hu : P.underlying ty = some d) (hd : d.isRow = true) (hi : (P.info? ty).map (·.size) = some cs.length) : (results fn tmps).run P w = .ok (.agg cs.toArray) w := by
  have hl := run_loadVar_mid w b 0 ty cs d hc hu hd hi
  have hb' : tmps[t]?.getD undef = .pointer (some ⟨b, 0, none⟩) := by simpa using hb
  simp [results, h, hb', hl, asAddr]
/-! ### A known block loaded whole, stored whole; the world behind is a variable. -/
/-- From w to w' block b alone was written: it holds cs now. -/
structure Stored (w w' : World) (b : Nat) (t : TypeId) (cs : List Value) : Prop where
  blk : Blk w' b t cs
  far : ∀ k, k ≠ b → w'.heap[k]? = w.heap[k]?
  size : w'.heap.size = w.heap.size
  typ : TypeAt w b t
  bel : Below b w w'
section
variable {w w' : World} {b : Nat} {t : TypeId} {cs : List Value}
theorem Stored.keeps (h : Stored w w' b t cs) : Keeps [t] w w' := ⟨Nat.le_of_eq h.size.symm, fun k t' hk hn => h.far k (by rintro rfl; exact hn (by simp [hk.same h.typ]))⟩
theorem Stored.other (h : Stored w w' b t cs) {g : Nat} {t' : TypeId} {cs' : List Value} (hB : Blk w g t' cs') (hne : g ≠ b) : Blk w' g t' cs' := (h.far g hne).trans hB
theorem Stored.below (h : Stored w w' b t cs) {w0 : World} {B : Nat} (hb : Below B w0 w) (hB : B ≤ b) : Below B w0 w' :=
  hb.trans (h.bel.mono hB)
end
theorem setCells_size (w : World) (g : Nat) : ∀ (o : Nat) (vs : List Value), (w.setCells g o vs).heap.size = w.heap.size
  | _, [] => rfl
  | o, v :: r => by rw [show w.setCells g o (v :: r) = (w.setCell ⟨g, o, none⟩ v).setCells g (o + 1) r from rfl, setCells_size]; simp [World.setCell]
theorem setCells_far (w : World) (g : Nat) {k : Nat} (hk : k ≠ g) : ∀ (o : Nat) (vs : List Value), (w.setCells g o vs).heap[k]? = w.heap[k]?
  | _, [] => rfl
  | o, v :: r => by
    rw [show w.setCells g o (v :: r) = (w.setCell ⟨g, o, none⟩ v).setCells g (o + 1) r from rfl, setCells_far _ g hk]
    exact Below.heap_setCell w ⟨g, o, none⟩ v k hk
theorem wpList_load_blk {P : Program} {ops : Array Oper} {rest : List Oper} {op : Oper} {a : Act} {w : World} {Q : Exit → Act → World → Prop} (hgd : op.guard = none) (ty : TypeId) (x : Operand) (ho : op.op = .load ty x)
    (b : Nat) (hx : a.eval x = .pointer (some ⟨b, 0, none⟩)) {t : TypeId} {cs : List Value} (hB : Hid (Blk w b t cs)) {n : Nat} (hn : cs.length = n) {d : TypeDesc} (hu : P.underlying ty = some d) (hd : d.isRow = true) (hi : Hid ((P.info? ty).map (·.size) = some n))
    (h : wpList P ops Q rest (a.put op.dst (.agg cs.toArray)) w) : wpList P ops Q (op :: rest) a w :=
  wpList_load_mid hgd ty x ho b 0 hx cs d hB.out.range0 hu hd (hn ▸ hi.out) h
theorem wpList_store_blk {P : Program} {ops : Array Oper} {rest : List Oper} {op : Oper} {a : Act} {w : World} {Q : Exit → Act → World → Prop} (hgd : op.guard = none) (ty : TypeId) (x y : Operand) (ho : op.op = .store ty x y)
    (b : Nat) (cs : List Value) (hx : a.eval x = .pointer (some ⟨b, 0, none⟩)) (hy : a.eval y = .agg cs.toArray) {t : TypeId} {cs0 : List Value} (hB : Hid (Blk w b t cs0)) {n : Nat} (hn0 : cs0.length = n) (hn : cs.length = n)
    (hi : Hid ((P.info? ty).map (·.size) = some n)) (h1 : ∀ v ∈ cs, v.oneCell' = true)
    (h : ∀ w', Hid (Stored w w' b t cs) → wpList P ops Q rest (a.put op.dst undef) w') : wpList P ops Q (op :: rest) a w := by
  refine wpList_store_mid hgd ty x y ho b 0 cs.toArray hx hy (hB.out.there 0 _ (by simp [hn0, hn])) (by rw [List.size_toArray, hn]; exact hi.out) (all_oneCell_toArray h1) (h _ (Lib.hid ?_))
  exact ⟨hB.out.setCells0 _ (by rw [hn0, hn]), fun k hk => setCells_far w b hk 0 _, setCells_size w b 0 _, hB.out.typ, below_setCells_ (Nat.le_refl _) 0 _⟩
theorem results_blk {P : Program} {fn : Func} {t : Tmp} {ty : TypeId} (h : fn.results = #[.cell t ty]) (tmps : Array Value) (w : World) (b : Nat) (hb : tmps.getD t undef = .pointer (some ⟨b, 0, none⟩)) {t' : TypeId} {cs : List Value} (hB : Hid (Blk w b t' cs)) {n : Nat} (hn : cs.length = n) {d : TypeDesc}
    (hu : P.underlying ty = some d) (hd : d.isRow = true) (hi : Hid ((P.info? ty).map (·.size) = some n)) : (results fn tmps).run P w = .ok (.agg cs.toArray) w :=
  results_cell h tmps w b hb cs d hB.out.range0 hu hd (hn ▸ hi.out)
end Go.Proofs.YtkdmfjpfanmgmaaGreatDoor
