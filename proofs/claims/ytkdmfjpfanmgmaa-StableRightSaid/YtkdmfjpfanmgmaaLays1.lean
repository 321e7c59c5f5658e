/- The walks of the reference that lays: lists and structs. Printed by mklays.py. -/
import Derived.Test.YtkdmfjpfanmgmaaWrit2
import Derived.Test.YtkdmfjpfanmgmaaShapes
namespace Go.Proofs.Ytkdmfjpfanmgmaa
open Go.RowKit Le
set_option maxRecDepth 100000
set_option linter.unusedVariables false

theorem LayAt.lt {w : World} {base g : Nat} {s : St} (h : LayAt w base g s) : base ≤ w.heap.size := by
  obtain ⟨A, n, c, hB, _, hbg⟩ := h
  have := hB.lt
  omega
theorem LayAt.alloc {w : World} {base g : Nat} {s : St} (h : LayAt w base g s) (o : Obj) : LayAt (w.alloc o) base g s := by
  obtain ⟨A, n, c, hB, hO, hbg⟩ := h
  exact ⟨A, n, c, hB.alloc o, hO.alloc o, hbg⟩
theorem L_num (base g : Nat) (N : Int) (s : St) (w : World) (h : LayAt w base g s) (hs : (lay .num (.int N) s).1.length ≤ 1099511627776) :
    Calls Try.prog 61 #[.pointer (some ⟨g, 0, none⟩), .int .i64 N] w fun e w' => e = .returned (.tuple #[]) ∧ LayAt w' base g (lay .num (.int N) s) ∧ Lays base w w' := by
  rw [lay_num_eq]
  exact lay_number base g N s w h (lay_le hs)
theorem L_text (base g : Nat) (b : List UInt8) (s : St) (w : World) (h : LayAt w base g s) (hs : (lay .text (.text b) s).1.length ≤ 1099511627776) :
    Calls Try.prog 63 #[.pointer (some ⟨g, 0, none⟩), .string (text b)] w fun e w' => e = .returned (.tuple #[]) ∧ LayAt w' base g (lay .text (.text b) s) ∧ Lays base w w' := by
  rw [lay_text_eq]
  exact lay_text base g b s w h (lay_le hs)
set_option maxHeartbeats 800000 in
theorem L_many_err (base g : Nat) (N : Int) (s : St) (w : World) (h : LayAt w base g s) (h0 : s.2 ≠ 0) :
    Calls Try.prog 72 #[.pointer (some ⟨g, 0, none⟩), .int .i64 N] w fun e w' => e = .returned (.bool false) ∧ w' = w := by
  obtain ⟨A, n, c, hB, hO, hbg⟩ := h
  obtain ⟨B, E⟩ := s
  dsimp only at h0 hB hO
  have hc1 : w.cell? ⟨g, 1, none⟩ = some (.int .i64 E) := hB.cell 1
  have t1 : ((E : Int) == 0) = false := by simpa using h0
  have t2 : ((E : Int) != 0) = true := by simpa using h0
  clear hB hO
  go_enter Try.func72, Try.ntmps72
  go_wp2
  go_ret
  exact ⟨rfl, rfl⟩
set_option maxHeartbeats 800000 in
theorem L_many_big (base g : Nat) (N : Int) (s : St) (w : World) (h : LayAt w base g s) (h0 : s.2 = 0) (hN : 4096 < N) :
    Calls Try.prog 72 #[.pointer (some ⟨g, 0, none⟩), .int .i64 N] w fun e w' => e = .returned (.bool false) ∧ LayAt w' base g (s.fail 2) ∧ Lays base w w' := by
  obtain ⟨A, n, c, hB, hO, hbg⟩ := h
  obtain ⟨B, E⟩ := s
  dsimp only at h0 hB hO
  subst h0
  have hc1 : w.cell? ⟨g, 1, none⟩ = some (.int .i64 0) := hB.cell 1
  have hf1 : w.frozen? ⟨g, 1, none⟩ = false := hB.frozen 1
  have HB := Lib.hid hB
  have HO := Lib.hid hO
  clear hB hO
  go_enter Try.func72, Try.ntmps72
  go_wp2
  go_ret
  refine ⟨rfl, ⟨A, n, c, HB.out.set_ 1 (.int .i64 2), HO.out.kept (grownBy_setCell (World.grownBy.refl _ _) 1 _) (.inr (blk_own_ne HB.out HO.out (by decide)).symm), hbg⟩, (Below.refl _ _).setCell hbg _, Keeps.set_ HB.out.typ (by simp) _⟩
set_option maxHeartbeats 800000 in
theorem L_many_ok (base g : Nat) (N : Int) (s : St) (w : World) (h : LayAt w base g s) (h0 : s.2 = 0) (hN : N ≤ 4096) (hs : s.1.length ≤ 1099511627776) :
    Calls Try.prog 72 #[.pointer (some ⟨g, 0, none⟩), .int .i64 N] w fun e w' => e = .returned (.bool true) ∧ LayAt w' base g (layNum N s) ∧ Lays base w w' := by
  have C := Lib.hid (lay_number base g N s w h hs)
  obtain ⟨A, n, c, hB, hO, hbg⟩ := h
  obtain ⟨B, E⟩ := s
  dsimp only at h0 hB hO
  subst h0
  have hc1 : w.cell? ⟨g, 1, none⟩ = some (.int .i64 0) := hB.cell 1
  clear hB hO
  go_enter Try.func72, Try.ntmps72
  go_wp2_with fail
  refine (unhide C).mono ?_
  rintro e w1 ⟨rfl, hL, hK⟩
  have HL := Lib.hid hL
  clear hL
  go_wp2
  go_ret
  exact ⟨rfl, HL.out, hK⟩
/-- No list is laid: an error stood, or the list is too long. -/
theorem L_many_no (base g : Nat) (l : List Sh) (ds : List (List Da)) (s : St) (w : World) (h : LayAt w base g s) (h0 : ¬ (s.2 = 0 ∧ ds.length ≤ 4096)) :
    Calls Try.prog 72 #[.pointer (some ⟨g, 0, none⟩), .int .i64 ds.length] w fun e w' => e = .returned (.bool false) ∧ LayAt w' base g (lay (.rows l) (.rows ds) s) ∧ Lays base w w' := by
  by_cases h1 : s.2 = 0
  · have h2 : 4096 < ds.length := by omega
    rw [lay_rows_big h1 h2]
    exact L_many_big base g ds.length s w h h1 (by omega)
  · refine (L_many_err base g ds.length s w h h1).mono ?_
    rintro e w' ⟨rfl, rfl⟩
    rw [lay_rows_err h1]
    exact ⟨rfl, h, Lays.refl _ _⟩

set_option maxHeartbeats 1600000 in
theorem L_set (base g : Nat) (ds : List (List Da)) (A : Option Addr) (c : Nat) (s : St) (w : World) (h : LayAt w base g s) (hR : RowsAt w (· < base) [.num] ds A) (hs : (lay (.rows [.num]) (.rows ds) s).1.length ≤ 1099511627776) :
    Calls Try.prog 68 #[.pointer (some ⟨g, 0, none⟩), .slice A ds.length c] w fun e w' => e = .returned (.tuple #[]) ∧ LayAt w' base g (lay (.rows [.num]) (.rows ds) s) ∧ Lays base w w' := by
  by_cases h0 : s.2 = 0 ∧ ds.length ≤ 4096
  · have C := Lib.hid (L_many_ok base g ds.length s w h h0.1 (by omega) (lay_le hs))
    have HS := Lib.hid hs
    have HR := Lib.hid hR
    have H0 := Lib.hid h0
    clear hR h0 hs h
    go_enter Try.func68, Try.ntmps68
    go_wp2_with fail
    refine (unhide C).mono ?_
    rintro e w1 ⟨rfl, hL, hK⟩
    have HL1 := Lib.hid hL
    have HK1 := Lib.hid hK
    clear hL hK C
    go_wp2
    go_loopw [4] (fun i wr => ∃ j : Nat, j ≤ ds.length ∧ i = .int .i64 j ∧ Hid (LayAt wr base g (foldT [.num] ds j (layNum ds.length s))) ∧ Hid (Lays base w wr)) (fun i _ => ds.length - (intOf i).toNat)
    case atStart => exact ⟨0, Nat.zero_le _, rfl, Lib.hid (by rw [foldT_zero]; exact HL1.out), HK1⟩
    case round =>
      obtain ⟨j, hj, rfl, HL, HK⟩ := hrel
      by_cases hlt : j < ds.length
      · have HQ := Lib.hid (foldT_succ [.num] ds j (layNum ds.length s) hlt)
        have q := foldT_le_lay (l := [.num]) H0.out.1 H0.out.2 (j + 1)
        rw [HQ.out] at q
        obtain ⟨ad, vs, rfl, hC, hcell⟩ := (HR.out.below HK.out.below).at_ hlt
        have had : ∀ {i : Nat}, (ad.add i).block < base := fun {i} => by rw [block_of_add]; exact HR.out.block (by omega)
        obtain ⟨dd, hdd⟩ : ∃ dd, dd = ds[j] := ⟨_, rfl⟩
        rw [← hdd] at hC HQ q
        clear hdd
        obtain ⟨_, _, _, _, rfl, rfl, c0, hC⟩ := hC.cons
        obtain ⟨rfl, rfl⟩ := hC.nil
        obtain ⟨n0, rfl, rfl⟩ := c0.num
        have hc0_0 : wr.cell? (ad.add j) = some (.int .i64 n0) := by have := hcell 0 _ rfl; simpa using this
        have hn4 := H0.out.2
        replace q := Nat.le_trans q HS.out
        replace q : (lays [.num] _ _).1.length ≤ _ := q
        simp only [lays] at q
        have q1 := Lib.hid q
        have q0 := Lib.hid (lay_le q1.out)
        clear q hcell
        have hgo := hlt
        go_wp2_with fail
        refine (L_num base g n0 _ _ HL.out q1.out).mono ?_
        rintro e wr1 ⟨rfl, hL, hK⟩
        replace HL := Lib.hid hL
        replace HK := Lib.hid (HK.out.trans hK)
        have HQK1 := Lib.hid hK.below
        clear hL hK
        go_wp2
        go_roundw
        case rel => exact ⟨j + 1, by omega, by go_num, Lib.hid (by rw [HQ.out]; show LayAt _ _ _ (lays [.num] _ _); simp only [lays]; exact HL.out), HK⟩
        case measure => simp [intOf]; omega
      · go_wp2
        go_end0
        obtain rfl : j = ds.length := by omega
        exact ⟨rfl, by rw [lay_rows_ok H0.out.1 H0.out.2]; exact HL.out, HK.out⟩
  · have C := Lib.hid (L_many_no base g [.num] ds s w h h0)
    clear hR hs h h0
    go_enter Try.func68, Try.ntmps68
    go_wp2_with fail
    refine (unhide C).mono ?_
    rintro e w1 ⟨rfl, hL, hK⟩
    replace hL := Lib.hid hL
    clear C
    go_wp2
    refine bodyPost_ret (results_none rfl _ _ _) rfl ?_
    exact ⟨rfl, hL.out, hK⟩

set_option maxHeartbeats 1600000 in
theorem L_config (base g : Nat) (ds : List Da) (vs : List Value) (s : St) (w : World) (h : LayAt w base g s) (hC : Cels w (· < base) shConfig ds vs) (hs : (lays shConfig ds s).1.length ≤ 1099511627776) :
    Calls Try.prog 62 #[.pointer (some ⟨g, 0, none⟩), .agg vs.toArray] w fun e w' => e = .returned (.tuple #[]) ∧ LayAt w' base g (lays shConfig ds s) ∧ Lays base w w' := by
  replace hC : Cels w (· < base) [.rows [.num], .rows [.num]] ds vs := hC
  obtain ⟨_, _, _, _, rfl, rfl, c0, hC⟩ := hC.cons
  obtain ⟨_, _, _, _, rfl, rfl, c1, hC⟩ := hC.cons
  obtain ⟨rfl, rfl⟩ := hC.nil
  obtain ⟨r0, A0, k0, rfl, rfl, R0⟩ := c0.rows
  replace R0 := Lib.hid R0
  obtain ⟨r1, A1, k1, rfl, rfl, R1⟩ := c1.rows
  replace R1 := Lib.hid R1
  simp only [shConfig, lays] at hs ⊢
  have q2 := Lib.hid hs
  have q1 := Lib.hid (lay_le q2.out)
  have q0 := Lib.hid (lay_le q1.out)
  clear hs
  have hlt := h.lt
  have HA : Hid (Lays base w (w.alloc (.cells #[.slice A0 r0.length k0, .slice A1 r1.length k1] 25))) := Lib.hid (Lays.alloc hlt _)
  have HX : Hid (Blk (w.alloc (.cells #[.slice A0 r0.length k0, .slice A1 r1.length k1] 25)) w.heap.size 25 [.slice A0 r0.length k0, .slice A1 r1.length k1]) := Lib.hid (Blk.new w _ _)
  have HL := Lib.hid (h.alloc (.cells #[.slice A0 r0.length k0, .slice A1 r1.length k1] 25))
  have HK : Hid (Lays base (w.alloc (.cells #[.slice A0 r0.length k0, .slice A1 r1.length k1] 25)) (w.alloc (.cells #[.slice A0 r0.length k0, .slice A1 r1.length k1] 25))) := Lib.hid (Lays.refl _ _)
  clear h
  go_enter Try.func62, Try.ntmps62
  go_wp2_with fail
  refine (L_set base g r0 A0 k0 _ _ HL.out (R0.out.below (HA.out.trans HK.out).below) q1.out).mono ?_
  rintro e w1 ⟨rfl, hL, hK⟩
  replace HL := Lib.hid hL
  replace HK := Lib.hid (HK.out.trans hK)
  have HB1 := Lib.hid (HX.out.keeps HK.out.keeps (by decide))
  have hc1_0 : w1.cell? ⟨w.heap.size, 1, none⟩ = some (.slice A1 r1.length k1) := HB1.out.cell 1
  clear hL hK
  go_wp2_with fail
  refine (L_set base g r1 A1 k1 _ _ HL.out (R1.out.below (HA.out.trans HK.out).below) q2.out).mono ?_
  rintro e w2 ⟨rfl, hL, hK⟩
  replace HL := Lib.hid hL
  replace HK := Lib.hid (HK.out.trans hK)
  clear hL hK
  go_wp2
  go_end0
  exact ⟨rfl, HL.out, HA.out.trans HK.out⟩

set_option maxHeartbeats 1600000 in
theorem L_Record (base g : Nat) (ds : List Da) (vs : List Value) (s : St) (w : World) (h : LayAt w base g s) (hC : Cels w (· < base) shRecord ds vs) (hs : (lays shRecord ds s).1.length ≤ 1099511627776) :
    Calls Try.prog 52 #[.pointer (some ⟨g, 0, none⟩), .agg vs.toArray] w fun e w' => e = .returned (.tuple #[]) ∧ LayAt w' base g (lays shRecord ds s) ∧ Lays base w w' := by
  replace hC : Cels w (· < base) [.num, .num, .num, .num, .num, .num, .rows [.num], .rows [.num], .text, .num, .num, .num, .rows [.num], .rows [.num], .text] ds vs := hC
  obtain ⟨_, _, _, _, rfl, rfl, c0, hC⟩ := hC.cons
  obtain ⟨_, _, _, _, rfl, rfl, c1, hC⟩ := hC.cons
  obtain ⟨_, _, _, _, rfl, rfl, c2, hC⟩ := hC.cons
  obtain ⟨_, _, _, _, rfl, rfl, c3, hC⟩ := hC.cons
  obtain ⟨_, _, _, _, rfl, rfl, c4, hC⟩ := hC.cons
  obtain ⟨_, _, _, _, rfl, rfl, c5, hC⟩ := hC.cons
  obtain ⟨_, _, _, _, rfl, rfl, c6, hC⟩ := hC.cons
  obtain ⟨_, _, _, _, rfl, rfl, c7, hC⟩ := hC.cons
  obtain ⟨_, _, _, _, rfl, rfl, c8, hC⟩ := hC.cons
  obtain ⟨_, _, _, _, rfl, rfl, c9, hC⟩ := hC.cons
  obtain ⟨_, _, _, _, rfl, rfl, c10, hC⟩ := hC.cons
  obtain ⟨_, _, _, _, rfl, rfl, c11, hC⟩ := hC.cons
  obtain ⟨_, _, _, _, rfl, rfl, c12, hC⟩ := hC.cons
  obtain ⟨_, _, _, _, rfl, rfl, c13, hC⟩ := hC.cons
  obtain ⟨_, _, _, _, rfl, rfl, c14, hC⟩ := hC.cons
  obtain ⟨rfl, rfl⟩ := hC.nil
  obtain ⟨n0, rfl, rfl⟩ := c0.num
  obtain ⟨n1, rfl, rfl⟩ := c1.num
  obtain ⟨n2, rfl, rfl⟩ := c2.num
  obtain ⟨n3, rfl, rfl⟩ := c3.num
  obtain ⟨n4, rfl, rfl⟩ := c4.num
  obtain ⟨n5, rfl, rfl⟩ := c5.num
  obtain ⟨r6, A6, k6, rfl, rfl, R6⟩ := c6.rows
  replace R6 := Lib.hid R6
  obtain ⟨r7, A7, k7, rfl, rfl, R7⟩ := c7.rows
  replace R7 := Lib.hid R7
  obtain ⟨b8, rfl, rfl⟩ := c8.txt
  obtain ⟨n9, rfl, rfl⟩ := c9.num
  obtain ⟨n10, rfl, rfl⟩ := c10.num
  obtain ⟨n11, rfl, rfl⟩ := c11.num
  obtain ⟨r12, A12, k12, rfl, rfl, R12⟩ := c12.rows
  replace R12 := Lib.hid R12
  obtain ⟨r13, A13, k13, rfl, rfl, R13⟩ := c13.rows
  replace R13 := Lib.hid R13
  obtain ⟨b14, rfl, rfl⟩ := c14.txt
  simp only [shRecord, lays] at hs ⊢
  have q15 := Lib.hid hs
  have q14 := Lib.hid (lay_le q15.out)
  have q13 := Lib.hid (lay_le q14.out)
  have q12 := Lib.hid (lay_le q13.out)
  have q11 := Lib.hid (lay_le q12.out)
  have q10 := Lib.hid (lay_le q11.out)
  have q9 := Lib.hid (lay_le q10.out)
  have q8 := Lib.hid (lay_le q9.out)
  have q7 := Lib.hid (lay_le q8.out)
  have q6 := Lib.hid (lay_le q7.out)
  have q5 := Lib.hid (lay_le q6.out)
  have q4 := Lib.hid (lay_le q5.out)
  have q3 := Lib.hid (lay_le q4.out)
  have q2 := Lib.hid (lay_le q3.out)
  have q1 := Lib.hid (lay_le q2.out)
  have q0 := Lib.hid (lay_le q1.out)
  clear hs
  have hlt := h.lt
  have HA : Hid (Lays base w (w.alloc (.cells #[.int .i64 n0, .int .i64 n1, .int .i64 n2, .int .i64 n3, .int .i64 n4, .int .i64 n5, .slice A6 r6.length k6, .slice A7 r7.length k7, .string (text b8), .int .i64 n9, .int .i64 n10, .int .i64 n11, .slice A12 r12.length k12, .slice A13 r13.length k13, .string (text b14)] 36))) := Lib.hid (Lays.alloc hlt _)
  have HX : Hid (Blk (w.alloc (.cells #[.int .i64 n0, .int .i64 n1, .int .i64 n2, .int .i64 n3, .int .i64 n4, .int .i64 n5, .slice A6 r6.length k6, .slice A7 r7.length k7, .string (text b8), .int .i64 n9, .int .i64 n10, .int .i64 n11, .slice A12 r12.length k12, .slice A13 r13.length k13, .string (text b14)] 36)) w.heap.size 36 [.int .i64 n0, .int .i64 n1, .int .i64 n2, .int .i64 n3, .int .i64 n4, .int .i64 n5, .slice A6 r6.length k6, .slice A7 r7.length k7, .string (text b8), .int .i64 n9, .int .i64 n10, .int .i64 n11, .slice A12 r12.length k12, .slice A13 r13.length k13, .string (text b14)]) := Lib.hid (Blk.new w _ _)
  have HL := Lib.hid (h.alloc (.cells #[.int .i64 n0, .int .i64 n1, .int .i64 n2, .int .i64 n3, .int .i64 n4, .int .i64 n5, .slice A6 r6.length k6, .slice A7 r7.length k7, .string (text b8), .int .i64 n9, .int .i64 n10, .int .i64 n11, .slice A12 r12.length k12, .slice A13 r13.length k13, .string (text b14)] 36))
  have HK : Hid (Lays base (w.alloc (.cells #[.int .i64 n0, .int .i64 n1, .int .i64 n2, .int .i64 n3, .int .i64 n4, .int .i64 n5, .slice A6 r6.length k6, .slice A7 r7.length k7, .string (text b8), .int .i64 n9, .int .i64 n10, .int .i64 n11, .slice A12 r12.length k12, .slice A13 r13.length k13, .string (text b14)] 36)) (w.alloc (.cells #[.int .i64 n0, .int .i64 n1, .int .i64 n2, .int .i64 n3, .int .i64 n4, .int .i64 n5, .slice A6 r6.length k6, .slice A7 r7.length k7, .string (text b8), .int .i64 n9, .int .i64 n10, .int .i64 n11, .slice A12 r12.length k12, .slice A13 r13.length k13, .string (text b14)] 36))) := Lib.hid (Lays.refl _ _)
  clear h
  go_enter Try.func52, Try.ntmps52
  go_wp2_with fail
  refine (L_num base g n0 _ _ HL.out q1.out).mono ?_
  rintro e w1 ⟨rfl, hL, hK⟩
  replace HL := Lib.hid hL
  replace HK := Lib.hid (HK.out.trans hK)
  have HB1 := Lib.hid (HX.out.keeps HK.out.keeps (by decide))
  have hc1_0 : w1.cell? ⟨w.heap.size, 1, none⟩ = some (.int .i64 n1) := HB1.out.cell 1
  clear hL hK
  go_wp2_with fail
  refine (L_num base g n1 _ _ HL.out q2.out).mono ?_
  rintro e w2 ⟨rfl, hL, hK⟩
  replace HL := Lib.hid hL
  replace HK := Lib.hid (HK.out.trans hK)
  have HB2 := Lib.hid (HX.out.keeps HK.out.keeps (by decide))
  have hc2_0 : w2.cell? ⟨w.heap.size, 2, none⟩ = some (.int .i64 n2) := HB2.out.cell 2
  clear hL hK
  go_wp2_with fail
  refine (L_num base g n2 _ _ HL.out q3.out).mono ?_
  rintro e w3 ⟨rfl, hL, hK⟩
  replace HL := Lib.hid hL
  replace HK := Lib.hid (HK.out.trans hK)
  have HB3 := Lib.hid (HX.out.keeps HK.out.keeps (by decide))
  have hc3_0 : w3.cell? ⟨w.heap.size, 3, none⟩ = some (.int .i64 n3) := HB3.out.cell 3
  clear hL hK
  go_wp2_with fail
  refine (L_num base g n3 _ _ HL.out q4.out).mono ?_
  rintro e w4 ⟨rfl, hL, hK⟩
  replace HL := Lib.hid hL
  replace HK := Lib.hid (HK.out.trans hK)
  have HB4 := Lib.hid (HX.out.keeps HK.out.keeps (by decide))
  have hc4_0 : w4.cell? ⟨w.heap.size, 4, none⟩ = some (.int .i64 n4) := HB4.out.cell 4
  clear hL hK
  go_wp2_with fail
  refine (L_num base g n4 _ _ HL.out q5.out).mono ?_
  rintro e w5 ⟨rfl, hL, hK⟩
  replace HL := Lib.hid hL
  replace HK := Lib.hid (HK.out.trans hK)
  have HB5 := Lib.hid (HX.out.keeps HK.out.keeps (by decide))
  have hc5_0 : w5.cell? ⟨w.heap.size, 5, none⟩ = some (.int .i64 n5) := HB5.out.cell 5
  clear hL hK
  go_wp2_with fail
  refine (L_num base g n5 _ _ HL.out q6.out).mono ?_
  rintro e w6 ⟨rfl, hL, hK⟩
  replace HL := Lib.hid hL
  replace HK := Lib.hid (HK.out.trans hK)
  have HB6 := Lib.hid (HX.out.keeps HK.out.keeps (by decide))
  have hc6_0 : w6.cell? ⟨w.heap.size, 6, none⟩ = some (.slice A6 r6.length k6) := HB6.out.cell 6
  have hc6_1 : w6.cell? ⟨w.heap.size, 7, none⟩ = some (.slice A7 r7.length k7) := HB6.out.cell 7
  clear hL hK
  go_wp2_with fail
  refine (L_config base g _ _ _ _ HL.out (Cels.mk (Cel.mk_rows k6 (R6.out.below (HA.out.trans HK.out).below)) (Cels.mk (Cel.mk_rows k7 (R7.out.below (HA.out.trans HK.out).below)) Cels.mk0)) (by simp only [shConfig, lays]; exact q8.out)).mono ?_
  rintro e w7 ⟨rfl, hL, hK⟩
  simp only [shConfig, lays] at hL
  replace HL := Lib.hid hL
  replace HK := Lib.hid (HK.out.trans hK)
  have HB7 := Lib.hid (HX.out.keeps HK.out.keeps (by decide))
  have hc7_0 : w7.cell? ⟨w.heap.size, 8, none⟩ = some (.string (text b8)) := HB7.out.cell 8
  clear hL hK
  go_wp2_with fail
  refine (L_text base g b8 _ _ HL.out q9.out).mono ?_
  rintro e w8 ⟨rfl, hL, hK⟩
  replace HL := Lib.hid hL
  replace HK := Lib.hid (HK.out.trans hK)
  have HB8 := Lib.hid (HX.out.keeps HK.out.keeps (by decide))
  have hc8_0 : w8.cell? ⟨w.heap.size, 9, none⟩ = some (.int .i64 n9) := HB8.out.cell 9
  clear hL hK
  go_wp2_with fail
  refine (L_num base g n9 _ _ HL.out q10.out).mono ?_
  rintro e w9 ⟨rfl, hL, hK⟩
  replace HL := Lib.hid hL
  replace HK := Lib.hid (HK.out.trans hK)
  have HB9 := Lib.hid (HX.out.keeps HK.out.keeps (by decide))
  have hc9_0 : w9.cell? ⟨w.heap.size, 10, none⟩ = some (.int .i64 n10) := HB9.out.cell 10
  clear hL hK
  go_wp2_with fail
  refine (L_num base g n10 _ _ HL.out q11.out).mono ?_
  rintro e w10 ⟨rfl, hL, hK⟩
  replace HL := Lib.hid hL
  replace HK := Lib.hid (HK.out.trans hK)
  have HB10 := Lib.hid (HX.out.keeps HK.out.keeps (by decide))
  have hc10_0 : w10.cell? ⟨w.heap.size, 11, none⟩ = some (.int .i64 n11) := HB10.out.cell 11
  clear hL hK
  go_wp2_with fail
  refine (L_num base g n11 _ _ HL.out q12.out).mono ?_
  rintro e w11 ⟨rfl, hL, hK⟩
  replace HL := Lib.hid hL
  replace HK := Lib.hid (HK.out.trans hK)
  have HB11 := Lib.hid (HX.out.keeps HK.out.keeps (by decide))
  have hc11_0 : w11.cell? ⟨w.heap.size, 12, none⟩ = some (.slice A12 r12.length k12) := HB11.out.cell 12
  have hc11_1 : w11.cell? ⟨w.heap.size, 13, none⟩ = some (.slice A13 r13.length k13) := HB11.out.cell 13
  clear hL hK
  go_wp2_with fail
  refine (L_config base g _ _ _ _ HL.out (Cels.mk (Cel.mk_rows k12 (R12.out.below (HA.out.trans HK.out).below)) (Cels.mk (Cel.mk_rows k13 (R13.out.below (HA.out.trans HK.out).below)) Cels.mk0)) (by simp only [shConfig, lays]; exact q14.out)).mono ?_
  rintro e w12 ⟨rfl, hL, hK⟩
  simp only [shConfig, lays] at hL
  replace HL := Lib.hid hL
  replace HK := Lib.hid (HK.out.trans hK)
  have HB12 := Lib.hid (HX.out.keeps HK.out.keeps (by decide))
  have hc12_0 : w12.cell? ⟨w.heap.size, 14, none⟩ = some (.string (text b14)) := HB12.out.cell 14
  clear hL hK
  go_wp2_with fail
  refine (L_text base g b14 _ _ HL.out q15.out).mono ?_
  rintro e w13 ⟨rfl, hL, hK⟩
  replace HL := Lib.hid hL
  replace HK := Lib.hid (HK.out.trans hK)
  clear hL hK
  go_wp2
  go_end0
  exact ⟨rfl, HL.out, HA.out.trans HK.out⟩

end Go.Proofs.Ytkdmfjpfanmgmaa
