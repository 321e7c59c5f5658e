/- The walks of the program's writer: lists and structs. Printed by mkwr.py. -/
import Derived.Test.YtkdmfjpfanmgmaaWr1
namespace Go.Proofs.Ytkdmfjpfanmgmaa
open Go.RowKit Le
set_option maxRecDepth 100000
set_option linter.unusedVariables false

set_option maxHeartbeats 1600000 in
theorem W_many_int (base g : Nat) (ds : List (List Da)) (A : Option Addr) (c : Nat) (s : St) (w : World) (h : WrAt w base g s.1) (hz : s.2 = 0) (hR : RowsAt w (· < base) [.num] ds A) (hs : (lay (.rows [.num]) (.rows ds) s).1.length ≤ 1099511627776) :
    Calls Try.prog 65 #[.pointer (some ⟨g, 0, none⟩), .slice A ds.length c, .func (.func 57) #[] #[]] w fun e w' => WEnd (lay (.rows [.num]) (.rows ds) s) w' base g e ∧ Wrs base w w' := by
  by_cases h4 : ds.length ≤ 4096
  · have e4 := lay_rows_ok (l := [.num]) hz h4
    have C := Lib.hid (W_num base g ds.length s w h hz (by rw [lay_num_eq, ← foldT_zero [.num] ds (layNum _ s)]; exact Nat.le_trans (foldT_le_lay hz h4 0) hs))
    have HS := Lib.hid hs
    have HR := Lib.hid hR
    have HZ := Lib.hid hz
    have H4 := Lib.hid e4
    clear hR hs h hz e4
    go_enter Try.func65, Try.ntmps65
    go_wp2_with fail
    refine (unhide C).mono ?_
    rintro e w1 ⟨hE, hK⟩
    have HK1 := Lib.hid hK
    clear hK C
    rcases hE with ⟨h0, rfl, hL⟩ | ⟨h0, rfl⟩
    · rw [lay_num_eq] at h0 hL
      have HL1 := Lib.hid hL
      have H01 := Lib.hid h0
      clear hL h0
      go_wp2
      go_loopw [19] (fun i wr => ∃ j : Nat, j ≤ ds.length ∧ i = .int .i64 j ∧ Hid ((foldT [.num] ds j (layNum ds.length s)).2 = 0) ∧ Hid (WrAt wr base g (foldT [.num] ds j (layNum ds.length s)).1) ∧ Hid (Wrs base w wr)) (fun i _ => ds.length - (intOf i).toNat)
      case atStart => exact ⟨0, Nat.zero_le _, rfl, Lib.hid (by rw [foldT_zero]; exact H01.out), Lib.hid (by rw [foldT_zero]; exact HL1.out), HK1⟩
      case round =>
        obtain ⟨j, hj, rfl, H0, HL, HK⟩ := hrel
        by_cases hlt : j < ds.length
        · have HQ := Lib.hid (foldT_succ [.num] ds j (layNum ds.length s) hlt)
          have q := foldT_le_lay (l := [.num]) HZ.out h4 (j + 1)
          rw [HQ.out] at q
          obtain ⟨ad, vs, rfl, hC, hcell⟩ := (HR.out.below HK.out.below).at_ hlt
          obtain ⟨dd, hdd⟩ : ∃ dd, dd = ds[j] := ⟨_, rfl⟩
          rw [← hdd] at hC HQ q
          clear hdd
          have HQ4 := Lib.hid (Nat.le_trans q HS.out)
          clear q
          obtain ⟨_, _, _, _, rfl, rfl, c0, hC⟩ := hC.cons
          obtain ⟨rfl, rfl⟩ := hC.nil
          obtain ⟨n0, rfl, rfl⟩ := c0.num
          have hc0_0 : wr.cell? (ad.add j) = some (.int .i64 n0) := by have := hcell 0 _ rfl; simpa using this
          clear hcell
          have hlt2 := HL.out.lt
          go_wp2_with fail
          refine (W_num base g n0 _ _ HL.out H0.out (by have := HQ4.out; simpa only [lays] using this)).mono ?_
          rintro e wr1 ⟨hE, hK⟩
          replace HK := Lib.hid (HK.out.trans hK)
          rcases hE with ⟨h0, rfl, hL⟩ | ⟨h0, rfl⟩
          all_goals have HQ1 : Hid (foldT [.num] ds (j + 1) (layNum ds.length s) = lay .num (.int n0) (foldT [.num] ds j (layNum ds.length s))) := Lib.hid (by rw [HQ.out]; simp only [lays])
          · rw [← HQ1.out] at h0 hL
            replace HL := Lib.hid hL
            replace H0 := Lib.hid h0
            clear hL h0 hK
            go_wp2
            go_roundw
            case rel => exact ⟨j + 1, by omega, by go_num, H0, HL, HK⟩
            case measure => simp [intOf]; omega
          · rw [← HQ1.out] at h0 ⊢
            refine ⟨rfl, WEnd.bad h0 (by rw [H4.out]; exact foldT_err _ _ _ _ h0), HK.out⟩
        · go_wp2
          go_end0
          obtain rfl : j = ds.length := by omega
          exact ⟨.inl ⟨by rw [H4.out]; exact H0.out, rfl, by rw [H4.out]; exact HL.out⟩, HK.out⟩
    · refine ⟨rfl, WEnd.bad h0 ?_, HK1.out⟩
      rw [H4.out, lay_num_eq]
      rw [lay_num_eq, ← foldT_zero [.num] ds (layNum _ s)] at h0
      rw [foldT_err [.num] ds 0 _ h0, foldT_zero]
  · have HE : Hid ((lay (.rows [.num]) (.rows ds) s).2 = 2) := Lib.hid (by rw [lay_rows_big hz (by omega)]; simp [St.fail, hz])
    clear hR hs h hz
    go_enter Try.func65, Try.ntmps65
    go_wp2
    exact ⟨rfl, WEnd.bad (E := 2) (by decide) HE.out, Wrs.refl _ _⟩

set_option maxHeartbeats 1600000 in
theorem W_config (base g : Nat) (ds : List Da) (vs : List Value) (s : St) (w : World) (h : WrAt w base g s.1) (hz : s.2 = 0) (hC : Cels w (· < base) shConfig ds vs) (hs : (lays shConfig ds s).1.length ≤ 1099511627776) :
    Calls Try.prog 58 #[.pointer (some ⟨g, 0, none⟩), .agg vs.toArray] w fun e w' => WEnd (lays shConfig ds s) w' base g e ∧ Wrs base w w' := by
  replace hC : Cels w (· < base) [.rows [.num], .rows [.num]] ds vs := hC
  obtain ⟨_, _, _, _, rfl, rfl, c0, hC⟩ := hC.cons
  obtain ⟨_, _, _, _, rfl, rfl, c1, hC⟩ := hC.cons
  obtain ⟨rfl, rfl⟩ := hC.nil
  obtain ⟨r0, A0, k0, rfl, rfl, R0⟩ := c0.rows
  replace R0 := Lib.hid R0
  obtain ⟨r1, A1, k1, rfl, rfl, R1⟩ := c1.rows
  replace R1 := Lib.hid R1
  simp only [shConfig, lays] at hs ⊢
  have q2 := Lib.hid hs
  have q1 := Lib.hid (lay_le q2.out)
  have q0 := Lib.hid (lay_le q1.out)
  clear hs
  have hlt := h.lt
  have HA : Hid (Wrs base w (w.alloc (.cells #[.slice A0 r0.length k0, .slice A1 r1.length k1] 25))) := Lib.hid (Wrs.alloc hlt _)
  have HX : Hid (Blk (w.alloc (.cells #[.slice A0 r0.length k0, .slice A1 r1.length k1] 25)) w.heap.size 25 [.slice A0 r0.length k0, .slice A1 r1.length k1]) := Lib.hid (Blk.new w _ _)
  have HL := Lib.hid (h.alloc (.cells #[.slice A0 r0.length k0, .slice A1 r1.length k1] 25))
  have HK : Hid (Wrs base (w.alloc (.cells #[.slice A0 r0.length k0, .slice A1 r1.length k1] 25)) (w.alloc (.cells #[.slice A0 r0.length k0, .slice A1 r1.length k1] 25))) := Lib.hid (Wrs.refl _ _)
  have HZ := Lib.hid hz
  clear h hz
  go_enter Try.func58, Try.ntmps58
  go_wp2_with fail
  refine (W_many_int base g r0 A0 k0 _ _ HL.out HZ.out (R0.out.below (HA.out.trans HK.out).below) q1.out).mono ?_
  rintro e w1 ⟨hE, hK⟩
  replace HK := Lib.hid (HK.out.trans hK)
  rcases hE with ⟨h0, rfl, hL⟩ | ⟨h0, rfl⟩
  rotate_left
  · have he := lays_err [.rows [.num]] [.rows r1] _ h0
    simp only [lays] at he
    exact ⟨rfl, WEnd.bad h0 he, HA.out.trans HK.out⟩
  replace HL := Lib.hid hL
  replace HZ := Lib.hid h0
  have HB1 := Lib.hid (HX.out.keeps HK.out.keeps (by decide))
  have hc1_0 : w1.cell? ⟨w.heap.size, 1, none⟩ = some (.slice A1 r1.length k1) := HB1.out.cell 1
  clear hL hK h0
  go_wp2_with fail
  refine (W_many_int base g r1 A1 k1 _ _ HL.out HZ.out (R1.out.below (HA.out.trans HK.out).below) q2.out).mono ?_
  rintro e w2 ⟨hE, hK⟩
  replace HK := Lib.hid (HK.out.trans hK)
  rcases hE with ⟨h0, rfl, hL⟩ | ⟨h0, rfl⟩
  rotate_left
  · exact ⟨rfl, WEnd.bad h0 rfl, HA.out.trans HK.out⟩
  replace HL := Lib.hid hL
  replace HZ := Lib.hid h0
  clear hL hK h0
  go_wp2
  go_end0
  exact ⟨.inl ⟨HZ.out, rfl, HL.out⟩, HA.out.trans HK.out⟩

set_option maxHeartbeats 1600000 in
theorem W_record (base g : Nat) (ds : List Da) (vs : List Value) (s : St) (w : World) (h : WrAt w base g s.1) (hz : s.2 = 0) (hC : Cels w (· < base) shRecord ds vs) (hs : (lays shRecord ds s).1.length ≤ 1099511627776) :
    Calls Try.prog 48 #[.pointer (some ⟨g, 0, none⟩), .agg vs.toArray] w fun e w' => WEnd (lays shRecord ds s) w' base g e ∧ Wrs base w w' := by
  replace hC : Cels w (· < base) [.num, .num, .num, .num, .num, .num, .rows [.num], .rows [.num], .text, .num, .num, .num, .rows [.num], .rows [.num], .text] ds vs := hC
  obtain ⟨_, _, _, _, rfl, rfl, c0, hC⟩ := hC.cons
  obtain ⟨_, _, _, _, rfl, rfl, c1, hC⟩ := hC.cons
  obtain ⟨_, _, _, _, rfl, rfl, c2, hC⟩ := hC.cons
  obtain ⟨_, _, _, _, rfl, rfl, c3, hC⟩ := hC.cons
  obtain ⟨_, _, _, _, rfl, rfl, c4, hC⟩ := hC.cons
  obtain ⟨_, _, _, _, rfl, rfl, c5, hC⟩ := hC.cons
  obtain ⟨_, _, _, _, rfl, rfl, c6, hC⟩ := hC.cons
  obtain ⟨_, _, _, _, rfl, rfl, c7, hC⟩ := hC.cons
  obtain ⟨_, _, _, _, rfl, rfl, c8, hC⟩ := hC.cons
  obtain ⟨_, _, _, _, rfl, rfl, c9, hC⟩ := hC.cons
  obtain ⟨_, _, _, _, rfl, rfl, c10, hC⟩ := hC.cons
  obtain ⟨_, _, _, _, rfl, rfl, c11, hC⟩ := hC.cons
  obtain ⟨_, _, _, _, rfl, rfl, c12, hC⟩ := hC.cons
  obtain ⟨_, _, _, _, rfl, rfl, c13, hC⟩ := hC.cons
  obtain ⟨_, _, _, _, rfl, rfl, c14, hC⟩ := hC.cons
  obtain ⟨rfl, rfl⟩ := hC.nil
  obtain ⟨n0, rfl, rfl⟩ := c0.num
  obtain ⟨n1, rfl, rfl⟩ := c1.num
  obtain ⟨n2, rfl, rfl⟩ := c2.num
  obtain ⟨n3, rfl, rfl⟩ := c3.num
  obtain ⟨n4, rfl, rfl⟩ := c4.num
  obtain ⟨n5, rfl, rfl⟩ := c5.num
  obtain ⟨r6, A6, k6, rfl, rfl, R6⟩ := c6.rows
  replace R6 := Lib.hid R6
  obtain ⟨r7, A7, k7, rfl, rfl, R7⟩ := c7.rows
  replace R7 := Lib.hid R7
  obtain ⟨b8, rfl, rfl⟩ := c8.txt
  obtain ⟨n9, rfl, rfl⟩ := c9.num
  obtain ⟨n10, rfl, rfl⟩ := c10.num
  obtain ⟨n11, rfl, rfl⟩ := c11.num
  obtain ⟨r12, A12, k12, rfl, rfl, R12⟩ := c12.rows
  replace R12 := Lib.hid R12
  obtain ⟨r13, A13, k13, rfl, rfl, R13⟩ := c13.rows
  replace R13 := Lib.hid R13
  obtain ⟨b14, rfl, rfl⟩ := c14.txt
  simp only [shRecord, lays] at hs ⊢
  have q15 := Lib.hid hs
  have q14 := Lib.hid (lay_le q15.out)
  have q13 := Lib.hid (lay_le q14.out)
  have q12 := Lib.hid (lay_le q13.out)
  have q11 := Lib.hid (lay_le q12.out)
  have q10 := Lib.hid (lay_le q11.out)
  have q9 := Lib.hid (lay_le q10.out)
  have q8 := Lib.hid (lay_le q9.out)
  have q7 := Lib.hid (lay_le q8.out)
  have q6 := Lib.hid (lay_le q7.out)
  have q5 := Lib.hid (lay_le q6.out)
  have q4 := Lib.hid (lay_le q5.out)
  have q3 := Lib.hid (lay_le q4.out)
  have q2 := Lib.hid (lay_le q3.out)
  have q1 := Lib.hid (lay_le q2.out)
  have q0 := Lib.hid (lay_le q1.out)
  clear hs
  have hlt := h.lt
  have HA : Hid (Wrs base w (w.alloc (.cells #[.int .i64 n0, .int .i64 n1, .int .i64 n2, .int .i64 n3, .int .i64 n4, .int .i64 n5, .slice A6 r6.length k6, .slice A7 r7.length k7, .string (text b8), .int .i64 n9, .int .i64 n10, .int .i64 n11, .slice A12 r12.length k12, .slice A13 r13.length k13, .string (text b14)] 36))) := Lib.hid (Wrs.alloc hlt _)
  have HX : Hid (Blk (w.alloc (.cells #[.int .i64 n0, .int .i64 n1, .int .i64 n2, .int .i64 n3, .int .i64 n4, .int .i64 n5, .slice A6 r6.length k6, .slice A7 r7.length k7, .string (text b8), .int .i64 n9, .int .i64 n10, .int .i64 n11, .slice A12 r12.length k12, .slice A13 r13.length k13, .string (text b14)] 36)) w.heap.size 36 [.int .i64 n0, .int .i64 n1, .int .i64 n2, .int .i64 n3, .int .i64 n4, .int .i64 n5, .slice A6 r6.length k6, .slice A7 r7.length k7, .string (text b8), .int .i64 n9, .int .i64 n10, .int .i64 n11, .slice A12 r12.length k12, .slice A13 r13.length k13, .string (text b14)]) := Lib.hid (Blk.new w _ _)
  have HL := Lib.hid (h.alloc (.cells #[.int .i64 n0, .int .i64 n1, .int .i64 n2, .int .i64 n3, .int .i64 n4, .int .i64 n5, .slice A6 r6.length k6, .slice A7 r7.length k7, .string (text b8), .int .i64 n9, .int .i64 n10, .int .i64 n11, .slice A12 r12.length k12, .slice A13 r13.length k13, .string (text b14)] 36))
  have HK : Hid (Wrs base (w.alloc (.cells #[.int .i64 n0, .int .i64 n1, .int .i64 n2, .int .i64 n3, .int .i64 n4, .int .i64 n5, .slice A6 r6.length k6, .slice A7 r7.length k7, .string (text b8), .int .i64 n9, .int .i64 n10, .int .i64 n11, .slice A12 r12.length k12, .slice A13 r13.length k13, .string (text b14)] 36)) (w.alloc (.cells #[.int .i64 n0, .int .i64 n1, .int .i64 n2, .int .i64 n3, .int .i64 n4, .int .i64 n5, .slice A6 r6.length k6, .slice A7 r7.length k7, .string (text b8), .int .i64 n9, .int .i64 n10, .int .i64 n11, .slice A12 r12.length k12, .slice A13 r13.length k13, .string (text b14)] 36))) := Lib.hid (Wrs.refl _ _)
  have HZ := Lib.hid hz
  clear h hz
  go_enter Try.func48, Try.ntmps48
  go_wp2_with fail
  refine (W_num base g n0 _ _ HL.out HZ.out q1.out).mono ?_
  rintro e w1 ⟨hE, hK⟩
  replace HK := Lib.hid (HK.out.trans hK)
  rcases hE with ⟨h0, rfl, hL⟩ | ⟨h0, rfl⟩
  rotate_left
  · have he := lays_err [.num, .num, .num, .num, .num, .rows [.num], .rows [.num], .text, .num, .num, .num, .rows [.num], .rows [.num], .text] [.int n1, .int n2, .int n3, .int n4, .int n5, .rows r6, .rows r7, .text b8, .int n9, .int n10, .int n11, .rows r12, .rows r13, .text b14] _ h0
    simp only [lays] at he
    exact ⟨rfl, WEnd.bad h0 he, HA.out.trans HK.out⟩
  replace HL := Lib.hid hL
  replace HZ := Lib.hid h0
  have HB1 := Lib.hid (HX.out.keeps HK.out.keeps (by decide))
  have hc1_0 : w1.cell? ⟨w.heap.size, 1, none⟩ = some (.int .i64 n1) := HB1.out.cell 1
  clear hL hK h0
  go_wp2_with fail
  refine (W_num base g n1 _ _ HL.out HZ.out q2.out).mono ?_
  rintro e w2 ⟨hE, hK⟩
  replace HK := Lib.hid (HK.out.trans hK)
  rcases hE with ⟨h0, rfl, hL⟩ | ⟨h0, rfl⟩
  rotate_left
  · have he := lays_err [.num, .num, .num, .num, .rows [.num], .rows [.num], .text, .num, .num, .num, .rows [.num], .rows [.num], .text] [.int n2, .int n3, .int n4, .int n5, .rows r6, .rows r7, .text b8, .int n9, .int n10, .int n11, .rows r12, .rows r13, .text b14] _ h0
    simp only [lays] at he
    exact ⟨rfl, WEnd.bad h0 he, HA.out.trans HK.out⟩
  replace HL := Lib.hid hL
  replace HZ := Lib.hid h0
  have HB2 := Lib.hid (HX.out.keeps HK.out.keeps (by decide))
  have hc2_0 : w2.cell? ⟨w.heap.size, 2, none⟩ = some (.int .i64 n2) := HB2.out.cell 2
  clear hL hK h0
  go_wp2_with fail
  refine (W_num base g n2 _ _ HL.out HZ.out q3.out).mono ?_
  rintro e w3 ⟨hE, hK⟩
  replace HK := Lib.hid (HK.out.trans hK)
  rcases hE with ⟨h0, rfl, hL⟩ | ⟨h0, rfl⟩
  rotate_left
  · have he := lays_err [.num, .num, .num, .rows [.num], .rows [.num], .text, .num, .num, .num, .rows [.num], .rows [.num], .text] [.int n3, .int n4, .int n5, .rows r6, .rows r7, .text b8, .int n9, .int n10, .int n11, .rows r12, .rows r13, .text b14] _ h0
    simp only [lays] at he
    exact ⟨rfl, WEnd.bad h0 he, HA.out.trans HK.out⟩
  replace HL := Lib.hid hL
  replace HZ := Lib.hid h0
  have HB3 := Lib.hid (HX.out.keeps HK.out.keeps (by decide))
  have hc3_0 : w3.cell? ⟨w.heap.size, 3, none⟩ = some (.int .i64 n3) := HB3.out.cell 3
  clear hL hK h0
  go_wp2_with fail
  refine (W_num base g n3 _ _ HL.out HZ.out q4.out).mono ?_
  rintro e w4 ⟨hE, hK⟩
  replace HK := Lib.hid (HK.out.trans hK)
  rcases hE with ⟨h0, rfl, hL⟩ | ⟨h0, rfl⟩
  rotate_left
  · have he := lays_err [.num, .num, .rows [.num], .rows [.num], .text, .num, .num, .num, .rows [.num], .rows [.num], .text] [.int n4, .int n5, .rows r6, .rows r7, .text b8, .int n9, .int n10, .int n11, .rows r12, .rows r13, .text b14] _ h0
    simp only [lays] at he
    exact ⟨rfl, WEnd.bad h0 he, HA.out.trans HK.out⟩
  replace HL := Lib.hid hL
  replace HZ := Lib.hid h0
  have HB4 := Lib.hid (HX.out.keeps HK.out.keeps (by decide))
  have hc4_0 : w4.cell? ⟨w.heap.size, 4, none⟩ = some (.int .i64 n4) := HB4.out.cell 4
  clear hL hK h0
  go_wp2_with fail
  refine (W_num base g n4 _ _ HL.out HZ.out q5.out).mono ?_
  rintro e w5 ⟨hE, hK⟩
  replace HK := Lib.hid (HK.out.trans hK)
  rcases hE with ⟨h0, rfl, hL⟩ | ⟨h0, rfl⟩
  rotate_left
  · have he := lays_err [.num, .rows [.num], .rows [.num], .text, .num, .num, .num, .rows [.num], .rows [.num], .text] [.int n5, .rows r6, .rows r7, .text b8, .int n9, .int n10, .int n11, .rows r12, .rows r13, .text b14] _ h0
    simp only [lays] at he
    exact ⟨rfl, WEnd.bad h0 he, HA.out.trans HK.out⟩
  replace HL := Lib.hid hL
  replace HZ := Lib.hid h0
  have HB5 := Lib.hid (HX.out.keeps HK.out.keeps (by decide))
  have hc5_0 : w5.cell? ⟨w.heap.size, 5, none⟩ = some (.int .i64 n5) := HB5.out.cell 5
  clear hL hK h0
  go_wp2_with fail
  refine (W_num base g n5 _ _ HL.out HZ.out q6.out).mono ?_
  rintro e w6 ⟨hE, hK⟩
  replace HK := Lib.hid (HK.out.trans hK)
  rcases hE with ⟨h0, rfl, hL⟩ | ⟨h0, rfl⟩
  rotate_left
  · have he := lays_err [.rows [.num], .rows [.num], .text, .num, .num, .num, .rows [.num], .rows [.num], .text] [.rows r6, .rows r7, .text b8, .int n9, .int n10, .int n11, .rows r12, .rows r13, .text b14] _ h0
    simp only [lays] at he
    exact ⟨rfl, WEnd.bad h0 he, HA.out.trans HK.out⟩
  replace HL := Lib.hid hL
  replace HZ := Lib.hid h0
  have HB6 := Lib.hid (HX.out.keeps HK.out.keeps (by decide))
  have hc6_0 : w6.cell? ⟨w.heap.size, 6, none⟩ = some (.slice A6 r6.length k6) := HB6.out.cell 6
  have hc6_1 : w6.cell? ⟨w.heap.size, 7, none⟩ = some (.slice A7 r7.length k7) := HB6.out.cell 7
  clear hL hK h0
  go_wp2_with fail
  refine (W_config base g _ _ _ _ HL.out HZ.out (Cels.mk (Cel.mk_rows k6 (R6.out.below (HA.out.trans HK.out).below)) (Cels.mk (Cel.mk_rows k7 (R7.out.below (HA.out.trans HK.out).below)) Cels.mk0)) (by simp only [shConfig, lays]; exact q8.out)).mono ?_
  rintro e w7 ⟨hE, hK⟩
  simp only [shConfig, lays] at hE
  replace HK := Lib.hid (HK.out.trans hK)
  rcases hE with ⟨h0, rfl, hL⟩ | ⟨h0, rfl⟩
  rotate_left
  · have he := lays_err [.text, .num, .num, .num, .rows [.num], .rows [.num], .text] [.text b8, .int n9, .int n10, .int n11, .rows r12, .rows r13, .text b14] _ h0
    simp only [lays] at he
    exact ⟨rfl, WEnd.bad h0 he, HA.out.trans HK.out⟩
  replace HL := Lib.hid hL
  replace HZ := Lib.hid h0
  have HB7 := Lib.hid (HX.out.keeps HK.out.keeps (by decide))
  have hc7_0 : w7.cell? ⟨w.heap.size, 8, none⟩ = some (.string (text b8)) := HB7.out.cell 8
  clear hL hK h0
  go_wp2_with fail
  refine (W_text base g b8 _ _ HL.out HZ.out q9.out).mono ?_
  rintro e w8 ⟨hE, hK⟩
  replace HK := Lib.hid (HK.out.trans hK)
  rcases hE with ⟨h0, rfl, hL⟩ | ⟨h0, rfl⟩
  rotate_left
  · have he := lays_err [.num, .num, .num, .rows [.num], .rows [.num], .text] [.int n9, .int n10, .int n11, .rows r12, .rows r13, .text b14] _ h0
    simp only [lays] at he
    exact ⟨rfl, WEnd.bad h0 he, HA.out.trans HK.out⟩
  replace HL := Lib.hid hL
  replace HZ := Lib.hid h0
  have HB8 := Lib.hid (HX.out.keeps HK.out.keeps (by decide))
  have hc8_0 : w8.cell? ⟨w.heap.size, 9, none⟩ = some (.int .i64 n9) := HB8.out.cell 9
  clear hL hK h0
  go_wp2_with fail
  refine (W_num base g n9 _ _ HL.out HZ.out q10.out).mono ?_
  rintro e w9 ⟨hE, hK⟩
  replace HK := Lib.hid (HK.out.trans hK)
  rcases hE with ⟨h0, rfl, hL⟩ | ⟨h0, rfl⟩
  rotate_left
  · have he := lays_err [.num, .num, .rows [.num], .rows [.num], .text] [.int n10, .int n11, .rows r12, .rows r13, .text b14] _ h0
    simp only [lays] at he
    exact ⟨rfl, WEnd.bad h0 he, HA.out.trans HK.out⟩
  replace HL := Lib.hid hL
  replace HZ := Lib.hid h0
  have HB9 := Lib.hid (HX.out.keeps HK.out.keeps (by decide))
  have hc9_0 : w9.cell? ⟨w.heap.size, 10, none⟩ = some (.int .i64 n10) := HB9.out.cell 10
  clear hL hK h0
  go_wp2_with fail
  refine (W_num base g n10 _ _ HL.out HZ.out q11.out).mono ?_
  rintro e w10 ⟨hE, hK⟩
  replace HK := Lib.hid (HK.out.trans hK)
  rcases hE with ⟨h0, rfl, hL⟩ | ⟨h0, rfl⟩
  rotate_left
  · have he := lays_err [.num, .rows [.num], .rows [.num], .text] [.int n11, .rows r12, .rows r13, .text b14] _ h0
    simp only [lays] at he
    exact ⟨rfl, WEnd.bad h0 he, HA.out.trans HK.out⟩
  replace HL := Lib.hid hL
  replace HZ := Lib.hid h0
  have HB10 := Lib.hid (HX.out.keeps HK.out.keeps (by decide))
  have hc10_0 : w10.cell? ⟨w.heap.size, 11, none⟩ = some (.int .i64 n11) := HB10.out.cell 11
  clear hL hK h0
  go_wp2_with fail
  refine (W_num base g n11 _ _ HL.out HZ.out q12.out).mono ?_
  rintro e w11 ⟨hE, hK⟩
  replace HK := Lib.hid (HK.out.trans hK)
  rcases hE with ⟨h0, rfl, hL⟩ | ⟨h0, rfl⟩
  rotate_left
  · have he := lays_err [.rows [.num], .rows [.num], .text] [.rows r12, .rows r13, .text b14] _ h0
    simp only [lays] at he
    exact ⟨rfl, WEnd.bad h0 he, HA.out.trans HK.out⟩
  replace HL := Lib.hid hL
  replace HZ := Lib.hid h0
  have HB11 := Lib.hid (HX.out.keeps HK.out.keeps (by decide))
  have hc11_0 : w11.cell? ⟨w.heap.size, 12, none⟩ = some (.slice A12 r12.length k12) := HB11.out.cell 12
  have hc11_1 : w11.cell? ⟨w.heap.size, 13, none⟩ = some (.slice A13 r13.length k13) := HB11.out.cell 13
  clear hL hK h0
  go_wp2_with fail
  refine (W_config base g _ _ _ _ HL.out HZ.out (Cels.mk (Cel.mk_rows k12 (R12.out.below (HA.out.trans HK.out).below)) (Cels.mk (Cel.mk_rows k13 (R13.out.below (HA.out.trans HK.out).below)) Cels.mk0)) (by simp only [shConfig, lays]; exact q14.out)).mono ?_
  rintro e w12 ⟨hE, hK⟩
  simp only [shConfig, lays] at hE
  replace HK := Lib.hid (HK.out.trans hK)
  rcases hE with ⟨h0, rfl, hL⟩ | ⟨h0, rfl⟩
  rotate_left
  · have he := lays_err [.text] [.text b14] _ h0
    simp only [lays] at he
    exact ⟨rfl, WEnd.bad h0 he, HA.out.trans HK.out⟩
  replace HL := Lib.hid hL
  replace HZ := Lib.hid h0
  have HB12 := Lib.hid (HX.out.keeps HK.out.keeps (by decide))
  have hc12_0 : w12.cell? ⟨w.heap.size, 14, none⟩ = some (.string (text b14)) := HB12.out.cell 14
  clear hL hK h0
  go_wp2_with fail
  refine (W_text base g b14 _ _ HL.out HZ.out q15.out).mono ?_
  rintro e w13 ⟨hE, hK⟩
  replace HK := Lib.hid (HK.out.trans hK)
  rcases hE with ⟨h0, rfl, hL⟩ | ⟨h0, rfl⟩
  rotate_left
  · exact ⟨rfl, WEnd.bad h0 rfl, HA.out.trans HK.out⟩
  replace HL := Lib.hid hL
  replace HZ := Lib.hid h0
  clear hL hK h0
  go_wp2
  go_end0
  exact ⟨.inl ⟨HZ.out, rfl, HL.out⟩, HA.out.trans HK.out⟩

end Go.Proofs.Ytkdmfjpfanmgmaa
