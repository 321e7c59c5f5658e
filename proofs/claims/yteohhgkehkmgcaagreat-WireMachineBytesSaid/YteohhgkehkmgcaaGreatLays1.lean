/- The walks of the reference that lays: lists and structs. Printed by mklays.py. -/
import Derived.Test.YteohhgkehkmgcaaGreatWrit2
import Derived.Test.YteohhgkehkmgcaaGreatShapes
namespace Go.Proofs.YteohhgkehkmgcaaGreat
open Go.RowKit Le
set_option maxRecDepth 100000
set_option linter.unusedVariables false

theorem LayAt.lt {w : World} {base g : Nat} {s : St} (h : LayAt w base g s) : base ≤ w.heap.size := by
  obtain ⟨A, n, c, hB, _, hbg⟩ := h
  have := hB.lt
  omega
theorem LayAt.alloc {w : World} {base g : Nat} {s : St} (h : LayAt w base g s) (o : Obj) : LayAt (w.alloc o) base g s := by
  obtain ⟨A, n, c, hB, hO, hbg⟩ := h
  exact ⟨A, n, c, hB.alloc o, hO.alloc o, hbg⟩
theorem L_num (base g : Nat) (N : Int) (s : St) (w : World) (h : LayAt w base g s) (hs : (lay .num (.int N) s).1.length ≤ 1099511627776) :
    Calls Tryz.prog 37 #[.pointer (some ⟨g, 0, none⟩), .int .i64 N] w fun e w' => e = .returned (.tuple #[]) ∧ LayAt w' base g (lay .num (.int N) s) ∧ Lays base w w' := by
  rw [lay_num_eq]
  exact lay_number base g N s w h (lay_le hs)
theorem L_whole (base g : Nat) (N : Int) (s : St) (w : World) (h : LayAt w base g s) (hs : (lay .whole (.int N) s).1.length ≤ 1099511627776) :
    Calls Tryz.prog 104 #[.pointer (some ⟨g, 0, none⟩), .int .i64 N] w fun e w' => e = .returned (.tuple #[]) ∧ LayAt w' base g (lay .whole (.int N) s) ∧ Lays base w w' := by
  rw [lay_whole_eq]
  exact lay_whole base g N s w h (lay_le hs)
theorem L_text (base g : Nat) (b : List UInt8) (s : St) (w : World) (h : LayAt w base g s) (hs : (lay .text (.text b) s).1.length ≤ 1099511627776) :
    Calls Tryz.prog 62 #[.pointer (some ⟨g, 0, none⟩), .string (text b)] w fun e w' => e = .returned (.tuple #[]) ∧ LayAt w' base g (lay .text (.text b) s) ∧ Lays base w w' := by
  rw [lay_text_eq]
  exact lay_text base g b s w h (lay_le hs)
theorem L_flag (base g : Nat) (b : Bool) (s : St) (w : World) (h : LayAt w base g s) (hs : (lay .flag (.flag b) s).1.length ≤ 1099511627776) :
    Calls Tryz.prog 63 #[.pointer (some ⟨g, 0, none⟩), .bool b] w fun e w' => e = .returned (.tuple #[]) ∧ LayAt w' base g (lay .flag (.flag b) s) ∧ Lays base w w' := by
  rw [lay_flag_eq]
  exact lay_flag base g b s w h (lay_le hs)

set_option maxHeartbeats 800000 in
theorem L_many_err (base g : Nat) (N : Int) (s : St) (w : World) (h : LayAt w base g s) (h0 : s.2 ≠ 0) :
    Calls Tryz.prog 36 #[.pointer (some ⟨g, 0, none⟩), .int .i64 N] w fun e w' => e = .returned (.bool false) ∧ w' = w := by
  obtain ⟨A, n, c, hB, hO, hbg⟩ := h
  obtain ⟨B, E⟩ := s
  dsimp only at h0 hB hO
  have hc1 : w.cell? ⟨g, 1, none⟩ = some (.int .i64 E) := hB.cell 1
  have t1 : ((E : Int) == 0) = false := by simpa using h0
  have t2 : ((E : Int) != 0) = true := by simpa using h0
  clear hB hO
  go_enter Tryz.func36, Tryz.ntmps36
  go_wp2
  go_ret
  exact ⟨rfl, rfl⟩
set_option maxHeartbeats 800000 in
theorem L_many_big (base g : Nat) (N : Int) (s : St) (w : World) (h : LayAt w base g s) (h0 : s.2 = 0) (hN : 4096 < N) :
    Calls Tryz.prog 36 #[.pointer (some ⟨g, 0, none⟩), .int .i64 N] w fun e w' => e = .returned (.bool false) ∧ LayAt w' base g (s.fail 2) ∧ Lays base w w' := by
  obtain ⟨A, n, c, hB, hO, hbg⟩ := h
  obtain ⟨B, E⟩ := s
  dsimp only at h0 hB hO
  subst h0
  have hc1 : w.cell? ⟨g, 1, none⟩ = some (.int .i64 0) := hB.cell 1
  have hf1 : w.frozen? ⟨g, 1, none⟩ = false := hB.frozen 1
  have HB := Lib.hid hB
  have HO := Lib.hid hO
  clear hB hO
  go_enter Tryz.func36, Tryz.ntmps36
  go_wp2
  go_ret
  refine ⟨rfl, ⟨A, n, c, HB.out.set_ 1 (.int .i64 2), HO.out.kept (grownBy_setCell (World.grownBy.refl _ _) 1 _) (.inr (blk_own_ne HB.out HO.out (by decide)).symm), hbg⟩, (Below.refl _ _).setCell hbg _, Keeps.set_ HB.out.typ (by simp) _⟩
set_option maxHeartbeats 800000 in
theorem L_many_ok (base g : Nat) (N : Int) (s : St) (w : World) (h : LayAt w base g s) (h0 : s.2 = 0) (hN : N ≤ 4096) (hs : s.1.length ≤ 1099511627776) :
    Calls Tryz.prog 36 #[.pointer (some ⟨g, 0, none⟩), .int .i64 N] w fun e w' => e = .returned (.bool true) ∧ LayAt w' base g (layNum N s) ∧ Lays base w w' := by
  have C := Lib.hid (lay_number base g N s w h hs)
  obtain ⟨A, n, c, hB, hO, hbg⟩ := h
  obtain ⟨B, E⟩ := s
  dsimp only at h0 hB hO
  subst h0
  have hc1 : w.cell? ⟨g, 1, none⟩ = some (.int .i64 0) := hB.cell 1
  clear hB hO
  go_enter Tryz.func36, Tryz.ntmps36
  go_wp2_with fail
  refine (unhide C).mono ?_
  rintro e w1 ⟨rfl, hL, hK⟩
  have HL := Lib.hid hL
  clear hL
  go_wp2
  go_ret
  exact ⟨rfl, HL.out, hK⟩
/-- No list is laid: an error stood, or the list is too long. -/
theorem L_many_no (base g : Nat) (l : List Sh) (ds : List (List Da)) (s : St) (w : World) (h : LayAt w base g s) (h0 : ¬ (s.2 = 0 ∧ ds.length ≤ 4096)) :
    Calls Tryz.prog 36 #[.pointer (some ⟨g, 0, none⟩), .int .i64 ds.length] w fun e w' => e = .returned (.bool false) ∧ LayAt w' base g (lay (.rows l) (.rows ds) s) ∧ Lays base w w' := by
  by_cases h1 : s.2 = 0
  · have h2 : 4096 < ds.length := by omega
    rw [lay_rows_big h1 h2]
    exact L_many_big base g ds.length s w h h1 (by omega)
  · refine (L_many_err base g ds.length s w h h1).mono ?_
    rintro e w' ⟨rfl, rfl⟩
    rw [lay_rows_err h1]
    exact ⟨rfl, h, Lays.refl _ _⟩

set_option maxHeartbeats 1600000 in
theorem L_texts (base g : Nat) (ds : List (List Da)) (A : Option Addr) (c : Nat) (s : St) (w : World) (h : LayAt w base g s) (hR : RowsAt w (· < base) [.text] ds A) (hs : (lay (.rows [.text]) (.rows ds) s).1.length ≤ 1099511627776) :
    Calls Tryz.prog 61 #[.pointer (some ⟨g, 0, none⟩), .slice A ds.length c] w fun e w' => e = .returned (.tuple #[]) ∧ LayAt w' base g (lay (.rows [.text]) (.rows ds) s) ∧ Lays base w w' := by
  by_cases h0 : s.2 = 0 ∧ ds.length ≤ 4096
  · have C := Lib.hid (L_many_ok base g ds.length s w h h0.1 (by omega) (lay_le hs))
    have HS := Lib.hid hs
    have HR := Lib.hid hR
    have H0 := Lib.hid h0
    clear hR h0 hs h
    go_enter Tryz.func61, Tryz.ntmps61
    go_wp2_with fail
    refine (unhide C).mono ?_
    rintro e w1 ⟨rfl, hL, hK⟩
    have HL1 := Lib.hid hL
    have HK1 := Lib.hid hK
    clear hL hK C
    go_wp2
    go_loopw [4] (fun i wr => ∃ j : Nat, j ≤ ds.length ∧ i = .int .i64 j ∧ Hid (LayAt wr base g (foldT [.text] ds j (layNum ds.length s))) ∧ Hid (Lays base w wr)) (fun i _ => ds.length - (intOf i).toNat)
    case atStart => exact ⟨0, Nat.zero_le _, rfl, Lib.hid (by rw [foldT_zero]; exact HL1.out), HK1⟩
    case round =>
      obtain ⟨j, hj, rfl, HL, HK⟩ := hrel
      by_cases hlt : j < ds.length
      · have HQ := Lib.hid (foldT_succ [.text] ds j (layNum ds.length s) hlt)
        have q := foldT_le_lay (l := [.text]) H0.out.1 H0.out.2 (j + 1)
        rw [HQ.out] at q
        obtain ⟨ad, vs, rfl, hC, hcell⟩ := (HR.out.below HK.out.below).at_ hlt
        have had : ∀ {i : Nat}, (ad.add i).block < base := fun {i} => by rw [block_of_add]; exact HR.out.block (by omega)
        obtain ⟨dd, hdd⟩ : ∃ dd, dd = ds[j] := ⟨_, rfl⟩
        rw [← hdd] at hC HQ q
        clear hdd
        obtain ⟨_, _, _, _, rfl, rfl, c0, hC⟩ := hC.cons
        obtain ⟨rfl, rfl⟩ := hC.nil
        obtain ⟨b0, rfl, rfl⟩ := c0.txt
        have hc0_0 : wr.cell? (ad.add j) = some (.string (text b0)) := by have := hcell 0 _ rfl; simpa using this
        have hn4 := H0.out.2
        replace q := Nat.le_trans q HS.out
        replace q : (lays [.text] _ _).1.length ≤ _ := q
        simp only [lays] at q
        have q1 := Lib.hid q
        have q0 := Lib.hid (lay_le q1.out)
        clear q hcell
        have hgo := hlt
        go_wp2_with fail
        refine (L_text base g b0 _ _ HL.out q1.out).mono ?_
        rintro e wr1 ⟨rfl, hL, hK⟩
        replace HL := Lib.hid hL
        replace HK := Lib.hid (HK.out.trans hK)
        have HQK1 := Lib.hid hK.below
        clear hL hK
        go_wp2
        go_roundw
        case rel => exact ⟨j + 1, by omega, by go_num, Lib.hid (by rw [HQ.out]; show LayAt _ _ _ (lays [.text] _ _); simp only [lays]; exact HL.out), HK⟩
        case measure => simp [intOf]; omega
      · go_wp2
        go_end0
        obtain rfl : j = ds.length := by omega
        exact ⟨rfl, by rw [lay_rows_ok H0.out.1 H0.out.2]; exact HL.out, HK.out⟩
  · have C := Lib.hid (L_many_no base g [.text] ds s w h h0)
    clear hR hs h h0
    go_enter Tryz.func61, Tryz.ntmps61
    go_wp2_with fail
    refine (unhide C).mono ?_
    rintro e w1 ⟨rfl, hL, hK⟩
    replace hL := Lib.hid hL
    clear C
    go_wp2
    refine bodyPost_ret (results_none rfl _ _ _) rfl ?_
    exact ⟨rfl, hL.out, hK⟩

set_option maxHeartbeats 1600000 in
theorem L_columns (base g : Nat) (ds : List (List Da)) (A : Option Addr) (c : Nat) (s : St) (w : World) (h : LayAt w base g s) (hR : RowsAt w (· < base) shColumn ds A) (hs : (lay (.rows shColumn) (.rows ds) s).1.length ≤ 1099511627776) :
    Calls Tryz.prog 97 #[.pointer (some ⟨g, 0, none⟩), .slice A ds.length c] w fun e w' => e = .returned (.tuple #[]) ∧ LayAt w' base g (lay (.rows shColumn) (.rows ds) s) ∧ Lays base w w' := by
  by_cases h0 : s.2 = 0 ∧ ds.length ≤ 4096
  · have C := Lib.hid (L_many_ok base g ds.length s w h h0.1 (by omega) (lay_le hs))
    have HS := Lib.hid hs
    have HR := Lib.hid hR
    have H0 := Lib.hid h0
    clear hR h0 hs h
    go_enter Tryz.func97, Tryz.ntmps97
    go_wp2_with fail
    refine (unhide C).mono ?_
    rintro e w1 ⟨rfl, hL, hK⟩
    have HL1 := Lib.hid hL
    have HK1 := Lib.hid hK
    clear hL hK C
    go_wp2
    go_loopw [4] (fun i wr => ∃ j : Nat, j ≤ ds.length ∧ i = .int .i64 j ∧ Hid (LayAt wr base g (foldT shColumn ds j (layNum ds.length s))) ∧ Hid (Lays base w wr)) (fun i _ => ds.length - (intOf i).toNat)
    case atStart => exact ⟨0, Nat.zero_le _, rfl, Lib.hid (by rw [foldT_zero]; exact HL1.out), HK1⟩
    case round =>
      obtain ⟨j, hj, rfl, HL, HK⟩ := hrel
      by_cases hlt : j < ds.length
      · have HQ := Lib.hid (foldT_succ shColumn ds j (layNum ds.length s) hlt)
        have q := foldT_le_lay (l := shColumn) H0.out.1 H0.out.2 (j + 1)
        rw [HQ.out] at q
        obtain ⟨ad, vs, rfl, hC, hcell⟩ := (HR.out.below HK.out.below).at_ hlt
        have had : ∀ {i : Nat}, (ad.add i).block < base := fun {i} => by rw [block_of_add]; exact HR.out.block (by omega)
        obtain ⟨dd, hdd⟩ : ∃ dd, dd = ds[j] := ⟨_, rfl⟩
        rw [← hdd] at hC HQ q
        clear hdd
        replace hC : Cels wr (· < base) [.text, .num, .flag] dd vs := hC
        obtain ⟨_, _, _, _, rfl, rfl, c0, hC⟩ := hC.cons
        obtain ⟨_, _, _, _, rfl, rfl, c1, hC⟩ := hC.cons
        obtain ⟨_, _, _, _, rfl, rfl, c2, hC⟩ := hC.cons
        obtain ⟨rfl, rfl⟩ := hC.nil
        obtain ⟨b0, rfl, rfl⟩ := c0.txt
        obtain ⟨n1, rfl, rfl⟩ := c1.num
        obtain ⟨f2, rfl, rfl⟩ := c2.flag
        have hc0_0 : wr.cell? (ad.add (j * 3)) = some (.string (text b0)) := hcell 0 _ rfl
        have hc0_1 : wr.cell? ⟨(ad.add (j * 3)).block, (ad.add (j * 3)).off + 1, none⟩ = some (.int .i64 n1) := by rw [← add_field ad (j * 3) 1 (by decide)]; exact hcell 1 _ rfl
        have hc0_2 : wr.cell? ⟨(ad.add (j * 3)).block, (ad.add (j * 3)).off + 2, none⟩ = some (.bool f2) := by rw [← add_field ad (j * 3) 2 (by decide)]; exact hcell 2 _ rfl
        have hn4 := H0.out.2
        replace q := Nat.le_trans q HS.out
        replace q : (lays [.text, .num, .flag] _ _).1.length ≤ _ := q
        simp only [lays] at q
        have q3 := Lib.hid q
        have q2 := Lib.hid (lay_le q3.out)
        have q1 := Lib.hid (lay_le q2.out)
        have q0 := Lib.hid (lay_le q1.out)
        clear q hcell
        have hgo := hlt
        go_wp2_with fail
        refine (L_text base g b0 _ _ HL.out q1.out).mono ?_
        rintro e wr1 ⟨rfl, hL, hK⟩
        replace HL := Lib.hid hL
        replace HK := Lib.hid (HK.out.trans hK)
        have HQK1 := Lib.hid hK.below
        have hc1_0 : wr1.cell? ⟨(ad.add (j * 3)).block, (ad.add (j * 3)).off + 1, none⟩ = some (.int .i64 n1) := (HQK1.out.cell (by exact had)).trans hc0_1
        clear hL hK
        go_wp2_with fail
        refine (L_num base g n1 _ _ HL.out q2.out).mono ?_
        rintro e wr2 ⟨rfl, hL, hK⟩
        replace HL := Lib.hid hL
        replace HK := Lib.hid (HK.out.trans hK)
        have HQK2 := Lib.hid (HQK1.out.trans hK.below)
        have hc2_0 : wr2.cell? ⟨(ad.add (j * 3)).block, (ad.add (j * 3)).off + 2, none⟩ = some (.bool f2) := (HQK2.out.cell (by exact had)).trans hc0_2
        clear hL hK
        go_wp2_with fail
        refine (L_flag base g f2 _ _ HL.out q3.out).mono ?_
        rintro e wr3 ⟨rfl, hL, hK⟩
        replace HL := Lib.hid hL
        replace HK := Lib.hid (HK.out.trans hK)
        have HQK3 := Lib.hid (HQK2.out.trans hK.below)
        clear hL hK
        go_wp2
        go_roundw
        case rel => exact ⟨j + 1, by omega, by go_num, Lib.hid (by rw [HQ.out]; show LayAt _ _ _ (lays [.text, .num, .flag] _ _); simp only [lays]; exact HL.out), HK⟩
        case measure => simp [intOf]; omega
      · go_wp2
        go_end0
        obtain rfl : j = ds.length := by omega
        exact ⟨rfl, by rw [lay_rows_ok H0.out.1 H0.out.2]; exact HL.out, HK.out⟩
  · have C := Lib.hid (L_many_no base g shColumn ds s w h h0)
    clear hR hs h h0
    go_enter Tryz.func97, Tryz.ntmps97
    go_wp2_with fail
    refine (unhide C).mono ?_
    rintro e w1 ⟨rfl, hL, hK⟩
    replace hL := Lib.hid hL
    clear C
    go_wp2
    refine bodyPost_ret (results_none rfl _ _ _) rfl ?_
    exact ⟨rfl, hL.out, hK⟩

set_option maxHeartbeats 1600000 in
theorem L_rule (base g : Nat) (ds : List Da) (vs : List Value) (s : St) (w : World) (h : LayAt w base g s) (hC : Cels w (· < base) shRule ds vs) (hs : (lays shRule ds s).1.length ≤ 1099511627776) :
    Calls Tryz.prog 98 #[.pointer (some ⟨g, 0, none⟩), .agg vs.toArray] w fun e w' => e = .returned (.tuple #[]) ∧ LayAt w' base g (lays shRule ds s) ∧ Lays base w w' := by
  replace hC : Cels w (· < base) [.text, .num, .rows [.text], .whole, .whole, .text, .text, .text] ds vs := hC
  obtain ⟨_, _, _, _, rfl, rfl, c0, hC⟩ := hC.cons
  obtain ⟨_, _, _, _, rfl, rfl, c1, hC⟩ := hC.cons
  obtain ⟨_, _, _, _, rfl, rfl, c2, hC⟩ := hC.cons
  obtain ⟨_, _, _, _, rfl, rfl, c3, hC⟩ := hC.cons
  obtain ⟨_, _, _, _, rfl, rfl, c4, hC⟩ := hC.cons
  obtain ⟨_, _, _, _, rfl, rfl, c5, hC⟩ := hC.cons
  obtain ⟨_, _, _, _, rfl, rfl, c6, hC⟩ := hC.cons
  obtain ⟨_, _, _, _, rfl, rfl, c7, hC⟩ := hC.cons
  obtain ⟨rfl, rfl⟩ := hC.nil
  obtain ⟨b0, rfl, rfl⟩ := c0.txt
  obtain ⟨n1, rfl, rfl⟩ := c1.num
  obtain ⟨r2, A2, k2, rfl, rfl, R2⟩ := c2.rows
  replace R2 := Lib.hid R2
  obtain ⟨n3, rfl, rfl, HW3⟩ := c3.whole
  replace HW3 := Lib.hid HW3
  obtain ⟨n4, rfl, rfl, HW4⟩ := c4.whole
  replace HW4 := Lib.hid HW4
  obtain ⟨b5, rfl, rfl⟩ := c5.txt
  obtain ⟨b6, rfl, rfl⟩ := c6.txt
  obtain ⟨b7, rfl, rfl⟩ := c7.txt
  simp only [shRule, lays] at hs ⊢
  have q8 := Lib.hid hs
  have q7 := Lib.hid (lay_le q8.out)
  have q6 := Lib.hid (lay_le q7.out)
  have q5 := Lib.hid (lay_le q6.out)
  have q4 := Lib.hid (lay_le q5.out)
  have q3 := Lib.hid (lay_le q4.out)
  have q2 := Lib.hid (lay_le q3.out)
  have q1 := Lib.hid (lay_le q2.out)
  have q0 := Lib.hid (lay_le q1.out)
  clear hs
  have hlt := h.lt
  have HA : Hid (Lays base w (w.alloc (.cells #[.string (text b0), .int .i64 n1, .slice A2 r2.length k2, .int .i64 n3, .int .i64 n4, .string (text b5), .string (text b6), .string (text b7)] 64))) := Lib.hid (Lays.alloc hlt _)
  have HX : Hid (Blk (w.alloc (.cells #[.string (text b0), .int .i64 n1, .slice A2 r2.length k2, .int .i64 n3, .int .i64 n4, .string (text b5), .string (text b6), .string (text b7)] 64)) w.heap.size 64 [.string (text b0), .int .i64 n1, .slice A2 r2.length k2, .int .i64 n3, .int .i64 n4, .string (text b5), .string (text b6), .string (text b7)]) := Lib.hid (Blk.new w _ _)
  have HL := Lib.hid (h.alloc (.cells #[.string (text b0), .int .i64 n1, .slice A2 r2.length k2, .int .i64 n3, .int .i64 n4, .string (text b5), .string (text b6), .string (text b7)] 64))
  have HK : Hid (Lays base (w.alloc (.cells #[.string (text b0), .int .i64 n1, .slice A2 r2.length k2, .int .i64 n3, .int .i64 n4, .string (text b5), .string (text b6), .string (text b7)] 64)) (w.alloc (.cells #[.string (text b0), .int .i64 n1, .slice A2 r2.length k2, .int .i64 n3, .int .i64 n4, .string (text b5), .string (text b6), .string (text b7)] 64))) := Lib.hid (Lays.refl _ _)
  clear h
  go_enter Tryz.func98, Tryz.ntmps98
  go_wp2_with fail
  refine (L_text base g b0 _ _ HL.out q1.out).mono ?_
  rintro e w1 ⟨rfl, hL, hK⟩
  replace HL := Lib.hid hL
  replace HK := Lib.hid (HK.out.trans hK)
  have HB1 := Lib.hid (HX.out.keeps HK.out.keeps (by decide))
  have hc1_0 : w1.cell? ⟨w.heap.size, 1, none⟩ = some (.int .i64 n1) := HB1.out.cell 1
  clear hL hK
  go_wp2_with fail
  refine (L_num base g n1 _ _ HL.out q2.out).mono ?_
  rintro e w2 ⟨rfl, hL, hK⟩
  replace HL := Lib.hid hL
  replace HK := Lib.hid (HK.out.trans hK)
  have HB2 := Lib.hid (HX.out.keeps HK.out.keeps (by decide))
  have hc2_0 : w2.cell? ⟨w.heap.size, 2, none⟩ = some (.slice A2 r2.length k2) := HB2.out.cell 2
  clear hL hK
  go_wp2_with fail
  refine (L_texts base g r2 A2 k2 _ _ HL.out (R2.out.below (HA.out.trans HK.out).below) q3.out).mono ?_
  rintro e w3 ⟨rfl, hL, hK⟩
  replace HL := Lib.hid hL
  replace HK := Lib.hid (HK.out.trans hK)
  have HB3 := Lib.hid (HX.out.keeps HK.out.keeps (by decide))
  have hc3_0 : w3.cell? ⟨w.heap.size, 3, none⟩ = some (.int .i64 n3) := HB3.out.cell 3
  clear hL hK
  go_wp2_with fail
  refine (L_whole base g n3 _ _ HL.out q4.out).mono ?_
  rintro e w4 ⟨rfl, hL, hK⟩
  replace HL := Lib.hid hL
  replace HK := Lib.hid (HK.out.trans hK)
  have HB4 := Lib.hid (HX.out.keeps HK.out.keeps (by decide))
  have hc4_0 : w4.cell? ⟨w.heap.size, 4, none⟩ = some (.int .i64 n4) := HB4.out.cell 4
  clear hL hK
  go_wp2_with fail
  refine (L_whole base g n4 _ _ HL.out q5.out).mono ?_
  rintro e w5 ⟨rfl, hL, hK⟩
  replace HL := Lib.hid hL
  replace HK := Lib.hid (HK.out.trans hK)
  have HB5 := Lib.hid (HX.out.keeps HK.out.keeps (by decide))
  have hc5_0 : w5.cell? ⟨w.heap.size, 5, none⟩ = some (.string (text b5)) := HB5.out.cell 5
  clear hL hK
  go_wp2_with fail
  refine (L_text base g b5 _ _ HL.out q6.out).mono ?_
  rintro e w6 ⟨rfl, hL, hK⟩
  replace HL := Lib.hid hL
  replace HK := Lib.hid (HK.out.trans hK)
  have HB6 := Lib.hid (HX.out.keeps HK.out.keeps (by decide))
  have hc6_0 : w6.cell? ⟨w.heap.size, 6, none⟩ = some (.string (text b6)) := HB6.out.cell 6
  clear hL hK
  go_wp2_with fail
  refine (L_text base g b6 _ _ HL.out q7.out).mono ?_
  rintro e w7 ⟨rfl, hL, hK⟩
  replace HL := Lib.hid hL
  replace HK := Lib.hid (HK.out.trans hK)
  have HB7 := Lib.hid (HX.out.keeps HK.out.keeps (by decide))
  have hc7_0 : w7.cell? ⟨w.heap.size, 7, none⟩ = some (.string (text b7)) := HB7.out.cell 7
  clear hL hK
  go_wp2_with fail
  refine (L_text base g b7 _ _ HL.out q8.out).mono ?_
  rintro e w8 ⟨rfl, hL, hK⟩
  replace HL := Lib.hid hL
  replace HK := Lib.hid (HK.out.trans hK)
  clear hL hK
  go_wp2
  go_end0
  exact ⟨rfl, HL.out, HA.out.trans HK.out⟩

end Go.Proofs.YteohhgkehkmgcaaGreat
