/- The walks of the reference that lays: lists and structs. Printed by mklays.py. -/
import Derived.Test.YteohhgkehkmgcaaWrit2
import Derived.Test.YteohhgkehkmgcaaShapes
namespace Go.Proofs.Yteohhgkehkmgcaa
open Go.RowKit Le
set_option maxRecDepth 100000
set_option linter.unusedVariables false

theorem LayAt.lt {w : World} {base g : Nat} {s : St} (h : LayAt w base g s) : base ≤ w.heap.size := by
  obtain ⟨A, n, c, hB, _, hbg⟩ := h
  have := hB.lt
  omega
theorem LayAt.alloc {w : World} {base g : Nat} {s : St} (h : LayAt w base g s) (o : Obj) : LayAt (w.alloc o) base g s := by
  obtain ⟨A, n, c, hB, hO, hbg⟩ := h
  exact ⟨A, n, c, hB.alloc o, hO.alloc o, hbg⟩
theorem L_num (base g : Nat) (N : Int) (s : St) (w : World) (h : LayAt w base g s) (hs : (lay .num (.int N) s).1.length ≤ 1099511627776) :
    Calls Try.prog 68 #[.pointer (some ⟨g, 0, none⟩), .int .i64 N] w fun e w' => e = .returned (.tuple #[]) ∧ LayAt w' base g (lay .num (.int N) s) ∧ Lays base w w' := by
  rw [lay_num_eq]
  exact lay_number base g N s w h (lay_le hs)
theorem L_whole (base g : Nat) (N : Int) (s : St) (w : World) (h : LayAt w base g s) (hs : (lay .whole (.int N) s).1.length ≤ 1099511627776) :
    Calls Try.prog 149 #[.pointer (some ⟨g, 0, none⟩), .int .i64 N] w fun e w' => e = .returned (.tuple #[]) ∧ LayAt w' base g (lay .whole (.int N) s) ∧ Lays base w w' := by
  rw [lay_whole_eq]
  exact lay_whole base g N s w h (lay_le hs)
theorem L_text (base g : Nat) (b : List UInt8) (s : St) (w : World) (h : LayAt w base g s) (hs : (lay .text (.text b) s).1.length ≤ 1099511627776) :
    Calls Try.prog 70 #[.pointer (some ⟨g, 0, none⟩), .string (text b)] w fun e w' => e = .returned (.tuple #[]) ∧ LayAt w' base g (lay .text (.text b) s) ∧ Lays base w w' := by
  rw [lay_text_eq]
  exact lay_text base g b s w h (lay_le hs)
theorem L_flag (base g : Nat) (b : Bool) (s : St) (w : World) (h : LayAt w base g s) (hs : (lay .flag (.flag b) s).1.length ≤ 1099511627776) :
    Calls Try.prog 86 #[.pointer (some ⟨g, 0, none⟩), .bool b] w fun e w' => e = .returned (.tuple #[]) ∧ LayAt w' base g (lay .flag (.flag b) s) ∧ Lays base w w' := by
  rw [lay_flag_eq]
  exact lay_flag base g b s w h (lay_le hs)

set_option maxHeartbeats 800000 in
theorem L_many_err (base g : Nat) (N : Int) (s : St) (w : World) (h : LayAt w base g s) (h0 : s.2 ≠ 0) :
    Calls Try.prog 107 #[.pointer (some ⟨g, 0, none⟩), .int .i64 N] w fun e w' => e = .returned (.bool false) ∧ w' = w := by
  obtain ⟨A, n, c, hB, hO, hbg⟩ := h
  obtain ⟨B, E⟩ := s
  dsimp only at h0 hB hO
  have hc1 : w.cell? ⟨g, 1, none⟩ = some (.int .i64 E) := hB.cell 1
  have t1 : ((E : Int) == 0) = false := by simpa using h0
  have t2 : ((E : Int) != 0) = true := by simpa using h0
  clear hB hO
  go_enter Try.func107, Try.ntmps107
  go_wp2
  go_ret
  exact ⟨rfl, rfl⟩
set_option maxHeartbeats 800000 in
theorem L_many_big (base g : Nat) (N : Int) (s : St) (w : World) (h : LayAt w base g s) (h0 : s.2 = 0) (hN : 4096 < N) :
    Calls Try.prog 107 #[.pointer (some ⟨g, 0, none⟩), .int .i64 N] w fun e w' => e = .returned (.bool false) ∧ LayAt w' base g (s.fail 2) ∧ Lays base w w' := by
  obtain ⟨A, n, c, hB, hO, hbg⟩ := h
  obtain ⟨B, E⟩ := s
  dsimp only at h0 hB hO
  subst h0
  have hc1 : w.cell? ⟨g, 1, none⟩ = some (.int .i64 0) := hB.cell 1
  have hf1 : w.frozen? ⟨g, 1, none⟩ = false := hB.frozen 1
  have HB := Lib.hid hB
  have HO := Lib.hid hO
  clear hB hO
  go_enter Try.func107, Try.ntmps107
  go_wp2
  go_ret
  refine ⟨rfl, ⟨A, n, c, HB.out.set_ 1 (.int .i64 2), HO.out.kept (grownBy_setCell (World.grownBy.refl _ _) 1 _) (.inr (blk_own_ne HB.out HO.out (by decide)).symm), hbg⟩, (Below.refl _ _).setCell hbg _, Keeps.set_ HB.out.typ (by simp) _⟩
set_option maxHeartbeats 800000 in
theorem L_many_ok (base g : Nat) (N : Int) (s : St) (w : World) (h : LayAt w base g s) (h0 : s.2 = 0) (hN : N ≤ 4096) (hs : s.1.length ≤ 1099511627776) :
    Calls Try.prog 107 #[.pointer (some ⟨g, 0, none⟩), .int .i64 N] w fun e w' => e = .returned (.bool true) ∧ LayAt w' base g (layNum N s) ∧ Lays base w w' := by
  have C := Lib.hid (lay_number base g N s w h hs)
  obtain ⟨A, n, c, hB, hO, hbg⟩ := h
  obtain ⟨B, E⟩ := s
  dsimp only at h0 hB hO
  subst h0
  have hc1 : w.cell? ⟨g, 1, none⟩ = some (.int .i64 0) := hB.cell 1
  clear hB hO
  go_enter Try.func107, Try.ntmps107
  go_wp2_with fail
  refine (unhide C).mono ?_
  rintro e w1 ⟨rfl, hL, hK⟩
  have HL := Lib.hid hL
  clear hL
  go_wp2
  go_ret
  exact ⟨rfl, HL.out, hK⟩
/-- No list is laid: an error stood, or the list is too long. -/
theorem L_many_no (base g : Nat) (l : List Sh) (ds : List (List Da)) (s : St) (w : World) (h : LayAt w base g s) (h0 : ¬ (s.2 = 0 ∧ ds.length ≤ 4096)) :
    Calls Try.prog 107 #[.pointer (some ⟨g, 0, none⟩), .int .i64 ds.length] w fun e w' => e = .returned (.bool false) ∧ LayAt w' base g (lay (.rows l) (.rows ds) s) ∧ Lays base w w' := by
  by_cases h1 : s.2 = 0
  · have h2 : 4096 < ds.length := by omega
    rw [lay_rows_big h1 h2]
    exact L_many_big base g ds.length s w h h1 (by omega)
  · refine (L_many_err base g ds.length s w h h1).mono ?_
    rintro e w' ⟨rfl, rfl⟩
    rw [lay_rows_err h1]
    exact ⟨rfl, h, Lays.refl _ _⟩

set_option maxHeartbeats 1600000 in
theorem L_texts (base g : Nat) (ds : List (List Da)) (A : Option Addr) (c : Nat) (s : St) (w : World) (h : LayAt w base g s) (hR : RowsAt w (· < base) [.text] ds A) (hs : (lay (.rows [.text]) (.rows ds) s).1.length ≤ 1099511627776) :
    Calls Try.prog 106 #[.pointer (some ⟨g, 0, none⟩), .slice A ds.length c] w fun e w' => e = .returned (.tuple #[]) ∧ LayAt w' base g (lay (.rows [.text]) (.rows ds) s) ∧ Lays base w w' := by
  by_cases h0 : s.2 = 0 ∧ ds.length ≤ 4096
  · have C := Lib.hid (L_many_ok base g ds.length s w h h0.1 (by omega) (lay_le hs))
    have HS := Lib.hid hs
    have HR := Lib.hid hR
    have H0 := Lib.hid h0
    clear hR h0 hs h
    go_enter Try.func106, Try.ntmps106
    go_wp2_with fail
    refine (unhide C).mono ?_
    rintro e w1 ⟨rfl, hL, hK⟩
    have HL1 := Lib.hid hL
    have HK1 := Lib.hid hK
    clear hL hK C
    go_wp2
    go_loopw [4] (fun i wr => ∃ j : Nat, j ≤ ds.length ∧ i = .int .i64 j ∧ Hid (LayAt wr base g (foldT [.text] ds j (layNum ds.length s))) ∧ Hid (Lays base w wr)) (fun i _ => ds.length - (intOf i).toNat)
    case atStart => exact ⟨0, Nat.zero_le _, rfl, Lib.hid (by rw [foldT_zero]; exact HL1.out), HK1⟩
    case round =>
      obtain ⟨j, hj, rfl, HL, HK⟩ := hrel
      by_cases hlt : j < ds.length
      · have HQ := Lib.hid (foldT_succ [.text] ds j (layNum ds.length s) hlt)
        have q := foldT_le_lay (l := [.text]) H0.out.1 H0.out.2 (j + 1)
        rw [HQ.out] at q
        obtain ⟨ad, vs, rfl, hC, hcell⟩ := (HR.out.below HK.out.below).at_ hlt
        have had : ∀ {i : Nat}, (ad.add i).block < base := fun {i} => by rw [block_of_add]; exact HR.out.block (by omega)
        obtain ⟨dd, hdd⟩ : ∃ dd, dd = ds[j] := ⟨_, rfl⟩
        rw [← hdd] at hC HQ q
        clear hdd
        obtain ⟨_, _, _, _, rfl, rfl, c0, hC⟩ := hC.cons
        obtain ⟨rfl, rfl⟩ := hC.nil
        obtain ⟨b0, rfl, rfl⟩ := c0.txt
        have hc0_0 : wr.cell? (ad.add j) = some (.string (text b0)) := by have := hcell 0 _ rfl; simpa using this
        have hn4 := H0.out.2
        replace q := Nat.le_trans q HS.out
        replace q : (lays [.text] _ _).1.length ≤ _ := q
        simp only [lays] at q
        have q1 := Lib.hid q
        have q0 := Lib.hid (lay_le q1.out)
        clear q hcell
        have hgo := hlt
        go_wp2_with fail
        refine (L_text base g b0 _ _ HL.out q1.out).mono ?_
        rintro e wr1 ⟨rfl, hL, hK⟩
        replace HL := Lib.hid hL
        replace HK := Lib.hid (HK.out.trans hK)
        have HQK1 := Lib.hid hK.below
        clear hL hK
        go_wp2
        go_roundw
        case rel => exact ⟨j + 1, by omega, by go_num, Lib.hid (by rw [HQ.out]; show LayAt _ _ _ (lays [.text] _ _); simp only [lays]; exact HL.out), HK⟩
        case measure => simp [intOf]; omega
      · go_wp2
        go_end0
        obtain rfl : j = ds.length := by omega
        exact ⟨rfl, by rw [lay_rows_ok H0.out.1 H0.out.2]; exact HL.out, HK.out⟩
  · have C := Lib.hid (L_many_no base g [.text] ds s w h h0)
    clear hR hs h h0
    go_enter Try.func106, Try.ntmps106
    go_wp2_with fail
    refine (unhide C).mono ?_
    rintro e w1 ⟨rfl, hL, hK⟩
    replace hL := Lib.hid hL
    clear C
    go_wp2
    refine bodyPost_ret (results_none rfl _ _ _) rfl ?_
    exact ⟨rfl, hL.out, hK⟩

set_option maxHeartbeats 1600000 in
theorem L_set (base g : Nat) (ds : List (List Da)) (A : Option Addr) (c : Nat) (s : St) (w : World) (h : LayAt w base g s) (hR : RowsAt w (· < base) [.num] ds A) (hs : (lay (.rows [.num]) (.rows ds) s).1.length ≤ 1099511627776) :
    Calls Try.prog 142 #[.pointer (some ⟨g, 0, none⟩), .slice A ds.length c] w fun e w' => e = .returned (.tuple #[]) ∧ LayAt w' base g (lay (.rows [.num]) (.rows ds) s) ∧ Lays base w w' := by
  by_cases h0 : s.2 = 0 ∧ ds.length ≤ 4096
  · have C := Lib.hid (L_many_ok base g ds.length s w h h0.1 (by omega) (lay_le hs))
    have HS := Lib.hid hs
    have HR := Lib.hid hR
    have H0 := Lib.hid h0
    clear hR h0 hs h
    go_enter Try.func142, Try.ntmps142
    go_wp2_with fail
    refine (unhide C).mono ?_
    rintro e w1 ⟨rfl, hL, hK⟩
    have HL1 := Lib.hid hL
    have HK1 := Lib.hid hK
    clear hL hK C
    go_wp2
    go_loopw [4] (fun i wr => ∃ j : Nat, j ≤ ds.length ∧ i = .int .i64 j ∧ Hid (LayAt wr base g (foldT [.num] ds j (layNum ds.length s))) ∧ Hid (Lays base w wr)) (fun i _ => ds.length - (intOf i).toNat)
    case atStart => exact ⟨0, Nat.zero_le _, rfl, Lib.hid (by rw [foldT_zero]; exact HL1.out), HK1⟩
    case round =>
      obtain ⟨j, hj, rfl, HL, HK⟩ := hrel
      by_cases hlt : j < ds.length
      · have HQ := Lib.hid (foldT_succ [.num] ds j (layNum ds.length s) hlt)
        have q := foldT_le_lay (l := [.num]) H0.out.1 H0.out.2 (j + 1)
        rw [HQ.out] at q
        obtain ⟨ad, vs, rfl, hC, hcell⟩ := (HR.out.below HK.out.below).at_ hlt
        have had : ∀ {i : Nat}, (ad.add i).block < base := fun {i} => by rw [block_of_add]; exact HR.out.block (by omega)
        obtain ⟨dd, hdd⟩ : ∃ dd, dd = ds[j] := ⟨_, rfl⟩
        rw [← hdd] at hC HQ q
        clear hdd
        obtain ⟨_, _, _, _, rfl, rfl, c0, hC⟩ := hC.cons
        obtain ⟨rfl, rfl⟩ := hC.nil
        obtain ⟨n0, rfl, rfl⟩ := c0.num
        have hc0_0 : wr.cell? (ad.add j) = some (.int .i64 n0) := by have := hcell 0 _ rfl; simpa using this
        have hn4 := H0.out.2
        replace q := Nat.le_trans q HS.out
        replace q : (lays [.num] _ _).1.length ≤ _ := q
        simp only [lays] at q
        have q1 := Lib.hid q
        have q0 := Lib.hid (lay_le q1.out)
        clear q hcell
        have hgo := hlt
        go_wp2_with fail
        refine (L_num base g n0 _ _ HL.out q1.out).mono ?_
        rintro e wr1 ⟨rfl, hL, hK⟩
        replace HL := Lib.hid hL
        replace HK := Lib.hid (HK.out.trans hK)
        have HQK1 := Lib.hid hK.below
        clear hL hK
        go_wp2
        go_roundw
        case rel => exact ⟨j + 1, by omega, by go_num, Lib.hid (by rw [HQ.out]; show LayAt _ _ _ (lays [.num] _ _); simp only [lays]; exact HL.out), HK⟩
        case measure => simp [intOf]; omega
      · go_wp2
        go_end0
        obtain rfl : j = ds.length := by omega
        exact ⟨rfl, by rw [lay_rows_ok H0.out.1 H0.out.2]; exact HL.out, HK.out⟩
  · have C := Lib.hid (L_many_no base g [.num] ds s w h h0)
    clear hR hs h h0
    go_enter Try.func142, Try.ntmps142
    go_wp2_with fail
    refine (unhide C).mono ?_
    rintro e w1 ⟨rfl, hL, hK⟩
    replace hL := Lib.hid hL
    clear C
    go_wp2
    refine bodyPost_ret (results_none rfl _ _ _) rfl ?_
    exact ⟨rfl, hL.out, hK⟩

set_option maxHeartbeats 1600000 in
theorem L_columns (base g : Nat) (ds : List (List Da)) (A : Option Addr) (c : Nat) (s : St) (w : World) (h : LayAt w base g s) (hR : RowsAt w (· < base) shColumn ds A) (hs : (lay (.rows shColumn) (.rows ds) s).1.length ≤ 1099511627776) :
    Calls Try.prog 84 #[.pointer (some ⟨g, 0, none⟩), .slice A ds.length c] w fun e w' => e = .returned (.tuple #[]) ∧ LayAt w' base g (lay (.rows shColumn) (.rows ds) s) ∧ Lays base w w' := by
  by_cases h0 : s.2 = 0 ∧ ds.length ≤ 4096
  · have C := Lib.hid (L_many_ok base g ds.length s w h h0.1 (by omega) (lay_le hs))
    have HS := Lib.hid hs
    have HR := Lib.hid hR
    have H0 := Lib.hid h0
    clear hR h0 hs h
    go_enter Try.func84, Try.ntmps84
    go_wp2_with fail
    refine (unhide C).mono ?_
    rintro e w1 ⟨rfl, hL, hK⟩
    have HL1 := Lib.hid hL
    have HK1 := Lib.hid hK
    clear hL hK C
    go_wp2
    go_loopw [4] (fun i wr => ∃ j : Nat, j ≤ ds.length ∧ i = .int .i64 j ∧ Hid (LayAt wr base g (foldT shColumn ds j (layNum ds.length s))) ∧ Hid (Lays base w wr)) (fun i _ => ds.length - (intOf i).toNat)
    case atStart => exact ⟨0, Nat.zero_le _, rfl, Lib.hid (by rw [foldT_zero]; exact HL1.out), HK1⟩
    case round =>
      obtain ⟨j, hj, rfl, HL, HK⟩ := hrel
      by_cases hlt : j < ds.length
      · have HQ := Lib.hid (foldT_succ shColumn ds j (layNum ds.length s) hlt)
        have q := foldT_le_lay (l := shColumn) H0.out.1 H0.out.2 (j + 1)
        rw [HQ.out] at q
        obtain ⟨ad, vs, rfl, hC, hcell⟩ := (HR.out.below HK.out.below).at_ hlt
        have had : ∀ {i : Nat}, (ad.add i).block < base := fun {i} => by rw [block_of_add]; exact HR.out.block (by omega)
        obtain ⟨dd, hdd⟩ : ∃ dd, dd = ds[j] := ⟨_, rfl⟩
        rw [← hdd] at hC HQ q
        clear hdd
        replace hC : Cels wr (· < base) [.text, .num, .flag] dd vs := hC
        obtain ⟨_, _, _, _, rfl, rfl, c0, hC⟩ := hC.cons
        obtain ⟨_, _, _, _, rfl, rfl, c1, hC⟩ := hC.cons
        obtain ⟨_, _, _, _, rfl, rfl, c2, hC⟩ := hC.cons
        obtain ⟨rfl, rfl⟩ := hC.nil
        obtain ⟨b0, rfl, rfl⟩ := c0.txt
        obtain ⟨n1, rfl, rfl⟩ := c1.num
        obtain ⟨f2, rfl, rfl⟩ := c2.flag
        have hc0_0 : wr.cell? (ad.add (j * 3)) = some (.string (text b0)) := hcell 0 _ rfl
        have hc0_1 : wr.cell? ⟨(ad.add (j * 3)).block, (ad.add (j * 3)).off + 1, none⟩ = some (.int .i64 n1) := by rw [← add_field ad (j * 3) 1 (by decide)]; exact hcell 1 _ rfl
        have hc0_2 : wr.cell? ⟨(ad.add (j * 3)).block, (ad.add (j * 3)).off + 2, none⟩ = some (.bool f2) := by rw [← add_field ad (j * 3) 2 (by decide)]; exact hcell 2 _ rfl
        have hn4 := H0.out.2
        replace q := Nat.le_trans q HS.out
        replace q : (lays [.text, .num, .flag] _ _).1.length ≤ _ := q
        simp only [lays] at q
        have q3 := Lib.hid q
        have q2 := Lib.hid (lay_le q3.out)
        have q1 := Lib.hid (lay_le q2.out)
        have q0 := Lib.hid (lay_le q1.out)
        clear q hcell
        have hgo := hlt
        go_wp2_with fail
        refine (L_text base g b0 _ _ HL.out q1.out).mono ?_
        rintro e wr1 ⟨rfl, hL, hK⟩
        replace HL := Lib.hid hL
        replace HK := Lib.hid (HK.out.trans hK)
        have HQK1 := Lib.hid hK.below
        have hc1_0 : wr1.cell? ⟨(ad.add (j * 3)).block, (ad.add (j * 3)).off + 1, none⟩ = some (.int .i64 n1) := (HQK1.out.cell (by exact had)).trans hc0_1
        clear hL hK
        go_wp2_with fail
        refine (L_num base g n1 _ _ HL.out q2.out).mono ?_
        rintro e wr2 ⟨rfl, hL, hK⟩
        replace HL := Lib.hid hL
        replace HK := Lib.hid (HK.out.trans hK)
        have HQK2 := Lib.hid (HQK1.out.trans hK.below)
        have hc2_0 : wr2.cell? ⟨(ad.add (j * 3)).block, (ad.add (j * 3)).off + 2, none⟩ = some (.bool f2) := (HQK2.out.cell (by exact had)).trans hc0_2
        clear hL hK
        go_wp2_with fail
        refine (L_flag base g f2 _ _ HL.out q3.out).mono ?_
        rintro e wr3 ⟨rfl, hL, hK⟩
        replace HL := Lib.hid hL
        replace HK := Lib.hid (HK.out.trans hK)
        have HQK3 := Lib.hid (HQK2.out.trans hK.below)
        clear hL hK
        go_wp2
        go_roundw
        case rel => exact ⟨j + 1, by omega, by go_num, Lib.hid (by rw [HQ.out]; show LayAt _ _ _ (lays [.text, .num, .flag] _ _); simp only [lays]; exact HL.out), HK⟩
        case measure => simp [intOf]; omega
      · go_wp2
        go_end0
        obtain rfl : j = ds.length := by omega
        exact ⟨rfl, by rw [lay_rows_ok H0.out.1 H0.out.2]; exact HL.out, HK.out⟩
  · have C := Lib.hid (L_many_no base g shColumn ds s w h h0)
    clear hR hs h h0
    go_enter Try.func84, Try.ntmps84
    go_wp2_with fail
    refine (unhide C).mono ?_
    rintro e w1 ⟨rfl, hL, hK⟩
    replace hL := Lib.hid hL
    clear C
    go_wp2
    refine bodyPost_ret (results_none rfl _ _ _) rfl ?_
    exact ⟨rfl, hL.out, hK⟩

set_option maxHeartbeats 1600000 in
theorem L_rule (base g : Nat) (ds : List Da) (vs : List Value) (s : St) (w : World) (h : LayAt w base g s) (hC : Cels w (· < base) shRule ds vs) (hs : (lays shRule ds s).1.length ≤ 1099511627776) :
    Calls Try.prog 85 #[.pointer (some ⟨g, 0, none⟩), .agg vs.toArray] w fun e w' => e = .returned (.tuple #[]) ∧ LayAt w' base g (lays shRule ds s) ∧ Lays base w w' := by
  replace hC : Cels w (· < base) [.text, .num, .rows [.text], .whole, .whole, .text, .text, .text] ds vs := hC
  obtain ⟨_, _, _, _, rfl, rfl, c0, hC⟩ := hC.cons
  obtain ⟨_, _, _, _, rfl, rfl, c1, hC⟩ := hC.cons
  obtain ⟨_, _, _, _, rfl, rfl, c2, hC⟩ := hC.cons
  obtain ⟨_, _, _, _, rfl, rfl, c3, hC⟩ := hC.cons
  obtain ⟨_, _, _, _, rfl, rfl, c4, hC⟩ := hC.cons
  obtain ⟨_, _, _, _, rfl, rfl, c5, hC⟩ := hC.cons
  obtain ⟨_, _, _, _, rfl, rfl, c6, hC⟩ := hC.cons
  obtain ⟨_, _, _, _, rfl, rfl, c7, hC⟩ := hC.cons
  obtain ⟨rfl, rfl⟩ := hC.nil
  obtain ⟨b0, rfl, rfl⟩ := c0.txt
  obtain ⟨n1, rfl, rfl⟩ := c1.num
  obtain ⟨r2, A2, k2, rfl, rfl, R2⟩ := c2.rows
  replace R2 := Lib.hid R2
  obtain ⟨n3, rfl, rfl, HW3⟩ := c3.whole
  replace HW3 := Lib.hid HW3
  obtain ⟨n4, rfl, rfl, HW4⟩ := c4.whole
  replace HW4 := Lib.hid HW4
  obtain ⟨b5, rfl, rfl⟩ := c5.txt
  obtain ⟨b6, rfl, rfl⟩ := c6.txt
  obtain ⟨b7, rfl, rfl⟩ := c7.txt
  simp only [shRule, lays] at hs ⊢
  have q8 := Lib.hid hs
  have q7 := Lib.hid (lay_le q8.out)
  have q6 := Lib.hid (lay_le q7.out)
  have q5 := Lib.hid (lay_le q6.out)
  have q4 := Lib.hid (lay_le q5.out)
  have q3 := Lib.hid (lay_le q4.out)
  have q2 := Lib.hid (lay_le q3.out)
  have q1 := Lib.hid (lay_le q2.out)
  have q0 := Lib.hid (lay_le q1.out)
  clear hs
  have hlt := h.lt
  have HA : Hid (Lays base w (w.alloc (.cells #[.string (text b0), .int .i64 n1, .slice A2 r2.length k2, .int .i64 n3, .int .i64 n4, .string (text b5), .string (text b6), .string (text b7)] 46))) := Lib.hid (Lays.alloc hlt _)
  have HX : Hid (Blk (w.alloc (.cells #[.string (text b0), .int .i64 n1, .slice A2 r2.length k2, .int .i64 n3, .int .i64 n4, .string (text b5), .string (text b6), .string (text b7)] 46)) w.heap.size 46 [.string (text b0), .int .i64 n1, .slice A2 r2.length k2, .int .i64 n3, .int .i64 n4, .string (text b5), .string (text b6), .string (text b7)]) := Lib.hid (Blk.new w _ _)
  have HL := Lib.hid (h.alloc (.cells #[.string (text b0), .int .i64 n1, .slice A2 r2.length k2, .int .i64 n3, .int .i64 n4, .string (text b5), .string (text b6), .string (text b7)] 46))
  have HK : Hid (Lays base (w.alloc (.cells #[.string (text b0), .int .i64 n1, .slice A2 r2.length k2, .int .i64 n3, .int .i64 n4, .string (text b5), .string (text b6), .string (text b7)] 46)) (w.alloc (.cells #[.string (text b0), .int .i64 n1, .slice A2 r2.length k2, .int .i64 n3, .int .i64 n4, .string (text b5), .string (text b6), .string (text b7)] 46))) := Lib.hid (Lays.refl _ _)
  clear h
  go_enter Try.func85, Try.ntmps85
  go_wp2_with fail
  refine (L_text base g b0 _ _ HL.out q1.out).mono ?_
  rintro e w1 ⟨rfl, hL, hK⟩
  replace HL := Lib.hid hL
  replace HK := Lib.hid (HK.out.trans hK)
  have HB1 := Lib.hid (HX.out.keeps HK.out.keeps (by decide))
  have hc1_0 : w1.cell? ⟨w.heap.size, 1, none⟩ = some (.int .i64 n1) := HB1.out.cell 1
  clear hL hK
  go_wp2_with fail
  refine (L_num base g n1 _ _ HL.out q2.out).mono ?_
  rintro e w2 ⟨rfl, hL, hK⟩
  replace HL := Lib.hid hL
  replace HK := Lib.hid (HK.out.trans hK)
  have HB2 := Lib.hid (HX.out.keeps HK.out.keeps (by decide))
  have hc2_0 : w2.cell? ⟨w.heap.size, 2, none⟩ = some (.slice A2 r2.length k2) := HB2.out.cell 2
  clear hL hK
  go_wp2_with fail
  refine (L_texts base g r2 A2 k2 _ _ HL.out (R2.out.below (HA.out.trans HK.out).below) q3.out).mono ?_
  rintro e w3 ⟨rfl, hL, hK⟩
  replace HL := Lib.hid hL
  replace HK := Lib.hid (HK.out.trans hK)
  have HB3 := Lib.hid (HX.out.keeps HK.out.keeps (by decide))
  have hc3_0 : w3.cell? ⟨w.heap.size, 3, none⟩ = some (.int .i64 n3) := HB3.out.cell 3
  clear hL hK
  go_wp2_with fail
  refine (L_whole base g n3 _ _ HL.out q4.out).mono ?_
  rintro e w4 ⟨rfl, hL, hK⟩
  replace HL := Lib.hid hL
  replace HK := Lib.hid (HK.out.trans hK)
  have HB4 := Lib.hid (HX.out.keeps HK.out.keeps (by decide))
  have hc4_0 : w4.cell? ⟨w.heap.size, 4, none⟩ = some (.int .i64 n4) := HB4.out.cell 4
  clear hL hK
  go_wp2_with fail
  refine (L_whole base g n4 _ _ HL.out q5.out).mono ?_
  rintro e w5 ⟨rfl, hL, hK⟩
  replace HL := Lib.hid hL
  replace HK := Lib.hid (HK.out.trans hK)
  have HB5 := Lib.hid (HX.out.keeps HK.out.keeps (by decide))
  have hc5_0 : w5.cell? ⟨w.heap.size, 5, none⟩ = some (.string (text b5)) := HB5.out.cell 5
  clear hL hK
  go_wp2_with fail
  refine (L_text base g b5 _ _ HL.out q6.out).mono ?_
  rintro e w6 ⟨rfl, hL, hK⟩
  replace HL := Lib.hid hL
  replace HK := Lib.hid (HK.out.trans hK)
  have HB6 := Lib.hid (HX.out.keeps HK.out.keeps (by decide))
  have hc6_0 : w6.cell? ⟨w.heap.size, 6, none⟩ = some (.string (text b6)) := HB6.out.cell 6
  clear hL hK
  go_wp2_with fail
  refine (L_text base g b6 _ _ HL.out q7.out).mono ?_
  rintro e w7 ⟨rfl, hL, hK⟩
  replace HL := Lib.hid hL
  replace HK := Lib.hid (HK.out.trans hK)
  have HB7 := Lib.hid (HX.out.keeps HK.out.keeps (by decide))
  have hc7_0 : w7.cell? ⟨w.heap.size, 7, none⟩ = some (.string (text b7)) := HB7.out.cell 7
  clear hL hK
  go_wp2_with fail
  refine (L_text base g b7 _ _ HL.out q8.out).mono ?_
  rintro e w8 ⟨rfl, hL, hK⟩
  replace HL := Lib.hid hL
  replace HK := Lib.hid (HK.out.trans hK)
  clear hL hK
  go_wp2
  go_end0
  exact ⟨rfl, HL.out, HA.out.trans HK.out⟩

set_option maxHeartbeats 1600000 in
theorem L_config (base g : Nat) (ds : List Da) (vs : List Value) (s : St) (w : World) (h : LayAt w base g s) (hC : Cels w (· < base) shConfig ds vs) (hs : (lays shConfig ds s).1.length ≤ 1099511627776) :
    Calls Try.prog 69 #[.pointer (some ⟨g, 0, none⟩), .agg vs.toArray] w fun e w' => e = .returned (.tuple #[]) ∧ LayAt w' base g (lays shConfig ds s) ∧ Lays base w w' := by
  replace hC : Cels w (· < base) [.rows [.num], .rows [.num]] ds vs := hC
  obtain ⟨_, _, _, _, rfl, rfl, c0, hC⟩ := hC.cons
  obtain ⟨_, _, _, _, rfl, rfl, c1, hC⟩ := hC.cons
  obtain ⟨rfl, rfl⟩ := hC.nil
  obtain ⟨r0, A0, k0, rfl, rfl, R0⟩ := c0.rows
  replace R0 := Lib.hid R0
  obtain ⟨r1, A1, k1, rfl, rfl, R1⟩ := c1.rows
  replace R1 := Lib.hid R1
  simp only [shConfig, lays] at hs ⊢
  have q2 := Lib.hid hs
  have q1 := Lib.hid (lay_le q2.out)
  have q0 := Lib.hid (lay_le q1.out)
  clear hs
  have hlt := h.lt
  have HA : Hid (Lays base w (w.alloc (.cells #[.slice A0 r0.length k0, .slice A1 r1.length k1] 27))) := Lib.hid (Lays.alloc hlt _)
  have HX : Hid (Blk (w.alloc (.cells #[.slice A0 r0.length k0, .slice A1 r1.length k1] 27)) w.heap.size 27 [.slice A0 r0.length k0, .slice A1 r1.length k1]) := Lib.hid (Blk.new w _ _)
  have HL := Lib.hid (h.alloc (.cells #[.slice A0 r0.length k0, .slice A1 r1.length k1] 27))
  have HK : Hid (Lays base (w.alloc (.cells #[.slice A0 r0.length k0, .slice A1 r1.length k1] 27)) (w.alloc (.cells #[.slice A0 r0.length k0, .slice A1 r1.length k1] 27))) := Lib.hid (Lays.refl _ _)
  clear h
  go_enter Try.func69, Try.ntmps69
  go_wp2_with fail
  refine (L_set base g r0 A0 k0 _ _ HL.out (R0.out.below (HA.out.trans HK.out).below) q1.out).mono ?_
  rintro e w1 ⟨rfl, hL, hK⟩
  replace HL := Lib.hid hL
  replace HK := Lib.hid (HK.out.trans hK)
  have HB1 := Lib.hid (HX.out.keeps HK.out.keeps (by decide))
  have hc1_0 : w1.cell? ⟨w.heap.size, 1, none⟩ = some (.slice A1 r1.length k1) := HB1.out.cell 1
  clear hL hK
  go_wp2_with fail
  refine (L_set base g r1 A1 k1 _ _ HL.out (R1.out.below (HA.out.trans HK.out).below) q2.out).mono ?_
  rintro e w2 ⟨rfl, hL, hK⟩
  replace HL := Lib.hid hL
  replace HK := Lib.hid (HK.out.trans hK)
  clear hL hK
  go_wp2
  go_end0
  exact ⟨rfl, HL.out, HA.out.trans HK.out⟩

set_option maxHeartbeats 1600000 in
theorem L_Record (base g : Nat) (ds : List Da) (vs : List Value) (s : St) (w : World) (h : LayAt w base g s) (hC : Cels w (· < base) shRecord ds vs) (hs : (lays shRecord ds s).1.length ≤ 1099511627776) :
    Calls Try.prog 36 #[.pointer (some ⟨g, 0, none⟩), .agg vs.toArray] w fun e w' => e = .returned (.tuple #[]) ∧ LayAt w' base g (lays shRecord ds s) ∧ Lays base w w' := by
  replace hC : Cels w (· < base) [.num, .num, .num, .num, .num, .num, .rows [.num], .rows [.num], .text, .num, .num, .num, .rows [.num], .rows [.num], .text] ds vs := hC
  obtain ⟨_, _, _, _, rfl, rfl, c0, hC⟩ := hC.cons
  obtain ⟨_, _, _, _, rfl, rfl, c1, hC⟩ := hC.cons
  obtain ⟨_, _, _, _, rfl, rfl, c2, hC⟩ := hC.cons
  obtain ⟨_, _, _, _, rfl, rfl, c3, hC⟩ := hC.cons
  obtain ⟨_, _, _, _, rfl, rfl, c4, hC⟩ := hC.cons
  obtain ⟨_, _, _, _, rfl, rfl, c5, hC⟩ := hC.cons
  obtain ⟨_, _, _, _, rfl, rfl, c6, hC⟩ := hC.cons
  obtain ⟨_, _, _, _, rfl, rfl, c7, hC⟩ := hC.cons
  obtain ⟨_, _, _, _, rfl, rfl, c8, hC⟩ := hC.cons
  obtain ⟨_, _, _, _, rfl, rfl, c9, hC⟩ := hC.cons
  obtain ⟨_, _, _, _, rfl, rfl, c10, hC⟩ := hC.cons
  obtain ⟨_, _, _, _, rfl, rfl, c11, hC⟩ := hC.cons
  obtain ⟨_, _, _, _, rfl, rfl, c12, hC⟩ := hC.cons
  obtain ⟨_, _, _, _, rfl, rfl, c13, hC⟩ := hC.cons
  obtain ⟨_, _, _, _, rfl, rfl, c14, hC⟩ := hC.cons
  obtain ⟨rfl, rfl⟩ := hC.nil
  obtain ⟨n0, rfl, rfl⟩ := c0.num
  obtain ⟨n1, rfl, rfl⟩ := c1.num
  obtain ⟨n2, rfl, rfl⟩ := c2.num
  obtain ⟨n3, rfl, rfl⟩ := c3.num
  obtain ⟨n4, rfl, rfl⟩ := c4.num
  obtain ⟨n5, rfl, rfl⟩ := c5.num
  obtain ⟨r6, A6, k6, rfl, rfl, R6⟩ := c6.rows
  replace R6 := Lib.hid R6
  obtain ⟨r7, A7, k7, rfl, rfl, R7⟩ := c7.rows
  replace R7 := Lib.hid R7
  obtain ⟨b8, rfl, rfl⟩ := c8.txt
  obtain ⟨n9, rfl, rfl⟩ := c9.num
  obtain ⟨n10, rfl, rfl⟩ := c10.num
  obtain ⟨n11, rfl, rfl⟩ := c11.num
  obtain ⟨r12, A12, k12, rfl, rfl, R12⟩ := c12.rows
  replace R12 := Lib.hid R12
  obtain ⟨r13, A13, k13, rfl, rfl, R13⟩ := c13.rows
  replace R13 := Lib.hid R13
  obtain ⟨b14, rfl, rfl⟩ := c14.txt
  simp only [shRecord, lays] at hs ⊢
  have q15 := Lib.hid hs
  have q14 := Lib.hid (lay_le q15.out)
  have q13 := Lib.hid (lay_le q14.out)
  have q12 := Lib.hid (lay_le q13.out)
  have q11 := Lib.hid (lay_le q12.out)
  have q10 := Lib.hid (lay_le q11.out)
  have q9 := Lib.hid (lay_le q10.out)
  have q8 := Lib.hid (lay_le q9.out)
  have q7 := Lib.hid (lay_le q8.out)
  have q6 := Lib.hid (lay_le q7.out)
  have q5 := Lib.hid (lay_le q6.out)
  have q4 := Lib.hid (lay_le q5.out)
  have q3 := Lib.hid (lay_le q4.out)
  have q2 := Lib.hid (lay_le q3.out)
  have q1 := Lib.hid (lay_le q2.out)
  have q0 := Lib.hid (lay_le q1.out)
  clear hs
  have hlt := h.lt
  have HA : Hid (Lays base w (w.alloc (.cells #[.int .i64 n0, .int .i64 n1, .int .i64 n2, .int .i64 n3, .int .i64 n4, .int .i64 n5, .slice A6 r6.length k6, .slice A7 r7.length k7, .string (text b8), .int .i64 n9, .int .i64 n10, .int .i64 n11, .slice A12 r12.length k12, .slice A13 r13.length k13, .string (text b14)] 33))) := Lib.hid (Lays.alloc hlt _)
  have HX : Hid (Blk (w.alloc (.cells #[.int .i64 n0, .int .i64 n1, .int .i64 n2, .int .i64 n3, .int .i64 n4, .int .i64 n5, .slice A6 r6.length k6, .slice A7 r7.length k7, .string (text b8), .int .i64 n9, .int .i64 n10, .int .i64 n11, .slice A12 r12.length k12, .slice A13 r13.length k13, .string (text b14)] 33)) w.heap.size 33 [.int .i64 n0, .int .i64 n1, .int .i64 n2, .int .i64 n3, .int .i64 n4, .int .i64 n5, .slice A6 r6.length k6, .slice A7 r7.length k7, .string (text b8), .int .i64 n9, .int .i64 n10, .int .i64 n11, .slice A12 r12.length k12, .slice A13 r13.length k13, .string (text b14)]) := Lib.hid (Blk.new w _ _)
  have HL := Lib.hid (h.alloc (.cells #[.int .i64 n0, .int .i64 n1, .int .i64 n2, .int .i64 n3, .int .i64 n4, .int .i64 n5, .slice A6 r6.length k6, .slice A7 r7.length k7, .string (text b8), .int .i64 n9, .int .i64 n10, .int .i64 n11, .slice A12 r12.length k12, .slice A13 r13.length k13, .string (text b14)] 33))
  have HK : Hid (Lays base (w.alloc (.cells #[.int .i64 n0, .int .i64 n1, .int .i64 n2, .int .i64 n3, .int .i64 n4, .int .i64 n5, .slice A6 r6.length k6, .slice A7 r7.length k7, .string (text b8), .int .i64 n9, .int .i64 n10, .int .i64 n11, .slice A12 r12.length k12, .slice A13 r13.length k13, .string (text b14)] 33)) (w.alloc (.cells #[.int .i64 n0, .int .i64 n1, .int .i64 n2, .int .i64 n3, .int .i64 n4, .int .i64 n5, .slice A6 r6.length k6, .slice A7 r7.length k7, .string (text b8), .int .i64 n9, .int .i64 n10, .int .i64 n11, .slice A12 r12.length k12, .slice A13 r13.length k13, .string (text b14)] 33))) := Lib.hid (Lays.refl _ _)
  clear h
  go_enter Try.func36, Try.ntmps36
  go_wp2_with fail
  refine (L_num base g n0 _ _ HL.out q1.out).mono ?_
  rintro e w1 ⟨rfl, hL, hK⟩
  replace HL := Lib.hid hL
  replace HK := Lib.hid (HK.out.trans hK)
  have HB1 := Lib.hid (HX.out.keeps HK.out.keeps (by decide))
  have hc1_0 : w1.cell? ⟨w.heap.size, 1, none⟩ = some (.int .i64 n1) := HB1.out.cell 1
  clear hL hK
  go_wp2_with fail
  refine (L_num base g n1 _ _ HL.out q2.out).mono ?_
  rintro e w2 ⟨rfl, hL, hK⟩
  replace HL := Lib.hid hL
  replace HK := Lib.hid (HK.out.trans hK)
  have HB2 := Lib.hid (HX.out.keeps HK.out.keeps (by decide))
  have hc2_0 : w2.cell? ⟨w.heap.size, 2, none⟩ = some (.int .i64 n2) := HB2.out.cell 2
  clear hL hK
  go_wp2_with fail
  refine (L_num base g n2 _ _ HL.out q3.out).mono ?_
  rintro e w3 ⟨rfl, hL, hK⟩
  replace HL := Lib.hid hL
  replace HK := Lib.hid (HK.out.trans hK)
  have HB3 := Lib.hid (HX.out.keeps HK.out.keeps (by decide))
  have hc3_0 : w3.cell? ⟨w.heap.size, 3, none⟩ = some (.int .i64 n3) := HB3.out.cell 3
  clear hL hK
  go_wp2_with fail
  refine (L_num base g n3 _ _ HL.out q4.out).mono ?_
  rintro e w4 ⟨rfl, hL, hK⟩
  replace HL := Lib.hid hL
  replace HK := Lib.hid (HK.out.trans hK)
  have HB4 := Lib.hid (HX.out.keeps HK.out.keeps (by decide))
  have hc4_0 : w4.cell? ⟨w.heap.size, 4, none⟩ = some (.int .i64 n4) := HB4.out.cell 4
  clear hL hK
  go_wp2_with fail
  refine (L_num base g n4 _ _ HL.out q5.out).mono ?_
  rintro e w5 ⟨rfl, hL, hK⟩
  replace HL := Lib.hid hL
  replace HK := Lib.hid (HK.out.trans hK)
  have HB5 := Lib.hid (HX.out.keeps HK.out.keeps (by decide))
  have hc5_0 : w5.cell? ⟨w.heap.size, 5, none⟩ = some (.int .i64 n5) := HB5.out.cell 5
  clear hL hK
  go_wp2_with fail
  refine (L_num base g n5 _ _ HL.out q6.out).mono ?_
  rintro e w6 ⟨rfl, hL, hK⟩
  replace HL := Lib.hid hL
  replace HK := Lib.hid (HK.out.trans hK)
  have HB6 := Lib.hid (HX.out.keeps HK.out.keeps (by decide))
  have hc6_0 : w6.cell? ⟨w.heap.size, 6, none⟩ = some (.slice A6 r6.length k6) := HB6.out.cell 6
  have hc6_1 : w6.cell? ⟨w.heap.size, 7, none⟩ = some (.slice A7 r7.length k7) := HB6.out.cell 7
  clear hL hK
  go_wp2_with fail
  refine (L_config base g _ _ _ _ HL.out (Cels.mk (Cel.mk_rows k6 (R6.out.below (HA.out.trans HK.out).below)) (Cels.mk (Cel.mk_rows k7 (R7.out.below (HA.out.trans HK.out).below)) Cels.mk0)) (by simp only [shConfig, lays]; exact q8.out)).mono ?_
  rintro e w7 ⟨rfl, hL, hK⟩
  simp only [shConfig, lays] at hL
  replace HL := Lib.hid hL
  replace HK := Lib.hid (HK.out.trans hK)
  have HB7 := Lib.hid (HX.out.keeps HK.out.keeps (by decide))
  have hc7_0 : w7.cell? ⟨w.heap.size, 8, none⟩ = some (.string (text b8)) := HB7.out.cell 8
  clear hL hK
  go_wp2_with fail
  refine (L_text base g b8 _ _ HL.out q9.out).mono ?_
  rintro e w8 ⟨rfl, hL, hK⟩
  replace HL := Lib.hid hL
  replace HK := Lib.hid (HK.out.trans hK)
  have HB8 := Lib.hid (HX.out.keeps HK.out.keeps (by decide))
  have hc8_0 : w8.cell? ⟨w.heap.size, 9, none⟩ = some (.int .i64 n9) := HB8.out.cell 9
  clear hL hK
  go_wp2_with fail
  refine (L_num base g n9 _ _ HL.out q10.out).mono ?_
  rintro e w9 ⟨rfl, hL, hK⟩
  replace HL := Lib.hid hL
  replace HK := Lib.hid (HK.out.trans hK)
  have HB9 := Lib.hid (HX.out.keeps HK.out.keeps (by decide))
  have hc9_0 : w9.cell? ⟨w.heap.size, 10, none⟩ = some (.int .i64 n10) := HB9.out.cell 10
  clear hL hK
  go_wp2_with fail
  refine (L_num base g n10 _ _ HL.out q11.out).mono ?_
  rintro e w10 ⟨rfl, hL, hK⟩
  replace HL := Lib.hid hL
  replace HK := Lib.hid (HK.out.trans hK)
  have HB10 := Lib.hid (HX.out.keeps HK.out.keeps (by decide))
  have hc10_0 : w10.cell? ⟨w.heap.size, 11, none⟩ = some (.int .i64 n11) := HB10.out.cell 11
  clear hL hK
  go_wp2_with fail
  refine (L_num base g n11 _ _ HL.out q12.out).mono ?_
  rintro e w11 ⟨rfl, hL, hK⟩
  replace HL := Lib.hid hL
  replace HK := Lib.hid (HK.out.trans hK)
  have HB11 := Lib.hid (HX.out.keeps HK.out.keeps (by decide))
  have hc11_0 : w11.cell? ⟨w.heap.size, 12, none⟩ = some (.slice A12 r12.length k12) := HB11.out.cell 12
  have hc11_1 : w11.cell? ⟨w.heap.size, 13, none⟩ = some (.slice A13 r13.length k13) := HB11.out.cell 13
  clear hL hK
  go_wp2_with fail
  refine (L_config base g _ _ _ _ HL.out (Cels.mk (Cel.mk_rows k12 (R12.out.below (HA.out.trans HK.out).below)) (Cels.mk (Cel.mk_rows k13 (R13.out.below (HA.out.trans HK.out).below)) Cels.mk0)) (by simp only [shConfig, lays]; exact q14.out)).mono ?_
  rintro e w12 ⟨rfl, hL, hK⟩
  simp only [shConfig, lays] at hL
  replace HL := Lib.hid hL
  replace HK := Lib.hid (HK.out.trans hK)
  have HB12 := Lib.hid (HX.out.keeps HK.out.keeps (by decide))
  have hc12_0 : w12.cell? ⟨w.heap.size, 14, none⟩ = some (.string (text b14)) := HB12.out.cell 14
  clear hL hK
  go_wp2_with fail
  refine (L_text base g b14 _ _ HL.out q15.out).mono ?_
  rintro e w13 ⟨rfl, hL, hK⟩
  replace HL := Lib.hid hL
  replace HK := Lib.hid (HK.out.trans hK)
  clear hL hK
  go_wp2
  go_end0
  exact ⟨rfl, HL.out, HA.out.trans HK.out⟩

set_option maxHeartbeats 1600000 in
theorem L_Command (base g : Nat) (ds : List Da) (vs : List Value) (s : St) (w : World) (h : LayAt w base g s) (hC : Cels w (· < base) shCommand ds vs) (hs : (lays shCommand ds s).1.length ≤ 1099511627776) :
    Calls Try.prog 48 #[.pointer (some ⟨g, 0, none⟩), .agg vs.toArray] w fun e w' => e = .returned (.tuple #[]) ∧ LayAt w' base g (lays shCommand ds s) ∧ Lays base w w' := by
  replace hC : Cels w (· < base) [.num, .text, .text, .text, .text, .text, .rows shColumn, .text, .num, .rows [.text], .whole, .whole, .text, .text, .text, .num, .flag] ds vs := hC
  obtain ⟨_, _, _, _, rfl, rfl, c0, hC⟩ := hC.cons
  obtain ⟨_, _, _, _, rfl, rfl, c1, hC⟩ := hC.cons
  obtain ⟨_, _, _, _, rfl, rfl, c2, hC⟩ := hC.cons
  obtain ⟨_, _, _, _, rfl, rfl, c3, hC⟩ := hC.cons
  obtain ⟨_, _, _, _, rfl, rfl, c4, hC⟩ := hC.cons
  obtain ⟨_, _, _, _, rfl, rfl, c5, hC⟩ := hC.cons
  obtain ⟨_, _, _, _, rfl, rfl, c6, hC⟩ := hC.cons
  obtain ⟨_, _, _, _, rfl, rfl, c7, hC⟩ := hC.cons
  obtain ⟨_, _, _, _, rfl, rfl, c8, hC⟩ := hC.cons
  obtain ⟨_, _, _, _, rfl, rfl, c9, hC⟩ := hC.cons
  obtain ⟨_, _, _, _, rfl, rfl, c10, hC⟩ := hC.cons
  obtain ⟨_, _, _, _, rfl, rfl, c11, hC⟩ := hC.cons
  obtain ⟨_, _, _, _, rfl, rfl, c12, hC⟩ := hC.cons
  obtain ⟨_, _, _, _, rfl, rfl, c13, hC⟩ := hC.cons
  obtain ⟨_, _, _, _, rfl, rfl, c14, hC⟩ := hC.cons
  obtain ⟨_, _, _, _, rfl, rfl, c15, hC⟩ := hC.cons
  obtain ⟨_, _, _, _, rfl, rfl, c16, hC⟩ := hC.cons
  obtain ⟨rfl, rfl⟩ := hC.nil
  obtain ⟨n0, rfl, rfl⟩ := c0.num
  obtain ⟨b1, rfl, rfl⟩ := c1.txt
  obtain ⟨b2, rfl, rfl⟩ := c2.txt
  obtain ⟨b3, rfl, rfl⟩ := c3.txt
  obtain ⟨b4, rfl, rfl⟩ := c4.txt
  obtain ⟨b5, rfl, rfl⟩ := c5.txt
  obtain ⟨r6, A6, k6, rfl, rfl, R6⟩ := c6.rows
  replace R6 := Lib.hid R6
  obtain ⟨b7, rfl, rfl⟩ := c7.txt
  obtain ⟨n8, rfl, rfl⟩ := c8.num
  obtain ⟨r9, A9, k9, rfl, rfl, R9⟩ := c9.rows
  replace R9 := Lib.hid R9
  obtain ⟨n10, rfl, rfl, HW10⟩ := c10.whole
  replace HW10 := Lib.hid HW10
  obtain ⟨n11, rfl, rfl, HW11⟩ := c11.whole
  replace HW11 := Lib.hid HW11
  obtain ⟨b12, rfl, rfl⟩ := c12.txt
  obtain ⟨b13, rfl, rfl⟩ := c13.txt
  obtain ⟨b14, rfl, rfl⟩ := c14.txt
  obtain ⟨n15, rfl, rfl⟩ := c15.num
  obtain ⟨f16, rfl, rfl⟩ := c16.flag
  simp only [shCommand, lays] at hs ⊢
  have q17 := Lib.hid hs
  have q16 := Lib.hid (lay_le q17.out)
  have q15 := Lib.hid (lay_le q16.out)
  have q14 := Lib.hid (lay_le q15.out)
  have q13 := Lib.hid (lay_le q14.out)
  have q12 := Lib.hid (lay_le q13.out)
  have q11 := Lib.hid (lay_le q12.out)
  have q10 := Lib.hid (lay_le q11.out)
  have q9 := Lib.hid (lay_le q10.out)
  have q8 := Lib.hid (lay_le q9.out)
  have q7 := Lib.hid (lay_le q8.out)
  have q6 := Lib.hid (lay_le q7.out)
  have q5 := Lib.hid (lay_le q6.out)
  have q4 := Lib.hid (lay_le q5.out)
  have q3 := Lib.hid (lay_le q4.out)
  have q2 := Lib.hid (lay_le q3.out)
  have q1 := Lib.hid (lay_le q2.out)
  have q0 := Lib.hid (lay_le q1.out)
  clear hs
  have hlt := h.lt
  have HA : Hid (Lays base w (w.alloc (.cells #[.int .i64 n0, .string (text b1), .string (text b2), .string (text b3), .string (text b4), .string (text b5), .slice A6 r6.length k6, .string (text b7), .int .i64 n8, .slice A9 r9.length k9, .int .i64 n10, .int .i64 n11, .string (text b12), .string (text b13), .string (text b14), .int .i64 n15, .bool f16] 49))) := Lib.hid (Lays.alloc hlt _)
  have HX : Hid (Blk (w.alloc (.cells #[.int .i64 n0, .string (text b1), .string (text b2), .string (text b3), .string (text b4), .string (text b5), .slice A6 r6.length k6, .string (text b7), .int .i64 n8, .slice A9 r9.length k9, .int .i64 n10, .int .i64 n11, .string (text b12), .string (text b13), .string (text b14), .int .i64 n15, .bool f16] 49)) w.heap.size 49 [.int .i64 n0, .string (text b1), .string (text b2), .string (text b3), .string (text b4), .string (text b5), .slice A6 r6.length k6, .string (text b7), .int .i64 n8, .slice A9 r9.length k9, .int .i64 n10, .int .i64 n11, .string (text b12), .string (text b13), .string (text b14), .int .i64 n15, .bool f16]) := Lib.hid (Blk.new w _ _)
  have HL := Lib.hid (h.alloc (.cells #[.int .i64 n0, .string (text b1), .string (text b2), .string (text b3), .string (text b4), .string (text b5), .slice A6 r6.length k6, .string (text b7), .int .i64 n8, .slice A9 r9.length k9, .int .i64 n10, .int .i64 n11, .string (text b12), .string (text b13), .string (text b14), .int .i64 n15, .bool f16] 49))
  have HK : Hid (Lays base (w.alloc (.cells #[.int .i64 n0, .string (text b1), .string (text b2), .string (text b3), .string (text b4), .string (text b5), .slice A6 r6.length k6, .string (text b7), .int .i64 n8, .slice A9 r9.length k9, .int .i64 n10, .int .i64 n11, .string (text b12), .string (text b13), .string (text b14), .int .i64 n15, .bool f16] 49)) (w.alloc (.cells #[.int .i64 n0, .string (text b1), .string (text b2), .string (text b3), .string (text b4), .string (text b5), .slice A6 r6.length k6, .string (text b7), .int .i64 n8, .slice A9 r9.length k9, .int .i64 n10, .int .i64 n11, .string (text b12), .string (text b13), .string (text b14), .int .i64 n15, .bool f16] 49))) := Lib.hid (Lays.refl _ _)
  clear h
  go_enter Try.func48, Try.ntmps48
  go_wp2_with fail
  refine (L_num base g n0 _ _ HL.out q1.out).mono ?_
  rintro e w1 ⟨rfl, hL, hK⟩
  replace HL := Lib.hid hL
  replace HK := Lib.hid (HK.out.trans hK)
  have HB1 := Lib.hid (HX.out.keeps HK.out.keeps (by decide))
  have hc1_0 : w1.cell? ⟨w.heap.size, 1, none⟩ = some (.string (text b1)) := HB1.out.cell 1
  clear hL hK
  go_wp2_with fail
  refine (L_text base g b1 _ _ HL.out q2.out).mono ?_
  rintro e w2 ⟨rfl, hL, hK⟩
  replace HL := Lib.hid hL
  replace HK := Lib.hid (HK.out.trans hK)
  have HB2 := Lib.hid (HX.out.keeps HK.out.keeps (by decide))
  have hc2_0 : w2.cell? ⟨w.heap.size, 2, none⟩ = some (.string (text b2)) := HB2.out.cell 2
  clear hL hK
  go_wp2_with fail
  refine (L_text base g b2 _ _ HL.out q3.out).mono ?_
  rintro e w3 ⟨rfl, hL, hK⟩
  replace HL := Lib.hid hL
  replace HK := Lib.hid (HK.out.trans hK)
  have HB3 := Lib.hid (HX.out.keeps HK.out.keeps (by decide))
  have hc3_0 : w3.cell? ⟨w.heap.size, 3, none⟩ = some (.string (text b3)) := HB3.out.cell 3
  clear hL hK
  go_wp2_with fail
  refine (L_text base g b3 _ _ HL.out q4.out).mono ?_
  rintro e w4 ⟨rfl, hL, hK⟩
  replace HL := Lib.hid hL
  replace HK := Lib.hid (HK.out.trans hK)
  have HB4 := Lib.hid (HX.out.keeps HK.out.keeps (by decide))
  have hc4_0 : w4.cell? ⟨w.heap.size, 4, none⟩ = some (.string (text b4)) := HB4.out.cell 4
  clear hL hK
  go_wp2_with fail
  refine (L_text base g b4 _ _ HL.out q5.out).mono ?_
  rintro e w5 ⟨rfl, hL, hK⟩
  replace HL := Lib.hid hL
  replace HK := Lib.hid (HK.out.trans hK)
  have HB5 := Lib.hid (HX.out.keeps HK.out.keeps (by decide))
  have hc5_0 : w5.cell? ⟨w.heap.size, 5, none⟩ = some (.string (text b5)) := HB5.out.cell 5
  clear hL hK
  go_wp2_with fail
  refine (L_text base g b5 _ _ HL.out q6.out).mono ?_
  rintro e w6 ⟨rfl, hL, hK⟩
  replace HL := Lib.hid hL
  replace HK := Lib.hid (HK.out.trans hK)
  have HB6 := Lib.hid (HX.out.keeps HK.out.keeps (by decide))
  have hc6_0 : w6.cell? ⟨w.heap.size, 6, none⟩ = some (.slice A6 r6.length k6) := HB6.out.cell 6
  clear hL hK
  go_wp2_with fail
  refine (L_columns base g r6 A6 k6 _ _ HL.out (R6.out.below (HA.out.trans HK.out).below) q7.out).mono ?_
  rintro e w7 ⟨rfl, hL, hK⟩
  replace HL := Lib.hid hL
  replace HK := Lib.hid (HK.out.trans hK)
  have HB7 := Lib.hid (HX.out.keeps HK.out.keeps (by decide))
  have hc7_0 : w7.cell? ⟨w.heap.size, 7, none⟩ = some (.string (text b7)) := HB7.out.cell 7
  have hc7_1 : w7.cell? ⟨w.heap.size, 8, none⟩ = some (.int .i64 n8) := HB7.out.cell 8
  have hc7_2 : w7.cell? ⟨w.heap.size, 9, none⟩ = some (.slice A9 r9.length k9) := HB7.out.cell 9
  have hc7_3 : w7.cell? ⟨w.heap.size, 10, none⟩ = some (.int .i64 n10) := HB7.out.cell 10
  have hc7_4 : w7.cell? ⟨w.heap.size, 11, none⟩ = some (.int .i64 n11) := HB7.out.cell 11
  have hc7_5 : w7.cell? ⟨w.heap.size, 12, none⟩ = some (.string (text b12)) := HB7.out.cell 12
  have hc7_6 : w7.cell? ⟨w.heap.size, 13, none⟩ = some (.string (text b13)) := HB7.out.cell 13
  have hc7_7 : w7.cell? ⟨w.heap.size, 14, none⟩ = some (.string (text b14)) := HB7.out.cell 14
  clear hL hK
  go_wp2_with fail
  refine (L_rule base g _ _ _ _ HL.out (Cels.mk (Cel.mk_text b7) (Cels.mk (Cel.mk_num n8) (Cels.mk (Cel.mk_rows k9 (R9.out.below (HA.out.trans HK.out).below)) (Cels.mk (Cel.mk_whole HW10.out) (Cels.mk (Cel.mk_whole HW11.out) (Cels.mk (Cel.mk_text b12) (Cels.mk (Cel.mk_text b13) (Cels.mk (Cel.mk_text b14) Cels.mk0)))))))) (by simp only [shRule, lays]; exact q15.out)).mono ?_
  rintro e w8 ⟨rfl, hL, hK⟩
  simp only [shRule, lays] at hL
  replace HL := Lib.hid hL
  replace HK := Lib.hid (HK.out.trans hK)
  have HB8 := Lib.hid (HX.out.keeps HK.out.keeps (by decide))
  have hc8_0 : w8.cell? ⟨w.heap.size, 15, none⟩ = some (.int .i64 n15) := HB8.out.cell 15
  clear hL hK
  go_wp2_with fail
  refine (L_num base g n15 _ _ HL.out q16.out).mono ?_
  rintro e w9 ⟨rfl, hL, hK⟩
  replace HL := Lib.hid hL
  replace HK := Lib.hid (HK.out.trans hK)
  have HB9 := Lib.hid (HX.out.keeps HK.out.keeps (by decide))
  have hc9_0 : w9.cell? ⟨w.heap.size, 16, none⟩ = some (.bool f16) := HB9.out.cell 16
  clear hL hK
  go_wp2_with fail
  refine (L_flag base g f16 _ _ HL.out q17.out).mono ?_
  rintro e w10 ⟨rfl, hL, hK⟩
  replace HL := Lib.hid hL
  replace HK := Lib.hid (HK.out.trans hK)
  clear hL hK
  go_wp2
  go_end0
  exact ⟨rfl, HL.out, HA.out.trans HK.out⟩

set_option maxHeartbeats 1600000 in
theorem L_Op (base g : Nat) (ds : List Da) (vs : List Value) (s : St) (w : World) (h : LayAt w base g s) (hC : Cels w (· < base) shOp ds vs) (hs : (lays shOp ds s).1.length ≤ 1099511627776) :
    Calls Try.prog 40 #[.pointer (some ⟨g, 0, none⟩), .agg vs.toArray] w fun e w' => e = .returned (.tuple #[]) ∧ LayAt w' base g (lays shOp ds s) ∧ Lays base w w' := by
  replace hC : Cels w (· < base) [.num, .num, .num, .num, .text, .text, .text, .text, .text, .rows shColumn, .text, .num, .rows [.text], .whole, .whole, .text, .text, .text, .num, .flag, .num, .num, .num] ds vs := hC
  obtain ⟨_, _, _, _, rfl, rfl, c0, hC⟩ := hC.cons
  obtain ⟨_, _, _, _, rfl, rfl, c1, hC⟩ := hC.cons
  obtain ⟨_, _, _, _, rfl, rfl, c2, hC⟩ := hC.cons
  obtain ⟨_, _, _, _, rfl, rfl, c3, hC⟩ := hC.cons
  obtain ⟨_, _, _, _, rfl, rfl, c4, hC⟩ := hC.cons
  obtain ⟨_, _, _, _, rfl, rfl, c5, hC⟩ := hC.cons
  obtain ⟨_, _, _, _, rfl, rfl, c6, hC⟩ := hC.cons
  obtain ⟨_, _, _, _, rfl, rfl, c7, hC⟩ := hC.cons
  obtain ⟨_, _, _, _, rfl, rfl, c8, hC⟩ := hC.cons
  obtain ⟨_, _, _, _, rfl, rfl, c9, hC⟩ := hC.cons
  obtain ⟨_, _, _, _, rfl, rfl, c10, hC⟩ := hC.cons
  obtain ⟨_, _, _, _, rfl, rfl, c11, hC⟩ := hC.cons
  obtain ⟨_, _, _, _, rfl, rfl, c12, hC⟩ := hC.cons
  obtain ⟨_, _, _, _, rfl, rfl, c13, hC⟩ := hC.cons
  obtain ⟨_, _, _, _, rfl, rfl, c14, hC⟩ := hC.cons
  obtain ⟨_, _, _, _, rfl, rfl, c15, hC⟩ := hC.cons
  obtain ⟨_, _, _, _, rfl, rfl, c16, hC⟩ := hC.cons
  obtain ⟨_, _, _, _, rfl, rfl, c17, hC⟩ := hC.cons
  obtain ⟨_, _, _, _, rfl, rfl, c18, hC⟩ := hC.cons
  obtain ⟨_, _, _, _, rfl, rfl, c19, hC⟩ := hC.cons
  obtain ⟨_, _, _, _, rfl, rfl, c20, hC⟩ := hC.cons
  obtain ⟨_, _, _, _, rfl, rfl, c21, hC⟩ := hC.cons
  obtain ⟨_, _, _, _, rfl, rfl, c22, hC⟩ := hC.cons
  obtain ⟨rfl, rfl⟩ := hC.nil
  obtain ⟨n0, rfl, rfl⟩ := c0.num
  obtain ⟨n1, rfl, rfl⟩ := c1.num
  obtain ⟨n2, rfl, rfl⟩ := c2.num
  obtain ⟨n3, rfl, rfl⟩ := c3.num
  obtain ⟨b4, rfl, rfl⟩ := c4.txt
  obtain ⟨b5, rfl, rfl⟩ := c5.txt
  obtain ⟨b6, rfl, rfl⟩ := c6.txt
  obtain ⟨b7, rfl, rfl⟩ := c7.txt
  obtain ⟨b8, rfl, rfl⟩ := c8.txt
  obtain ⟨r9, A9, k9, rfl, rfl, R9⟩ := c9.rows
  replace R9 := Lib.hid R9
  obtain ⟨b10, rfl, rfl⟩ := c10.txt
  obtain ⟨n11, rfl, rfl⟩ := c11.num
  obtain ⟨r12, A12, k12, rfl, rfl, R12⟩ := c12.rows
  replace R12 := Lib.hid R12
  obtain ⟨n13, rfl, rfl, HW13⟩ := c13.whole
  replace HW13 := Lib.hid HW13
  obtain ⟨n14, rfl, rfl, HW14⟩ := c14.whole
  replace HW14 := Lib.hid HW14
  obtain ⟨b15, rfl, rfl⟩ := c15.txt
  obtain ⟨b16, rfl, rfl⟩ := c16.txt
  obtain ⟨b17, rfl, rfl⟩ := c17.txt
  obtain ⟨n18, rfl, rfl⟩ := c18.num
  obtain ⟨f19, rfl, rfl⟩ := c19.flag
  obtain ⟨n20, rfl, rfl⟩ := c20.num
  obtain ⟨n21, rfl, rfl⟩ := c21.num
  obtain ⟨n22, rfl, rfl⟩ := c22.num
  simp only [shOp, lays] at hs ⊢
  have q23 := Lib.hid hs
  have q22 := Lib.hid (lay_le q23.out)
  have q21 := Lib.hid (lay_le q22.out)
  have q20 := Lib.hid (lay_le q21.out)
  have q19 := Lib.hid (lay_le q20.out)
  have q18 := Lib.hid (lay_le q19.out)
  have q17 := Lib.hid (lay_le q18.out)
  have q16 := Lib.hid (lay_le q17.out)
  have q15 := Lib.hid (lay_le q16.out)
  have q14 := Lib.hid (lay_le q15.out)
  have q13 := Lib.hid (lay_le q14.out)
  have q12 := Lib.hid (lay_le q13.out)
  have q11 := Lib.hid (lay_le q12.out)
  have q10 := Lib.hid (lay_le q11.out)
  have q9 := Lib.hid (lay_le q10.out)
  have q8 := Lib.hid (lay_le q9.out)
  have q7 := Lib.hid (lay_le q8.out)
  have q6 := Lib.hid (lay_le q7.out)
  have q5 := Lib.hid (lay_le q6.out)
  have q4 := Lib.hid (lay_le q5.out)
  have q3 := Lib.hid (lay_le q4.out)
  have q2 := Lib.hid (lay_le q3.out)
  have q1 := Lib.hid (lay_le q2.out)
  have q0 := Lib.hid (lay_le q1.out)
  clear hs
  have hlt := h.lt
  have HA : Hid (Lays base w (w.alloc (.cells #[.int .i64 n0, .int .i64 n1, .int .i64 n2, .int .i64 n3, .string (text b4), .string (text b5), .string (text b6), .string (text b7), .string (text b8), .slice A9 r9.length k9, .string (text b10), .int .i64 n11, .slice A12 r12.length k12, .int .i64 n13, .int .i64 n14, .string (text b15), .string (text b16), .string (text b17), .int .i64 n18, .bool f19, .int .i64 n20, .int .i64 n21, .int .i64 n22] 51))) := Lib.hid (Lays.alloc hlt _)
  have HX : Hid (Blk (w.alloc (.cells #[.int .i64 n0, .int .i64 n1, .int .i64 n2, .int .i64 n3, .string (text b4), .string (text b5), .string (text b6), .string (text b7), .string (text b8), .slice A9 r9.length k9, .string (text b10), .int .i64 n11, .slice A12 r12.length k12, .int .i64 n13, .int .i64 n14, .string (text b15), .string (text b16), .string (text b17), .int .i64 n18, .bool f19, .int .i64 n20, .int .i64 n21, .int .i64 n22] 51)) w.heap.size 51 [.int .i64 n0, .int .i64 n1, .int .i64 n2, .int .i64 n3, .string (text b4), .string (text b5), .string (text b6), .string (text b7), .string (text b8), .slice A9 r9.length k9, .string (text b10), .int .i64 n11, .slice A12 r12.length k12, .int .i64 n13, .int .i64 n14, .string (text b15), .string (text b16), .string (text b17), .int .i64 n18, .bool f19, .int .i64 n20, .int .i64 n21, .int .i64 n22]) := Lib.hid (Blk.new w _ _)
  have HL := Lib.hid (h.alloc (.cells #[.int .i64 n0, .int .i64 n1, .int .i64 n2, .int .i64 n3, .string (text b4), .string (text b5), .string (text b6), .string (text b7), .string (text b8), .slice A9 r9.length k9, .string (text b10), .int .i64 n11, .slice A12 r12.length k12, .int .i64 n13, .int .i64 n14, .string (text b15), .string (text b16), .string (text b17), .int .i64 n18, .bool f19, .int .i64 n20, .int .i64 n21, .int .i64 n22] 51))
  have HK : Hid (Lays base (w.alloc (.cells #[.int .i64 n0, .int .i64 n1, .int .i64 n2, .int .i64 n3, .string (text b4), .string (text b5), .string (text b6), .string (text b7), .string (text b8), .slice A9 r9.length k9, .string (text b10), .int .i64 n11, .slice A12 r12.length k12, .int .i64 n13, .int .i64 n14, .string (text b15), .string (text b16), .string (text b17), .int .i64 n18, .bool f19, .int .i64 n20, .int .i64 n21, .int .i64 n22] 51)) (w.alloc (.cells #[.int .i64 n0, .int .i64 n1, .int .i64 n2, .int .i64 n3, .string (text b4), .string (text b5), .string (text b6), .string (text b7), .string (text b8), .slice A9 r9.length k9, .string (text b10), .int .i64 n11, .slice A12 r12.length k12, .int .i64 n13, .int .i64 n14, .string (text b15), .string (text b16), .string (text b17), .int .i64 n18, .bool f19, .int .i64 n20, .int .i64 n21, .int .i64 n22] 51))) := Lib.hid (Lays.refl _ _)
  clear h
  go_enter Try.func40, Try.ntmps40
  go_wp2_with fail
  refine (L_num base g n0 _ _ HL.out q1.out).mono ?_
  rintro e w1 ⟨rfl, hL, hK⟩
  replace HL := Lib.hid hL
  replace HK := Lib.hid (HK.out.trans hK)
  have HB1 := Lib.hid (HX.out.keeps HK.out.keeps (by decide))
  have hc1_0 : w1.cell? ⟨w.heap.size, 1, none⟩ = some (.int .i64 n1) := HB1.out.cell 1
  clear hL hK
  go_wp2_with fail
  refine (L_num base g n1 _ _ HL.out q2.out).mono ?_
  rintro e w2 ⟨rfl, hL, hK⟩
  replace HL := Lib.hid hL
  replace HK := Lib.hid (HK.out.trans hK)
  have HB2 := Lib.hid (HX.out.keeps HK.out.keeps (by decide))
  have hc2_0 : w2.cell? ⟨w.heap.size, 2, none⟩ = some (.int .i64 n2) := HB2.out.cell 2
  clear hL hK
  go_wp2_with fail
  refine (L_num base g n2 _ _ HL.out q3.out).mono ?_
  rintro e w3 ⟨rfl, hL, hK⟩
  replace HL := Lib.hid hL
  replace HK := Lib.hid (HK.out.trans hK)
  have HB3 := Lib.hid (HX.out.keeps HK.out.keeps (by decide))
  have hc3_0 : w3.cell? ⟨w.heap.size, 3, none⟩ = some (.int .i64 n3) := HB3.out.cell 3
  clear hL hK
  go_wp2_with (with_reducible refine wpList_load_mid rfl 49 _ rfl w.heap.size 3 rfl [.int .i64 n3, .string (text b4), .string (text b5), .string (text b6), .string (text b7), .string (text b8), .slice A9 r9.length k9, .string (text b10), .int .i64 n11, .slice A12 r12.length k12, .int .i64 n13, .int .i64 n14, .string (text b15), .string (text b16), .string (text b17), .int .i64 n18, .bool f19] _ (HB3.out.range 3 [.int .i64 n3, .string (text b4), .string (text b5), .string (text b6), .string (text b7), .string (text b8), .slice A9 r9.length k9, .string (text b10), .int .i64 n11, .slice A12 r12.length k12, .int .i64 n13, .int .i64 n14, .string (text b15), .string (text b16), .string (text b17), .int .i64 n18, .bool f19] rfl) Try.underlying49 rfl (by kernel_rfl) ?_)
  refine (L_Command base g _ _ _ _ HL.out (Cels.mk (Cel.mk_num n3) (Cels.mk (Cel.mk_text b4) (Cels.mk (Cel.mk_text b5) (Cels.mk (Cel.mk_text b6) (Cels.mk (Cel.mk_text b7) (Cels.mk (Cel.mk_text b8) (Cels.mk (Cel.mk_rows k9 (R9.out.below (HA.out.trans HK.out).below)) (Cels.mk (Cel.mk_text b10) (Cels.mk (Cel.mk_num n11) (Cels.mk (Cel.mk_rows k12 (R12.out.below (HA.out.trans HK.out).below)) (Cels.mk (Cel.mk_whole HW13.out) (Cels.mk (Cel.mk_whole HW14.out) (Cels.mk (Cel.mk_text b15) (Cels.mk (Cel.mk_text b16) (Cels.mk (Cel.mk_text b17) (Cels.mk (Cel.mk_num n18) (Cels.mk (Cel.mk_flag f19) Cels.mk0))))))))))))))))) (by simp only [shCommand, lays]; exact q20.out)).mono ?_
  rintro e w4 ⟨rfl, hL, hK⟩
  simp only [shCommand, lays] at hL
  replace HL := Lib.hid hL
  replace HK := Lib.hid (HK.out.trans hK)
  have HB4 := Lib.hid (HX.out.keeps HK.out.keeps (by decide))
  have hc4_0 : w4.cell? ⟨w.heap.size, 20, none⟩ = some (.int .i64 n20) := HB4.out.cell 20
  clear hL hK
  go_wp2_with fail
  refine (L_num base g n20 _ _ HL.out q21.out).mono ?_
  rintro e w5 ⟨rfl, hL, hK⟩
  replace HL := Lib.hid hL
  replace HK := Lib.hid (HK.out.trans hK)
  have HB5 := Lib.hid (HX.out.keeps HK.out.keeps (by decide))
  have hc5_0 : w5.cell? ⟨w.heap.size, 21, none⟩ = some (.int .i64 n21) := HB5.out.cell 21
  clear hL hK
  go_wp2_with fail
  refine (L_num base g n21 _ _ HL.out q22.out).mono ?_
  rintro e w6 ⟨rfl, hL, hK⟩
  replace HL := Lib.hid hL
  replace HK := Lib.hid (HK.out.trans hK)
  have HB6 := Lib.hid (HX.out.keeps HK.out.keeps (by decide))
  have hc6_0 : w6.cell? ⟨w.heap.size, 22, none⟩ = some (.int .i64 n22) := HB6.out.cell 22
  clear hL hK
  go_wp2_with fail
  refine (L_num base g n22 _ _ HL.out q23.out).mono ?_
  rintro e w7 ⟨rfl, hL, hK⟩
  replace HL := Lib.hid hL
  replace HK := Lib.hid (HK.out.trans hK)
  clear hL hK
  go_wp2
  go_end0
  exact ⟨rfl, HL.out, HA.out.trans HK.out⟩

end Go.Proofs.Yteohhgkehkmgcaa
