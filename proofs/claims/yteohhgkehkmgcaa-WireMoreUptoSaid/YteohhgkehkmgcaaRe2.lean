/- The walks of the program's reader: a flag. -/
import Derived.Test.YteohhgkehkmgcaaRe1
import Derived.BigQuiet
namespace Go.Proofs.Yteohhgkehkmgcaa
open Go.RowKit Le
set_option maxRecDepth 100000

theorem Rds.drewN (base : Nat) (w : World) (m : Nat) : Rds base w (w.drewN m) := ⟨by constructor <;> first | rfl | exact Nat.le_refl _ | (intros; rfl), ⟨Nat.le_refl _, fun _ _ _ _ => rfl⟩⟩
theorem Rd.drewN {w : World} {r : Nat} {l : List UInt8} (h : Rd w r l) (m : Nat) : Rd (w.drewN m) r l := h.keeps (ts := []) ⟨Nat.le_refl _, fun _ _ _ _ => rfl⟩ (by simp) (by simp)
set_option maxHeartbeats 1600000 in
theorem R_flag_end (base g : Nat) (w : World) (h : RdAt w base g []) :
    Calls Try.prog 97 #[.pointer (some ⟨g, 0, none⟩)] w fun e w' => FEnd .flag [] [] w' base g e ∧ Rds base w w' := by
  obtain ⟨r, A, n, c, lb, hB, hR, hn, hc, hr, hl, hd, hbr, hbg⟩ := h
  have hc0 : w.cell? ⟨g, 0, none⟩ = some (.pointer (some ⟨r, 0, none⟩)) := hB.cell 0
  have hc1 : w.cell? ⟨g, 1, none⟩ = some (.slice A n c) := hB.cell 1
  have C : ∀ m, Calls Try.prog 80 #[.pointer (some ⟨r, 0, none⟩)] (w.drewN m) fun e w' => e = .returned (.int .i64 0) ∧ w' = w.drewN m := fun m =>
    (left_any r [] (w.drewN m) (hr.drewN m)).mono fun e w' ⟨h1, h2⟩ => ⟨h1, h2.symm⟩
  have HC := Lib.hid C
  clear hB hR hd hr C
  go_enter Try.func97, Try.ntmps97
  go_wp2
  go_quiet ((go_at_call 80; exact Calls.quiet_of_same (HC.out _)))
  go_wp2_with fail
  refine (is_false _).mono ?_
  rintro e w' ⟨rfl, rfl⟩
  refine ⟨rfl, .inr ⟨by simp only [rd, rdFlag]; rfl, rfl⟩, ?_⟩
  exact Rds.drewN _ _ _

theorem reads_len {w : World} {B n : Nat} {A : Option Addr} {l : List UInt8} (h : Reads w B A n (u8s l)) : l.length = n := by
  have := h.len; rwa [u8s_length] at this
theorem nat_beq_one (n : Nat) : ((n : Int) == 1) = (n == 1) := by
  by_cases h : n = 1
  · subst h
    rfl
  · have h1 : ((n : Int) == 1) = false := by simp; omega
    have h2 : (n == 1) = false := by simpa using h
    rw [h1, h2]
/-- The byte at hand, in all bytes. -/
theorem at_suffix {lb l : List UInt8} {c0 : UInt8} (h1 : (c0 :: l).length ≤ lb.length) (h2 : lb.drop (lb.length - (c0 :: l).length) = c0 :: l) :
    ∃ i, lb.length = i + (l.length + 1) ∧ (u8s lb)[i]? = some (.int .u8 (c0.toNat : Int)) ∧ lb.drop (i + 1) = l := by
  refine ⟨lb.length - (l.length + 1), by simp at h1; omega, ?_, ?_⟩
  · have e : lb[lb.length - (l.length + 1)]? = some c0 := by
      have := congrArg (fun x => x[0]?) h2
      simpa using this
    simp [u8s, e]
  · have := congrArg (List.drop 1) h2
    rw [List.drop_drop] at this
    simpa using this

set_option maxHeartbeats 1600000 in
theorem R_flag_ok (base g : Nat) (c0 : UInt8) (l : List UInt8) (w : World) (h : RdAt w base g (c0 :: l)) (hv : c0.toNat ≤ 1) :
    Calls Try.prog 97 #[.pointer (some ⟨g, 0, none⟩)] w fun e w' => FEnd .flag (c0 :: l) [] w' base g e ∧ Rds base w w' := by
  have hlt0 := h.lt
  obtain ⟨r, A, n, c, lb, hB, hR, hn, hc, hr, hl, hd, hbr, hbg⟩ := h
  obtain ⟨i, hi, hcell, hdrop⟩ := at_suffix hl hd
  have hlen := reads_len hR
  obtain ⟨L, hL⟩ : ∃ L, (c0 :: l).length = L := ⟨_, rfl⟩
  have hnn : n = i + L := by rw [← hL]; simp only [List.length_cons]; omega
  have hLp : 1 ≤ L := by rw [← hL]; simp
  obtain ⟨ad, rfl, hab, hcells⟩ := hR.2 (by omega)
  have hc0 : w.cell? ⟨g, 0, none⟩ = some (.pointer (some ⟨r, 0, none⟩)) := hB.cell 0
  have hc1 : w.cell? ⟨g, 1, none⟩ = some (.slice (some ad) n c) := hB.cell 1
  have hc2 : w.cell? (ad.add i) = some (.int .u8 (c0.toNat : Int)) := hcells i _ hcell
  have C : ∀ m, Calls Try.prog 80 #[.pointer (some ⟨r, 0, none⟩)] (w.drewN m) fun e w' => e = .returned (.int .i64 L) ∧ w' = w.drewN m := fun m =>
    (left_any r _ (w.drewN m) (hr.drewN m)).mono fun e w' ⟨h1, h2⟩ => ⟨by rw [h1, hL], h2.symm⟩
  have HC := Lib.hid C
  have HB := Lib.hid hB
  have HR := Lib.hid hR
  have HR0 := Lib.hid hr
  have HD := Lib.hid hdrop
  have HLn := Lib.hid hi
  have HLL := Lib.hid hL
  have hlo := HR0.out.lt
  have hgo := HB.out.lt
  clear hB hR hd hr C hcells hdrop hi hcell hlen hL hl
  subst hnn
  go_enter Try.func97, Try.ntmps97
  go_wp2
  go_quiet ((go_at_call 80; exact Calls.quiet_of_same (HC.out _)))
  go_wp2_with fail
  have hdv : decide ((c0.toNat : Int) ≤ 1) = true := decide_eq_true (by omega)
  rw [hdv]
  refine (is_true _).mono ?_
  rintro e w' ⟨rfl, rfl⟩
  clear hdv
  go_wp2_with fail
  all_goals
    have hcut := (HR.out.cut (k := i + 1) (by omega) hn).more hlt0
    rw [show (u8s lb).drop (i + 1) = u8s l by rw [← HD.out]; simp [u8s]] at hcut
    first
      | rw [if_pos (by assumption)] at hcut
      | (rw [if_neg (by assumption)] at hcut
         rw [show (some ad).map (·.add (i + 1)) = some ⟨ad.block, ad.off + (i + 1), none⟩ by simp [Addr.add]] at hcut)
    refine (new_far _ _ _ l _ (hcut.drewN _) (by omega)).mono ?_
    rintro e w1 ⟨r', rfl, hr', hf, hb⟩
    have hb' : Below w.heap.size w w1 := (Rds.drewN w.heap.size w _).below.trans hb
    have hk1 : Rds base w w1 := ⟨hb'.mono hlt0, Keeps.of_below hb' (Nat.le_refl _)⟩
    have HB1 := Lib.hid (HB.out.below hb' hgo)
    have hd0 : w1.cell? ⟨g, 0, none⟩ = some (.pointer (some ⟨r, 0, none⟩)) := HB1.out.cell 0
    have hf0 : w1.frozen? ⟨g, 0, none⟩ = false := HB1.out.frozen 0
    have HB2 := Lib.hid (HB1.out.set_ 0 (.pointer (some ⟨r', 0, none⟩)))
    have hq1 : (w1.setCell ⟨g, 0, none⟩ (.pointer (some ⟨r', 0, none⟩))).cell? ⟨g, 1, none⟩ = some (.slice (some ad) (i + L) c) := HB2.out.cell 1
    have hbel : Below base w (w1.setCell ⟨g, 0, none⟩ (.pointer (some ⟨r', 0, none⟩))) := hk1.below.setCell hbg _
    have hq2 : (w1.setCell ⟨g, 0, none⟩ (.pointer (some ⟨r', 0, none⟩))).cell? (ad.add i) = some (.int .u8 (c0.toNat : Int)) := (hbel.cell (by rw [block_of_add]; exact hab)).trans hc2
    have HEND : Hid (RdAt (w1.setCell ⟨g, 0, none⟩ (.pointer (some ⟨r', 0, none⟩))) base g l ∧ Rds base w (w1.setCell ⟨g, 0, none⟩ (.pointer (some ⟨r', 0, none⟩)))) := by
      refine Lib.hid ⟨⟨r', some ad, i + L, c, lb, HB2.out, HR.out.below hbel, hn, hc, hf _ ?_, ?_, ?_, by have : (w.drewN _).heap.size ≤ r' := hr'; simp at this; omega, hbg⟩, hbel, hk1.keeps.trans (Keeps.set_ HB1.out.typ (by simp) _)⟩
      · intro k hk1 hk2
        exact Below.heap_setCell w1 _ _ k (by intro e; simp at e hk1; omega)
      · have := HLn.out; have := HLL.out; simp at this; omega
      · have := HLn.out
        conv => rhs; rw [← HD.out]
        congr 1
        omega
    clear hf hcut hb hb' hk1 hr' hbel
    go_wp2
    go_ret
    refine ⟨.inl ⟨.flag (c0.toNat == 1), l, _, ?_, rfl, ?_, HEND.out.1⟩, HEND.out.2⟩
    · simp only [rd, rdFlag]
      rw [if_pos hv]
      rfl
    · show Cel _ _ .flag _ (.bool ((c0.toNat : Int) == 1))
      rw [nat_beq_one]
      exact Cel.mk_flag _
set_option maxHeartbeats 1600000 in
theorem R_flag_bad (base g : Nat) (c0 : UInt8) (l : List UInt8) (w : World) (h : RdAt w base g (c0 :: l)) (hv : 1 < c0.toNat) :
    Calls Try.prog 97 #[.pointer (some ⟨g, 0, none⟩)] w fun e w' => FEnd .flag (c0 :: l) [] w' base g e ∧ Rds base w w' := by
  have hlt0 := h.lt
  obtain ⟨r, A, n, c, lb, hB, hR, hn, hc, hr, hl, hd, hbr, hbg⟩ := h
  obtain ⟨i, hi, hcell, hdrop⟩ := at_suffix hl hd
  have hlen := reads_len hR
  obtain ⟨L, hL⟩ : ∃ L, (c0 :: l).length = L := ⟨_, rfl⟩
  have hnn : n = i + L := by rw [← hL]; simp only [List.length_cons]; omega
  have hLp : 1 ≤ L := by rw [← hL]; simp
  obtain ⟨ad, rfl, hab, hcells⟩ := hR.2 (by omega)
  have hc0 : w.cell? ⟨g, 0, none⟩ = some (.pointer (some ⟨r, 0, none⟩)) := hB.cell 0
  have hc1 : w.cell? ⟨g, 1, none⟩ = some (.slice (some ad) n c) := hB.cell 1
  have hc2 : w.cell? (ad.add i) = some (.int .u8 (c0.toNat : Int)) := hcells i _ hcell
  have C : ∀ m, Calls Try.prog 80 #[.pointer (some ⟨r, 0, none⟩)] (w.drewN m) fun e w' => e = .returned (.int .i64 L) ∧ w' = w.drewN m := fun m =>
    (left_any r _ (w.drewN m) (hr.drewN m)).mono fun e w' ⟨h1, h2⟩ => ⟨by rw [h1, hL], h2.symm⟩
  have HC := Lib.hid C
  have HB := Lib.hid hB
  have HR := Lib.hid hR
  have HR0 := Lib.hid hr
  have HD := Lib.hid hdrop
  have HLn := Lib.hid hi
  have HLL := Lib.hid hL
  have hlo := HR0.out.lt
  have hgo := HB.out.lt
  clear hB hR hd hr C hcells hdrop hi hcell hlen hL hl
  subst hnn
  go_enter Try.func97, Try.ntmps97
  go_wp2
  go_quiet ((go_at_call 80; exact Calls.quiet_of_same (HC.out _)))
  go_wp2_with fail
  have hdv : decide ((c0.toNat : Int) ≤ 1) = false := decide_eq_false (by omega)
  rw [hdv]
  refine (is_false _).mono ?_
  rintro e w' ⟨rfl, rfl⟩
  refine ⟨rfl, .inr ⟨?_, rfl⟩, Rds.drewN _ _ _⟩
  simp only [rd, rdFlag]
  rw [if_neg (by omega)]
  rfl
theorem R_flag (base g : Nat) (l : List UInt8) (w : World) (h : RdAt w base g l) :
    Calls Try.prog 97 #[.pointer (some ⟨g, 0, none⟩)] w fun e w' => FEnd .flag l [] w' base g e ∧ Rds base w w' := by
  cases l with
  | nil => exact R_flag_end base g w h
  | cons c0 l =>
    by_cases hv : c0.toNat ≤ 1
    · exact R_flag_ok base g c0 l w h hv
    · exact R_flag_bad base g c0 l w h (by omega)
end Go.Proofs.Yteohhgkehkmgcaa
