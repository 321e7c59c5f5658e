/- The walks of the examples that the statements of layer 1 ask first. -/
import Derived.Test.YtfimmodcjpebmaaCut
namespace Go.Proofs.Ytfimmodcjpebmaa
open Go.RowKit Le

theorem ex_text {w : World} {g n : Nat} {t : TypeId} {l : List UInt8} (h : Blk w g t (u8s l)) (hn : l.length = n) : Reads w w.heap.size (some ⟨g, 0, none⟩) n (u8s l) := by
  have := Reads.of_blk h
  rwa [u8s_length, hn] at this
theorem puts_eq : low 258 4 = [2, 1, 0, 0] := by decide
theorem writes_eq : [7] ++ low 2 4 ++ [97, 98] = [7, 2, 0, 0, 0, 97, 98] := by decide

set_option maxHeartbeats 400000 in
theorem puts_any (w : World) : Calls Try.prog 18 #[] w fun e w' => e = .returned (.bool true) ∧ Below w.heap.size w w' := by
  go_enter Try.func18, Try.ntmps18
  go_wp2_with fail
  refine (putNumber_ok none 0 0 [] 258 w Reads.none_ (by omega) (by omega) (by omega)).mono ?_
  rintro e w1 ⟨rfl, hB, hw⟩
  rw [List.nil_append, show (258 : Int).toNat = 258 from rfl, puts_eq] at hB
  have hz := hB.lt
  have k := run_text (P := Try.prog) (c := 4) Try.underlying22 Try.underlying5 Try.underlying9 (ex_text (n := 4) (hB.alloc (.cells #[.int .u8 255] 5)) rfl)
  clear hB
  go_wp2_with fail
  refine (putNumber_no _ _ _ 1000000001 _ (by omega)).mono ?_
  rintro e w' ⟨rfl, rfl⟩
  go_wp2
  go_ret
  exact ⟨rfl, hw.alloc (by omega) _⟩

set_option maxHeartbeats 400000 in
theorem writes_any (w : World) : Calls Try.prog 21 #[] w fun e w' => e = .returned (.bool true) ∧ Below w.heap.size w w' := by
  go_enter Try.func21, Try.ntmps21
  go_wp2_with fail
  refine (putText_ok _ _ _ [7] ⟨#[97, 98]⟩ _ ((Reads.new1 w (.int .u8 7) 5).more (by simp)) (by omega) (by decide)).mono ?_
  rintro e w1 ⟨A, c, rfl, hM⟩
  have hr : Reads w1 w1.heap.size A 7 (u8s [7, 2, 0, 0, 0, 97, 98]) := writes_eq ▸ hM.reads
  have k := run_text (P := Try.prog) (c := c) Try.underlying22 Try.underlying5 Try.underlying9 hr
  clear hr
  have hw := hM.below
  clear hM
  go_wp2
  go_ret
  exact ⟨rfl, ((Below.refl w.heap.size w).alloc (Nat.le_refl _) _).trans (hw.mono (by simp))⟩

theorem reads_n1 : num (List.take 4 [2, 1, 0, 0, 1, 0, 0, 0, 97]) = 258 := by decide
theorem reads_n2 : num (List.take 4 [1, 0, 0, 0, 97]) = 1 := by decide

set_option maxHeartbeats 800000 in
theorem reads_any (w : World) : Calls Try.prog 31 #[] w fun e w' => e = .returned (.bool true) ∧ Below w.heap.size w w' := by
  have C1 : ∀ (r : Nat) (w : World), Rd w r [2, 1, 0, 0, 1, 0, 0, 0, 97] → Calls Try.prog 26 #[.pointer (some ⟨r, 0, none⟩)] w fun e w' =>
      e = .returned (.tuple #[.int .i64 258, .int .i64 0]) ∧ Rd w' r [1, 0, 0, 0, 97] ∧ w.grownBy w' (some r) := fun r w h =>
    (number_ok r _ w h (by decide) (by decide)).mono fun e w' ⟨he, h2, h3⟩ => ⟨by rw [he, reads_n1]; rfl, h2, h3⟩
  have C2 : ∀ (r : Nat) (w : World), Rd w r [1, 0, 0, 0, 97] → Calls Try.prog 29 #[.pointer (some ⟨r, 0, none⟩)] w fun e w' =>
      e = .returned (.tuple #[.string (text [97]), .int .i64 0]) ∧ Rd w' r [] ∧ w.grownBy w' (some r) := fun r w h =>
    (text_ok r _ w h (by decide) (by decide) (by decide)).mono fun e w' ⟨he, h2, h3⟩ => ⟨by rw [he, reads_n2]; rfl, by rw [reads_n2] at h2; exact h2, h3⟩
  have H1 := Lib.hid C1
  have H2 := Lib.hid C2
  clear C1 C2
  go_enter Try.func31, Try.ntmps31
  go_wp2_with fail
  refine (new_any _ 9 _ [2, 1, 0, 0, 1, 0, 0, 0, 97] _ (ex_text (Blk.new w 5 (u8s [2, 1, 0, 0, 1, 0, 0, 0, 97])) rfl) (by omega)).mono ?_
  rintro e w1 ⟨r, rfl, hr, hR, hw⟩
  have hr2 : w.heap.size ≤ r := by simp at hr; omega
  have HW := Lib.hid (((Below.refl w.heap.size w).alloc (Nat.le_refl _) (.cells (u8s [2, 1, 0, 0, 1, 0, 0, 0, 97]).toArray 5)).trans (hw.mono (by simp)))
  have HR := Lib.hid hR
  have hs := HW.out.size
  clear hw hR hr
  go_wp2_with fail
  refine (unhide H1 _ _ HR.out).mono ?_
  rintro e w2 ⟨rfl, hR2, hg2⟩
  have HR2 := Lib.hid hR2
  have HW2 := Lib.hid (HW.out.grown hg2 hs (by intro k hk; injection hk with hk; omega))
  have hs2 := HW2.out.size
  clear hR2 hg2 HR HW
  go_wp2_with fail
  refine (unhide H2 _ _ HR2.out).mono ?_
  rintro e w3 ⟨rfl, hR3, hg3⟩
  have HR3 := Lib.hid hR3
  have HW3 := Lib.hid (HW2.out.grown hg3 hs2 (by intro k hk; injection hk with hk; omega))
  clear hR3 hg3 HR2 HW2
  go_wp2_with fail
  refine (number_end _ _ _ HR3.out (by decide)).mono ?_
  rintro e w4 ⟨rfl, rfl⟩
  go_wp2
  go_ret
  exact ⟨by simp, HW3.out⟩
end Go.Proofs.Ytfimmodcjpebmaa
