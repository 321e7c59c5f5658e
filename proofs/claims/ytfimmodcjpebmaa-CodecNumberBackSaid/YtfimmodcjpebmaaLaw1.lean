/- The walks of the statements of layer 1: the examples. -/
import Derived.Test.YtfimmodcjpebmaaKeep
import Derived.Deep.RegionHeld3
import Derived.Deep.RegionWith
namespace Go.Proofs.Ytfimmodcjpebmaa
open Go.RowKit Le

theorem lays_eq : low (u64 (-2)) 8 = [254, 255, 255, 255, 255, 255, 255, 255] := by decide
theorem own_text {w : World} {g n : Nat} {t : TypeId} {l : List UInt8} (h : Blk w g t (u8s l)) (hn : l.length = n) : Reads w w.heap.size (some ⟨g, 0, none⟩) n (u8s l) := by
  have := Reads.of_blk h
  rwa [u8s_length, hn] at this

set_option maxHeartbeats 400000 in
theorem lays_any (w : World) : Calls Try.prog 14 #[] w fun e w' => e = .returned (.bool true) ∧ Below w.heap.size w w' := by
  go_enter Try.func14, Try.ntmps14
  go_wp2_with fail
  refine (putInt_any none 0 0 [] (-2) w Reads.none_ (by omega)).mono ?_
  rintro e w' ⟨rfl, hB, hw⟩
  rw [List.nil_append, lays_eq] at hB
  have k := run_text (P := Try.prog) (c := 8) Try.underlying22 Try.underlying5 Try.underlying9 (own_text (n := 8) hB rfl)
  clear hB
  go_wp2
  go_ret
  exact ⟨by simp, hw⟩

/-- The conversion of a slice that reads as bytes, in every world where it does. -/
theorem conv_any (B : Nat) (A : Option Addr) (n c : Nat) (l : List UInt8) : ∀ W : World, Reads W B A n (u8s l) → (convert 22 9 (.slice A n c)).run Try.prog W = .ok (.string (text l)) W :=
  fun _ h => run_text Try.underlying22 Try.underlying5 Try.underlying9 h

set_option maxHeartbeats 1600000 in
theorem codecInts_small (A : Option Addr) (n c : Nat) (l : List UInt8) (N : Int) (w : World) (hb : Reads w w.heap.size A n (u8s l)) (hn : n ≤ 262144) :
    Calls Try.prog 3 #[.slice A n c, .int .i64 N] w fun e w' => e = .returned (.bool true) ∧ Below w.heap.size w w' := by
  go_enter Try.func3, Try.ntmps3
  go_wp2_with fail
  refine (lend_any A n c l w hb (by omega)).mono ?_
  rintro e w1 ⟨rfl, hX, hw1⟩
  have HX := Lib.hid hX
  have z1 := hX.lt
  have r1 : Reads w1 w1.heap.size (some ⟨w.heap.size, 0, none⟩) n (u8s l) := by
    have h := hX.reads (n := n) (by have := hb.len; simp at this; simp; omega)
    rwa [u8s_append, List.take_left' (by have := hb.len; simpa using this)] at h
  clear hX
  go_wp2_with fail
  refine (putInt_any _ n (n + 2) l N w1 r1 (by omega)).mono ?_
  rintro e w2 ⟨rfl, hO, hw2⟩
  have z2 := hO.lt
  have hl : l.length = n := by have := hb.len; simpa using this
  have ro : Reads w2 w2.heap.size (some ⟨w1.heap.size, 0, none⟩) (n + 8) (u8s (l ++ low (u64 N) 8)) := own_text hO (by simp [hl])
  have HX2 := Lib.hid (HX.out.below hw2 z1)
  have hb2 : Reads w2 w.heap.size A n (u8s l) := (hb.below hw1).below (hw2.mono (by omega))
  have HO := Lib.hid hO
  have HB2 : Below w.heap.size w w2 := hw1.trans (hw2.mono (by omega))
  have HL := Lib.hid hl
  clear hO r1 hl HX hb hw1 hw2
  go_wp2_with fail
  have CB := Lib.hid (show Calls Try.prog 13 #[.slice (some ⟨w.heap.size, 0, none⟩) n (n + 2), .slice A n c] w2.drew fun e w3 => e = .returned (.bool true) ∧ Hid (Below w.heap.size w w3) ∧ Hid (Reads w3 w.heap.size A n (u8s l)) ∧ Hid (Blk w3 w1.heap.size 5 (u8s (l ++ low (u64 N) 8))) from by
    refine (back_any A n c w.heap.size w.heap.size l w2.drew hb2.drew (Nat.le_refl _) HX2.out.drew (by omega)).mono ?_
    rintro e w3 ⟨he, hg3⟩
    have hs : w.heap.size ≤ w2.drew.heap.size := HB2.size
    refine ⟨he, HB2.drew.grown hg3 hs ?_, hb2.drew.grown hg3 hs ?_, HO.out.drew.grown hg3 ?_⟩
    · intro k hk; injection hk with hk; omega
    · intro k hk; injection hk with hk; omega
    · intro hk; injection hk with hk; omega)
  have HA := Lib.hid HB2
  have hsum : (text l).size + (text (low (u64 N) 8)).size ≤ 9223372036854775807 := by rw [text_size, text_size, HL.out, low_length]; omega
  clear hb2 ro HO HX2 HB2
  go_region_with (first
    | (go_at_call 13
       refine (unhide CB).mono ?_
       rintro e w3 ⟨rfl, q1, q2, q3⟩)
    | (go_at_call 14
       refine (lays_any w3).mono ?_
       rintro e w4 ⟨rfl, hw4⟩
       have q4 := Lib.hid (hw4.mono q1.out.size)
       have q5 := Lib.hid (q3.out.below hw4 q3.out.lt)
       have q6 := Lib.hid (q1.out.trans q4.out)
       have q7 := Lib.hid (q2.out.below q4.out)
       have e4 := conv_any w.heap.size A n c l w4 q7.out
       have e5 := conv_any _ (some ⟨w1.heap.size, 0, none⟩) (n + 8) (n + 8) (l ++ low (u64 N) 8) w4 (own_text q5.out (by simp [HL.out]))
       clear hw4 q1 q2 q3 q4)
    | (go_at_call 15
       refine (refInt_any N w4).mono ?_
       rintro e w5 ⟨A5, c5, rfl, hM⟩
       have e4' := conv_any w.heap.size A n c l w5 (q7.out.below (hM.below.mono q6.out.size))
       have e5' := conv_any _ (some ⟨w1.heap.size, 0, none⟩) (n + 8) (n + 8) (l ++ low (u64 N) 8) w5 (own_text (q5.out.below hM.below q5.out.lt) (by simp [HL.out]))
       have e6 := conv_any _ A5 8 c5 _ w5 hM.reads
       have q8 := Lib.hid (q6.out.trans (hM.below.mono q6.out.size))
       clear hM))
  all_goals
    go_wp2
    go_ret
    exact ⟨by (simp [text_append]) <;> rfl, q8.out⟩

set_option maxHeartbeats 400000 in
theorem codecInts_big (A : Option Addr) (n c : Nat) (N : Int) (w : World) (hn : 262144 < n) :
    Calls Try.prog 3 #[.slice A n c, .int .i64 N] w fun e w' => e = .returned (.bool true) ∧ Below w.heap.size w w' := by
  go_enter Try.func3, Try.ntmps3
  go_wp2
  go_ret
  exact ⟨rfl, Below.refl _ _⟩
end Go.Proofs.Ytfimmodcjpebmaa
