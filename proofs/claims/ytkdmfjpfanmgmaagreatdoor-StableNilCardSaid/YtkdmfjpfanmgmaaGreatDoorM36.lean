/- Joined by mkmerge.py from the proof's texts Itoa. Conditions: each theorem's own hypotheses. -/
import Derived.Test.YtkdmfjpfanmgmaaGreatDoorM35
import Derived.Lib.ConvBytes
namespace Go.Proofs.YtkdmfjpfanmgmaaGreatDoor
open Go.RowKit Le Go.Maps
set_option maxRecDepth 100000
set_option linter.unusedSimpArgs false
set_option linter.unusedVariables false
/-- A digit's text. -/
def digS (n : Nat) : List UInt8 := [UInt8.ofNat (48 + n)]
set_option maxHeartbeats 800000 in
theorem small_any (n : Nat) (hn : n ≤ 9) (w : World) : Calls Tryz.prog 127 #[.int .i64 n] w fun e w' => e = .returned (.string (text (digS n))) ∧ w = w' := by
  have h1 : decide ((n : Int) < 10) = true := by rw [decide_eq_true_iff]; omega
  have h2 : (0 : Int) ≤ (n : Int) := by omega
  have h3 : (n : Int) ≤ 9 := by omega
  go_enter Tryz.func127, Tryz.ntmps127
  go_wp2
  go_ret
  refine ⟨?_, rfl⟩
  clear h1 h2 h3
  have : n = 0 ∨ n = 1 ∨ n = 2 ∨ n = 3 ∨ n = 4 ∨ n = 5 ∨ n = 6 ∨ n = 7 ∨ n = 8 ∨ n = 9 := by omega
  rcases this with rfl | rfl | rfl | rfl | rfl | rfl | rfl | rfl | rfl | rfl <;> rfl
set_option maxHeartbeats 800000 in
theorem formatInt_any (n : Nat) (hn : n ≤ 9) (w : World) : Calls Tryz.prog 112 #[.int .i64 n, .int .i64 10] w fun e w' => e = .returned (.string (text (digS n))) ∧ w = w' := by
  have h1 : decide ((n : Int) < 100) = true := by rw [decide_eq_true_iff]; omega
  have h2 : (0 : Int) ≤ (n : Int) := by omega
  have h3 : (n : Int) ≤ 9 := by omega
  go_enter Tryz.func112, Tryz.ntmps112
  go_wp2_with fail
  refine (small_any n hn _).mono ?_
  rintro e w1 ⟨rfl, rfl⟩
  go_wp2_with fail
  go_ret
  exact ⟨rfl, rfl⟩
set_option maxHeartbeats 800000 in
theorem itoaIn_any (n : Nat) (hn : n ≤ 9) (w : World) : Calls Tryz.prog 70 #[.int .i64 n] w fun e w' => e = .returned (.string (text (digS n))) ∧ w = w' := by
  go_enter Tryz.func70, Tryz.ntmps70
  go_wp2_with fail
  refine (formatInt_any n hn _).mono ?_
  rintro e w1 ⟨rfl, rfl⟩
  go_wp2_with fail
  go_ret
  exact ⟨rfl, rfl⟩
set_option maxHeartbeats 800000 in
theorem itoa_any (n : Nat) (hn : n ≤ 9) (w : World) : Calls Tryz.prog 34 #[.int .i64 n] w fun e w' => e = .returned (.string (text (digS n))) ∧ w = w' := by
  go_enter Tryz.func34, Tryz.ntmps34
  go_wp2_with fail
  refine (itoaIn_any n hn _).mono ?_
  rintro e w1 ⟨rfl, rfl⟩
  go_wp2_with fail
  go_ret
  exact ⟨rfl, rfl⟩
/-- A string's bytes, converted. -/
theorem bytes_of (s : ByteArray) (w : World) : ∃ C W, (convert 9 72 (.string s)).run Tryz.prog w = .ok (.slice (some ⟨w.heap.size, 0, none⟩) s.size C) W ∧ Below w.heap.size w W ∧ W.heap.size = w.heap.size + 1 ∧ (s.size ≤ C ∧ (s.size ≤ maxLen → C ≤ maxLen)) ∧ ∀ j, j < s.size → W.cell? ⟨w.heap.size, j, none⟩ = some (.int .u8 (s.data.toList.getD j 0).toNat) :=
  ⟨_, _, Lib.run_convert_string_bytes w 9 72 5 s Tryz.underlying9 Tryz.underlying72 Tryz.underlying5, ((Below.refl _ _).grown (row := none) ⟨rfl, rfl, rfl, by rw [Lib.bytesWorld_size]; omega, fun k hk _ => Lib.bytesWorld_at_old _ _ _ k hk⟩ (Nat.le_refl _) (by simp)), Lib.bytesWorld_size _ _ _, ⟨grownCap_ge _ _ _ _, grownCap_le_maxLen _ _ _ _⟩, fun j hj => Lib.bytesWorld_cell w 5 s j hj⟩
set_option maxHeartbeats 800000 in
theorem atoiIn_1 (w : World) : Calls Tryz.prog 66 #[.string ⟨#[49]⟩] w fun e w' => e = .returned (.tuple #[.int .i64 1, .nilIface]) ∧ Below w.heap.size w w' := by
  obtain ⟨C, W, kc, hb, hsz, _, hc⟩ := bytes_of ⟨#[49]⟩ w
  have kc : (convert 9 72 (.string ⟨#[49]⟩)).run Tryz.prog w = .ok (.slice (some ⟨w.heap.size, 0, none⟩) 1 C) W := kc
  have hc0 : W.cell? ⟨w.heap.size, 0, none⟩ = some (.int .u8 49) := hc 0 (by decide)
  have h0 : ∀ h : 0 < (⟨#[49]⟩ : ByteArray).size, (⟨#[49]⟩ : ByteArray)[0]'h = 49 := fun _ => rfl
  have HB := Lib.hid hb
  clear hc hb hsz
  go_enter Tryz.func66, Tryz.ntmps66
  go_wp2_with fail
  go_loop [49, 6] (fun i n => ∃ k : Nat, k ≤ 1 ∧ i = .int .i64 k ∧ n = .int .i64 k) (fun i _ => 1 - (intOf i).toNat)
  case atStart => exact ⟨0, by omega, rfl, rfl⟩
  case round =>
    obtain ⟨k, hk, rfl, rfl⟩ := hrel
    have hk2 : k = 0 ∨ k = 1 := by omega
    rcases hk2 with rfl | rfl
    · go_wp2_with fail
      go_round
      case rel => exact ⟨1, by omega, by go_num, by go_num⟩
      case measure => simp [intOf]
    · go_wp2_with fail
      go_ret2
      exact ⟨rfl, HB.out⟩
set_option maxHeartbeats 800000 in
theorem atoi_1 (w : World) : Calls Tryz.prog 32 #[.string ⟨#[49]⟩] w fun e w' => e = .returned (.tuple #[.int .i64 1, .nilIface]) ∧ Below w.heap.size w w' := by
  go_enter Tryz.func32, Tryz.ntmps32
  go_wp2_with fail
  refine (atoiIn_1 _).mono ?_
  rintro e w1 ⟨rfl, hb⟩
  go_wp2_with fail
  go_ret2
  exact ⟨rfl, hb⟩
end Go.Proofs.YtkdmfjpfanmgmaaGreatDoor
