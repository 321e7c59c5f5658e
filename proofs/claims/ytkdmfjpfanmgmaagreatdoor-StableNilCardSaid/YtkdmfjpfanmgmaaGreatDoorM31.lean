/- Joined by mkmerge.py from the proof's texts Seal4, Seal5. Conditions: each theorem's own hypotheses. -/
import Derived.Test.YtkdmfjpfanmgmaaGreatDoorM15
import Derived.Laws.OwnMore
namespace Go.Proofs.YtkdmfjpfanmgmaaGreatDoor
open Go.RowKit Le
set_option maxRecDepth 100000
theorem first_any (A : Option Addr) (n c : Nat) (l : List UInt8) (w : World) (hT : Tab w) (hb : Reads w w.heap.size A n (u8s l)) (hnc : n ≤ c) (hm40 : n ≤ 1099511627776) :
    Calls Tryz.prog 120 #[.slice A n c] w fun e w' => ∃ A' c', e = .returned (.tuple #[.slice A' (firstOf l).1.length c', .int .i64 (firstOf l).2.1, .int .i64 (firstOf l).2.2]) ∧ Made w w' 5 A' (firstOf l).1.length c' (firstOf l).1 := by
  have hl := sreads_len hb
  unfold firstOf
  by_cases h8 : l.length < 8
  · rw [if_pos h8]
    exact (first_short_ A n c l w hb hnc hm40 (by omega)).mono fun e w' ⟨he, hw⟩ => ⟨none, 0, he, made_none hw⟩
  rw [if_neg h8]
  by_cases hf : 1048576 < num (l.take 4)
  · rw [if_pos hf]
    exact (first_form_ A n c l w hb hnc hm40 (by omega) hf).mono fun e w' ⟨he, hw⟩ => ⟨none, 0, he, made_none hw⟩
  rw [if_neg hf]
  by_cases hs : l.length < 8 + num (l.take 4)
  · rw [if_pos hs]
    exact (first_less_ A n c _ l w hb hnc hm40 (by omega) rfl (by omega) (by omega)).mono fun e w' ⟨he, hw⟩ => ⟨none, 0, he, made_none hw⟩
  rw [if_neg hs]
  obtain ⟨ad, rfl, _⟩ := hb.2 (by omega)
  have hbl : (bodyOf l).length = num (l.take 4) := by unfold bodyOf; rw [List.length_take, List.length_drop]; omega
  by_cases hq : headOf (bodyOf l) = l.take 8
  · rw [if_pos hq]
    have F : Calls Tryz.prog 120 #[.slice (some ad) n c] w fun e w' => ∃ A' c', e = .returned (.tuple #[.slice A' (cond true (num (l.take 4)) 0 : Nat) c', .int .i64 (cond true (8 + num (l.take 4)) 0 : Nat), .int .i64 (cond true 0 21 : Nat)]) ∧ Made w w' 5 A' (cond true (num (l.take 4)) 0) c' (cond true ((l.drop 8).take (num (l.take 4))) []) := by
      by_cases h8c : c = 8
      · exact first_at0 true ad n c _ l w hT hb hnc hm40 (by omega) rfl (by omega) (by omega) h8c (decide_eq_true hq)
      · exact first_at true ad n c _ l w hT hb hnc hm40 (by omega) rfl (by omega) (by omega) h8c (decide_eq_true hq)
    refine F.mono ?_
    rintro e w' ⟨A', c', he, hM⟩
    exact ⟨A', c', by rw [he, hbl]; rfl, by rw [hbl]; exact hM⟩
  · rw [if_neg hq]
    by_cases h8c : c = 8
    · exact (first_at0 false ad n c _ l w hT hb hnc hm40 (by omega) rfl (by omega) (by omega) h8c (decide_eq_false hq)).mono fun e w' h => h
    · exact (first_at false ad n c _ l w hT hb hnc hm40 (by omega) rfl (by omega) (by omega) h8c (decide_eq_false hq)).mono fun e w' h => h
end Go.Proofs.YtkdmfjpfanmgmaaGreatDoor
namespace Go.Proofs.YtkdmfjpfanmgmaaGreatDoor
open Go.RowKit Le
set_option maxRecDepth 100000
theorem frameOf_take4 (l L : List UInt8) : (frameOf l ++ L).take 4 = low l.length 4 := by
  unfold frameOf headOf
  rw [List.append_assoc, List.append_assoc, List.take_left' (by simp)]
theorem frameOf_take8 (l L : List UInt8) : (frameOf l ++ L).take 8 = headOf l := by
  unfold frameOf
  rw [List.append_assoc, List.take_left' (by simp)]
theorem frameOf_drop8 (l L : List UInt8) : (frameOf l ++ L).drop 8 = l ++ L := by
  unfold frameOf
  rw [List.append_assoc, List.drop_left' (by simp)]
theorem num_frame (l L : List UInt8) (h : l.length ≤ 1048576) : num ((frameOf l ++ L).take 4) = l.length := by
  rw [frameOf_take4, num_low, Nat.mod_eq_of_lt (by omega)]
theorem first_frame (l L : List UInt8) (h : l.length ≤ 1048576) : firstOf (frameOf l ++ L) = (l, 8 + l.length, 0) := by
  have hn := num_frame l L h
  have hb : bodyOf (frameOf l ++ L) = l := by
    unfold bodyOf
    rw [hn, frameOf_drop8, List.take_left' rfl]
  unfold firstOf
  rw [hn, hb, frameOf_take8, if_neg (by simp; omega), if_neg (by omega), if_neg (by simp), if_pos rfl]
/-! ### A byte of another value. -/
end Go.Proofs.YtkdmfjpfanmgmaaGreatDoor
