/- The walks of package codec: what each function does, by contracts. No condition but those that each theorem names. -/
import Derived.Test.YtkdmfjpfanmgmaaWords
import Derived.Test.YtkdmfjpfanmgmaaRows
import Derived.Deep.QuietTactic
import Derived.BigQuiet
namespace Go.Proofs.Ytkdmfjpfanmgmaa
open Go.RowKit Le

theorem info_u8 : (Try.prog.info? 5).map (fun i => (i.zero, i.size, i.bytes)) = some (some (.int .u8 0), 1, 1) := by kernel_rfl

set_option maxHeartbeats 400000 in
theorem laid_any (A : Option Addr) (n c : Nat) (l : List UInt8) (V k : Nat) (w : World) (hb : Reads w w.heap.size A n (u8s l)) (hn : n ≤ 1099511627776) (hk : k ≤ 8) :
    Calls Try.prog 70 #[.slice A n c, .int .u64 V, .int .i64 k] w fun e w' =>
      e = .returned (.slice (some ⟨w.heap.size, 0, none⟩) (n + k) (n + k)) ∧ Blk w' w.heap.size 5 (u8s (l ++ low V k)) ∧ Below w.heap.size w w' := by
  obtain ⟨i0, hi0, hz0, hz1, hz2⟩ := info_parts info_u8
  have HL : Hid (l.length = n) := by have := hb.len; rw [u8s_length] at this; exact Lib.hid this
  go_enter Try.func70, Try.ntmps70
  go_wp2_with (first
    | (at_make
       refine wpList_make_blk _ rfl _ _ _ rfl 5 i0 (.int .u8 0) Try.underlying59 hi0 hz0 hz1 rfl _ _ _ _ (n + k) rfl rfl (by omega) (by omega) (by rw [hz2]; omega) (by unfold maxLen; omega) ?_
       intro w1 HG1 hb1 hs1
       have hb' := hb.below hb1)
    | (with_reducible refine wpList_copy_front rfl (.tmp 14) (.tmp 15) 59 59 rfl 5 Try.underlying59 (by kernel_rfl) _ _ _ _ _ _ rfl rfl 5 _ HG1.out w.heap.size (u8s l) hb' (u8s_one l) (by omega) (by simp) w.heap.size w hb1 (Nat.le_refl _) ?_
       intro w2 HG2 hb2 hs2 _))
  have HG3 : Hid (Blk w2 w.heap.size 5 (u8s (l ++ low V 0) ++ List.replicate (k - 0) (.int .u8 0))) := by
    have h := HG2.out
    have e : u8s l ++ List.drop n (List.replicate (n + k) (Value.int .u8 0)) = u8s (l ++ low V 0) ++ List.replicate (k - 0) (.int .u8 0) := by simp [low]
    exact Lib.hid (e ▸ h)
  clear HG2 HG1 hb1 hb' hs1
  go_loopw [18] (fun i wr => ∃ j : Nat, j ≤ k ∧ i = .int .i64 j ∧ Hid (Blk wr w.heap.size 5 (u8s (l ++ low V j) ++ List.replicate (k - j) (.int .u8 0))) ∧ Below w.heap.size w wr) (fun i _ => k - (intOf i).toNat)
  case atStart => exact ⟨0, Nat.zero_le _, rfl, HG3, hb2⟩
  case round =>
    obtain ⟨j, hj, rfl, HG, hbr⟩ := hrel
    clear HG3 hb2
    by_cases hlt : j < k
    · have hc : wr.cell? ⟨w.heap.size, n + j, none⟩ = some (.int .u8 0) := by
        rw [HG.out.cell]
        exact fill_at l V k j n HL.out hlt
      have hf : wr.frozen? ⟨w.heap.size, n + j, none⟩ = false := HG.out.frozen _
      go_wp2
      go_roundw
      case rel => exact ⟨j + 1, by omega, by go_num, Lib.hid (fill_step l V k j n HL.out hlt ▸ HG.out.set_ _ _), hbr.setCell (Nat.le_refl _) _⟩
      case measure => simp [intOf]; omega
    · go_wp2
      go_ret
      obtain rfl : j = k := by omega
      exact ⟨rfl, by simpa using HG.out, hbr⟩
end Go.Proofs.Ytkdmfjpfanmgmaa
