/- Joined by mkmerge.py from the proof's texts Codec, Codec2, Keep. Conditions: each theorem's own hypotheses. -/
import Derived.Test.YtkdmfjpfanmgmaaGreatDoorM02
import Derived.Test.YtkdmfjpfanmgmaaGreatDoorRows
import Derived.Deep.QuietTactic
import Derived.BigQuiet
import Derived.Lib.AppendStr
namespace Go.Proofs.YtkdmfjpfanmgmaaGreatDoor
open Go.RowKit Le
set_option maxRecDepth 100000
theorem info_u8 : (Tryz.prog.info? 5).map (fun i => (i.zero, i.size, i.bytes)) = some (some (.int .u8 0), 1, 1) := by kernel_rfl
set_option maxHeartbeats 400000 in
theorem laid_any (A : Option Addr) (n c : Nat) (l : List UInt8) (V k : Nat) (w : World) (hb : Reads w w.heap.size A n (u8s l)) (hn : n ≤ 1099511627776) (hk : k ≤ 8) :
    Calls Tryz.prog 93 #[.slice A n c, .int .u64 V, .int .i64 k] w fun e w' =>
      e = .returned (.slice (some ⟨w.heap.size, 0, none⟩) (n + k) (n + k)) ∧ Blk w' w.heap.size 5 (u8s (l ++ low V k)) ∧ Below w.heap.size w w' := by
  obtain ⟨i0, hi0, hz0, hz1, hz2⟩ := info_parts info_u8
  have HL : Hid (l.length = n) := by have := hb.len; rw [u8s_length] at this; exact Lib.hid this
  go_enter Tryz.func93, Tryz.ntmps93
  go_wp2_with (first
    | (at_make
       refine wpList_make_blk _ rfl _ _ _ rfl 5 i0 (.int .u8 0) Tryz.underlying72 hi0 hz0 hz1 rfl _ _ _ _ (n + k) rfl rfl (by omega) (by omega) (by rw [hz2]; omega) (by unfold maxLen; omega) ?_
       intro w1 HG1 hb1 hs1
       have hb' := hb.below hb1)
    | (with_reducible refine wpList_copy_front rfl (.tmp 14) (.tmp 15) 72 72 rfl 5 Tryz.underlying72 (by kernel_rfl) _ _ _ _ _ _ rfl rfl 5 _ HG1.out w.heap.size (u8s l) hb' (u8s_one l) (by omega) (by simp) w.heap.size w hb1 (Nat.le_refl _) ?_
       intro w2 HG2 hb2 hs2 _))
  have HG3 : Hid (Blk w2 w.heap.size 5 (u8s (l ++ low V 0) ++ List.replicate (k - 0) (.int .u8 0))) := by
    have h := HG2.out
    have e : u8s l ++ List.drop n (List.replicate (n + k) (Value.int .u8 0)) = u8s (l ++ low V 0) ++ List.replicate (k - 0) (.int .u8 0) := by simp [low]
    exact Lib.hid (e ▸ h)
  clear HG2 HG1 hb1 hb' hs1
  go_loopw [18] (fun i wr => ∃ j : Nat, j ≤ k ∧ i = .int .i64 j ∧ Hid (Blk wr w.heap.size 5 (u8s (l ++ low V j) ++ List.replicate (k - j) (.int .u8 0))) ∧ Below w.heap.size w wr) (fun i _ => k - (intOf i).toNat)
  case atStart => exact ⟨0, Nat.zero_le _, rfl, HG3, hb2⟩
  case round =>
    obtain ⟨j, hj, rfl, HG, hbr⟩ := hrel
    clear HG3 hb2
    by_cases hlt : j < k
    · have hc : wr.cell? ⟨w.heap.size, n + j, none⟩ = some (.int .u8 0) := by
        rw [HG.out.cell]
        exact fill_at l V k j n HL.out hlt
      have hf : wr.frozen? ⟨w.heap.size, n + j, none⟩ = false := HG.out.frozen _
      go_wp2
      go_roundw
      case rel => exact ⟨j + 1, by omega, by go_num, Lib.hid (fill_step l V k j n HL.out hlt ▸ HG.out.set_ _ _), hbr.setCell (Nat.le_refl _) _⟩
      case measure => simp [intOf]; omega
    · go_wp2
      go_ret
      obtain rfl : j = k := by omega
      exact ⟨rfl, by simpa using HG.out, hbr⟩
end Go.Proofs.YtkdmfjpfanmgmaaGreatDoor
namespace Go.Proofs.YtkdmfjpfanmgmaaGreatDoor
open Go.RowKit Le
set_option maxRecDepth 100000
/-- A whole number's eight bytes as a number. -/
def u64 (N : Int) : Nat := (N % 18446744073709551616).toNat
set_option maxHeartbeats 400000 in
theorem putNumber_ok (A : Option Addr) (n c : Nat) (l : List UInt8) (N : Int) (w : World) (hb : Reads w w.heap.size A n (u8s l)) (hn : n ≤ 1099511627776) (h0 : 0 ≤ N) (h1 : N ≤ 1000000000) :
    Calls Tryz.prog 95 #[.slice A n c, .int .i64 N] w fun e w' =>
      e = .returned (.tuple #[.slice (some ⟨w.heap.size, 0, none⟩) (n + 4) (n + 4), .int .i64 0]) ∧ Blk w' w.heap.size 5 (u8s (l ++ low N.toNat 4)) ∧ Below w.heap.size w w' := by
  obtain ⟨V, rfl⟩ := Int.eq_ofNat_of_zero_le h0
  go_enter Tryz.func95, Tryz.ntmps95
  go_wp2_with fail
  refine (laid_any A n c l V 4 w hb hn (by omega)).mono ?_
  rintro e w' ⟨rfl, hB, hw⟩
  have HB := Lib.hid hB
  clear hB
  go_wp2
  go_ret2
  exact ⟨rfl, HB.out, hw⟩
set_option maxHeartbeats 400000 in
theorem putNumber_no (A : Option Addr) (n c : Nat) (N : Int) (w : World) (h : N < 0 ∨ 1000000000 < N) :
    Calls Tryz.prog 95 #[.slice A n c, .int .i64 N] w fun e w' => e = .returned (.tuple #[.slice none 0 0, .int .i64 1]) ∧ w = w' := by
  rcases h with h | h
  · go_enter Tryz.func95, Tryz.ntmps95
    go_wp2
    go_ret2
    exact ⟨rfl, rfl⟩
  · have h' : 0 ≤ N := by omega
    go_enter Tryz.func95, Tryz.ntmps95
    go_wp2
    go_ret2
    exact ⟨rfl, rfl⟩
theorem strCells_text (s : ByteArray) : Lib.strCells s = u8s s.data.toList := rfl
set_option maxHeartbeats 400000 in
theorem putText_ok (A : Option Addr) (n c : Nat) (l : List UInt8) (s : ByteArray) (w : World) (hb : Reads w w.heap.size A n (u8s l)) (hn : n ≤ 1099511627776) (h1 : s.size ≤ 65536) :
    Calls Tryz.prog 57 #[.slice A n c, .string s] w fun e w' =>
      ∃ A c, e = .returned (.tuple #[.slice A (n + 4 + s.size) c, .int .i64 0]) ∧ Made w w' 5 A (n + 4 + s.size) c (l ++ low s.size 4 ++ s.data.toList) := by
  obtain ⟨i0, hi0, hz0, hz1, hz2⟩ := info_parts info_u8
  go_enter Tryz.func57, Tryz.ntmps57
  go_wp2_with fail
  refine (laid_any A n c l s.size 4 w hb hn (by omega)).mono ?_
  rintro e w1 ⟨rfl, hB, hw⟩
  have hz := hB.lt
  have HO : Hid (w1.ownsRow w.heap.size 5 1 (.slice (some ⟨w.heap.size, 0, none⟩) (n + 4) (n + 4)) (n + 4) (u8s (l ++ low s.size 4))) := by
    have hl := hb.len
    rw [u8s_length] at hl
    have h := hB.own (Nat.le_refl _) (Nat.le_refl (n + 4)) (by simp [hl]) (by unfold maxLen; omega)
    rw [List.take_of_length_le (by simp [hl])] at h
    exact Lib.hid h
  clear hB
  go_wp2_with (at_builtin; refine Lib.wpList_append_own_string _ rfl _ _ _ _ rfl w.heap.size 5 i0 Tryz.underlying72 Tryz.underlying9 hi0 hz0 hz1 hz2 (.slice (some ⟨w.heap.size, 0, none⟩) (n + 4) (n + 4)) _ _ rfl HO.out s rfl (by unfold maxLen; omega) (by omega) (by omega) ?_; intro v w2 hown hg _; have HO2 := Lib.hid hown; clear hown)
  go_ret2
  obtain ⟨A2, c2, hv⟩ := own_slice HO2.out
  have h := HO2.out
  rw [strCells_text, ← u8s_append, hv] at h
  exact ⟨A2, c2, by rw [hv]; rfl, h, hw.grown hg (by omega) (by simp [Value.ownBlock])⟩
set_option maxHeartbeats 400000 in
theorem putText_no (A : Option Addr) (n c : Nat) (s : ByteArray) (w : World) (h : 65536 < s.size) :
    Calls Tryz.prog 57 #[.slice A n c, .string s] w fun e w' => e = .returned (.tuple #[.slice none 0 0, .int .i64 2]) ∧ w = w' := by
  go_enter Tryz.func57, Tryz.ntmps57
  go_wp2
  go_ret2
  exact ⟨rfl, rfl⟩
/-! ### The references. -/
end Go.Proofs.YtkdmfjpfanmgmaaGreatDoor
namespace Go.Proofs.YtkdmfjpfanmgmaaGreatDoor
open Go.RowKit Le
set_option maxRecDepth 100000
def marks : List UInt8 := [0xa5, 0x5a]
theorem grownBy_setCell {w0 w : World} {g : Nat} (h : w0.grownBy w (some g)) (i : Nat) (u : Value) : w0.grownBy (w.setCell ⟨g, i, none⟩ u) (some g) :=
  ⟨h.os, h.tape, h.output, by simpa [World.setCell] using h.size, fun k hk hne => (Below.heap_setCell w ⟨g, i, none⟩ u k (by rintro rfl; exact hne rfl)).trans (h.block k hk hne)⟩
/-- Block g is n bytes, whichever. -/
def Turned (w : World) (g : Nat) (t : TypeId) (n : Nat) : Prop := ∃ l : List UInt8, l.length = n ∧ Blk w g t (u8s l)
theorem Turned.at_ {w : World} {g n : Nat} {t : TypeId} (h : Turned w g t n) {j : Nat} (hj : j < n) : ∃ u : Nat, w.cell? ⟨g, j, none⟩ = some (.int .u8 u) ∧ w.frozen? ⟨g, j, none⟩ = false := by
  obtain ⟨l, hl, hB⟩ := h
  exact ⟨(l[j]'(by omega)).toNat, (hB.cell j).trans (u8s_at l j (by omega)), hB.frozen j⟩
theorem Turned.set_ {w : World} {g n : Nat} {t : TypeId} (h : Turned w g t n) (j : Nat) (u : Int) : Turned (w.setCell ⟨g, j, none⟩ (.int .u8 (u % 256))) g t n := by
  obtain ⟨l, hl, hB⟩ := h
  refine ⟨l.set j (UInt8.ofNat (u % 256).toNat), by simp [hl], ?_⟩
  have h2 := hB.set_ j (.int .u8 (u % 256))
  have e : (u8s l).set j (.int .u8 (u % 256)) = u8s (l.set j (UInt8.ofNat (u % 256).toNat)) := by
    unfold u8s
    rw [List.map_set]
    congr 2
    have : (UInt8.ofNat (u % 256).toNat).toNat = (u % 256).toNat % 256 := UInt8.toNat_ofNat'
    rw [this]
    omega
  exact e ▸ h2
end Go.Proofs.YtkdmfjpfanmgmaaGreatDoor
