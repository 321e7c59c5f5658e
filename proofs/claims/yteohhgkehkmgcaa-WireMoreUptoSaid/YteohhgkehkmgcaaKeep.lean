/- The walks of package folkmootkeep: bytes that are lent, and looked at when they come back. -/
import Derived.Test.YteohhgkehkmgcaaCodec2
namespace Go.Proofs.Yteohhgkehkmgcaa
open Go.RowKit Le
set_option maxRecDepth 100000

def marks : List UInt8 := [0xa5, 0x5a]

theorem lend_0 {w : World} {g : Nat} (l : List UInt8) (n : Nat) (_h : l.length = n) (t : TypeId) (hB : Blk w g t (u8s l ++ List.drop n (List.replicate (n + 2) (Value.int .u8 0)))) : Blk w g t (u8s (l ++ [0, 0])) := by
  have e : u8s l ++ List.drop n (List.replicate (n + 2) (Value.int .u8 0)) = u8s (l ++ [0, 0]) := by
    rw [List.drop_replicate, show n + 2 - n = 2 by omega, u8s_append]; rfl
  exact e ▸ hB
theorem lend_c0 (l : List UInt8) (n : Nat) (h : l.length = n) : (u8s (l ++ [0, 0]))[n]? = some (.int .u8 0) := by
  rw [u8s_append, List.getElem?_append_right (by simp; omega)]
  simp [h, u8s]
theorem lend_c1 (l : List UInt8) (n : Nat) (h : l.length = n) (x : Value) : ((u8s (l ++ [0, 0])).set n x)[n + 1]? = some (.int .u8 0) := by
  rw [List.getElem?_set_ne (by omega), u8s_append, List.getElem?_append_right (by simp; omega)]
  simp [h, u8s]

theorem lend_2 (l : List UInt8) (n : Nat) (h : l.length = n) : ((u8s (l ++ [0, 0])).set n (.int .u8 165)).set (n + 1) (.int .u8 90) = u8s (l ++ marks) := by
  have h2 : (u8s l).length = n := by simp [h]
  rw [u8s_append, List.set_append, if_neg (by omega), h2, Nat.sub_self, List.set_append, if_neg (by omega), h2, show n + 1 - n = 1 by omega, u8s_append]
  rfl

set_option maxHeartbeats 400000 in
theorem lend_any (A : Option Addr) (n c : Nat) (l : List UInt8) (w : World) (hb : Reads w w.heap.size A n (u8s l)) (hn : n ≤ 1099511627776) :
    Calls Try.prog 19 #[.slice A n c] w fun e w' =>
      e = .returned (.slice (some ⟨w.heap.size, 0, none⟩) n (n + 2)) ∧ Blk w' w.heap.size 5 (u8s (l ++ marks)) ∧ Below w.heap.size w w' := by
  obtain ⟨i0, hi0, hz0, hz1, hz2⟩ := info_parts info_u8
  have HL : Hid (l.length = n) := by have := hb.len; rw [u8s_length] at this; exact Lib.hid this
  go_enter Try.func19, Try.ntmps19
  go_wp2_with (first
    | (at_make
       refine wpList_make_blk _ rfl _ _ _ rfl 5 i0 (.int .u8 0) Try.underlying34 hi0 hz0 hz1 rfl _ _ _ _ (n + 2) rfl rfl (by omega) (by omega) (by rw [hz2]; omega) (by unfold maxLen; omega) ?_
       intro w1 HG1 hb1 hs1
       have hb' := hb.below hb1)
    | (with_reducible refine wpList_copy_front rfl (.tmp 8) (.tmp 9) 34 34 rfl 5 Try.underlying34 (by kernel_rfl) _ _ _ _ _ _ rfl rfl 5 _ HG1.out w.heap.size (u8s l) hb' (u8s_one l) (by omega) (by simp) w.heap.size w hb1 (Nat.le_refl _) ?_
       intro w2 HG2 hb2 hs2 _
       have HG3 := Lib.hid (lend_0 l n HL.out _ HG2.out)
       clear HG2
       have hc0 : w2.cell? ⟨w.heap.size, n, none⟩ = some (.int .u8 0) := (HG3.out.cell _).trans (lend_c0 l n HL.out)
       have hc1 : ∀ x, (w2.setCell ⟨w.heap.size, n, none⟩ x).cell? ⟨w.heap.size, n + 1, none⟩ = some (.int .u8 0) := fun x => ((HG3.out.set_ _ _).cell _).trans (lend_c1 l n HL.out x)
       have hf0 : w2.frozen? ⟨w.heap.size, n, none⟩ = false := HG3.out.frozen _
       have hf1 : ∀ x, (w2.setCell ⟨w.heap.size, n, none⟩ x).frozen? ⟨w.heap.size, n + 1, none⟩ = false := fun x => (HG3.out.set_ _ _).frozen _))
  go_ret
  refine ⟨rfl, ?_, (hb2.setCell (Nat.le_refl _) _).setCell (Nat.le_refl _) _⟩
  have h := (HG3.out.set_ n (.int .u8 165)).set_ (n + 1) (.int .u8 90)
  rwa [lend_2 l n HL.out] at h

theorem grownBy_setCell {w0 w : World} {g : Nat} (h : w0.grownBy w (some g)) (i : Nat) (u : Value) : w0.grownBy (w.setCell ⟨g, i, none⟩ u) (some g) :=
  ⟨h.os, h.tape, h.output, by simpa [World.setCell] using h.size, fun k hk hne => (Below.heap_setCell w ⟨g, i, none⟩ u k (by rintro rfl; exact hne rfl)).trans (h.block k hk hne)⟩

theorem back_c0 (l : List UInt8) (n : Nat) (h : l.length = n) : (u8s (l ++ marks))[n]? = some (.int .u8 165) := by
  rw [u8s_append, List.getElem?_append_right (by simp; omega)]
  simp [h, u8s, marks]
theorem back_c1 (l : List UInt8) (n : Nat) (h : l.length = n) : (u8s (l ++ marks))[n + 1]? = some (.int .u8 90) := by
  rw [u8s_append, List.getElem?_append_right (by simp; omega)]
  simp [h, u8s, marks]

/-- Block g is n bytes, whichever. -/
def Turned (w : World) (g : Nat) (t : TypeId) (n : Nat) : Prop := ∃ l : List UInt8, l.length = n ∧ Blk w g t (u8s l)
theorem Turned.at_ {w : World} {g n : Nat} {t : TypeId} (h : Turned w g t n) {j : Nat} (hj : j < n) : ∃ u : Nat, w.cell? ⟨g, j, none⟩ = some (.int .u8 u) ∧ w.frozen? ⟨g, j, none⟩ = false := by
  obtain ⟨l, hl, hB⟩ := h
  exact ⟨(l[j]'(by omega)).toNat, (hB.cell j).trans (u8s_at l j (by omega)), hB.frozen j⟩
theorem Turned.set_ {w : World} {g n : Nat} {t : TypeId} (h : Turned w g t n) (j : Nat) (u : Int) : Turned (w.setCell ⟨g, j, none⟩ (.int .u8 (u % 256))) g t n := by
  obtain ⟨l, hl, hB⟩ := h
  refine ⟨l.set j (UInt8.ofNat (u % 256).toNat), by simp [hl], ?_⟩
  have h2 := hB.set_ j (.int .u8 (u % 256))
  have e : (u8s l).set j (.int .u8 (u % 256)) = u8s (l.set j (UInt8.ofNat (u % 256).toNat)) := by
    unfold u8s
    rw [List.map_set]
    congr 2
    have : (UInt8.ofNat (u % 256).toNat).toNat = (u % 256).toNat % 256 := UInt8.toNat_ofNat'
    rw [this]
    omega
  exact e ▸ h2

set_option maxHeartbeats 800000 in
theorem back_any (A : Option Addr) (n c g B : Nat) (l : List UInt8) (w : World) (hb : Reads w B A n (u8s l)) (_hBg : B ≤ g) (hg : Blk w g 5 (u8s (l ++ marks))) (hn : n ≤ 1099511627776) :
    Calls Try.prog 21 #[.slice (some ⟨g, 0, none⟩) n (n + 2), .slice A n c] w fun e w' =>
      e = .returned (.bool true) ∧ w.grownBy w' (some g) := by
  have HL : Hid (l.length = n) := by have := hb.len; rw [u8s_length] at this; exact Lib.hid this
  have HG := Lib.hid hg
  clear hg
  have hc0 : w.cell? ⟨g, n, none⟩ = some (.int .u8 165) := (HG.out.cell _).trans (back_c0 l n HL.out)
  have hc1 : w.cell? ⟨g, n + 1, none⟩ = some (.int .u8 90) := (HG.out.cell _).trans (back_c1 l n HL.out)
  have hx : Reads w w.heap.size (some ⟨g, 0, none⟩) n (u8s l) := by
    have h := HG.out.reads (n := n) (by simp [HL.out])
    rw [u8s_append, List.take_left' (by simp [HL.out])] at h
    exact h
  have k1 : (convert 34 9 (.slice (some ⟨g, 0, none⟩) n (n + 2))).run Try.prog w = .ok (.string (text l)) w := run_text Try.underlying34 Try.underlying5 Try.underlying9 hx
  have k2 : (convert 34 9 (.slice A n c)).run Try.prog w = .ok (.string (text l)) w := run_text Try.underlying34 Try.underlying5 Try.underlying9 hb
  go_enter Try.func21, Try.ntmps21
  go_wp2
  clear k1 k2 hc0 hc1 hx hb
  go_loopw [7] (fun i wr => ∃ j : Nat, j ≤ n + 2 ∧ i = .int .i64 j ∧ Turned wr g 5 (n + 2) ∧ w.grownBy wr (some g)) (fun i _ => n + 2 - (intOf i).toNat)
  case atStart => exact ⟨0, Nat.zero_le _, rfl, ⟨_, by simp [HL.out, marks], HG.out⟩, World.grownBy.refl _ _⟩
  case round =>
    obtain ⟨j, hj, rfl, hT, hgr⟩ := hrel
    by_cases hlt : j < n + 2
    · obtain ⟨u, hu⟩ := hT.at_ hlt
      have hc := hu.1
      have hf := hu.2
      have HT := Lib.hid hT
      clear hT hu
      go_wp2
      go_roundw
      case rel => exact ⟨j + 1, by omega, by go_num, HT.out.set_ _ _, grownBy_setCell hgr _ _⟩
      case measure => simp [intOf]; omega
    · go_wp2
      go_ret
      exact ⟨rfl, hgr⟩
end Go.Proofs.Yteohhgkehkmgcaa
