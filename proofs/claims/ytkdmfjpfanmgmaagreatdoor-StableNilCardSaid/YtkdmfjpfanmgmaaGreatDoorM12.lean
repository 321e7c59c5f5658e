/- Joined by mkmerge.py from the proof's texts Seal. Conditions: each theorem's own hypotheses. -/
import Derived.Test.YtkdmfjpfanmgmaaGreatDoorM06
import Derived.Test.YtkdmfjpfanmgmaaGreatDoorM11
namespace Go.Proofs.YtkdmfjpfanmgmaaGreatDoor
open Go.RowKit Le
set_option maxRecDepth 100000
/-- The table's cells hold its numbers. -/
def Tab (w : World) : Prop := ∀ i, i < 16 → w.cell? ⟨3, i, none⟩ = some (.int .u32 ((Crc.tab.getD i 0 : Nat) : Int))
theorem Tab.below {w w' : World} {B : Nat} (h : Tab w) (hb : Below B w w') (hB : 3 < B) : Tab w' := fun i hi => (hb.cell (p := ⟨3, i, none⟩) hB).trans (h i hi)
theorem Tab.lt {w : World} (h : Tab w) : 3 < w.heap.size := World.block_lt_of_cell? w _ (h 0 (by decide))
theorem Tab.alloc {w : World} (h : Tab w) (o : Obj) : Tab (w.alloc o) := h.below ((Below.refl _ _).alloc (Nat.le_refl _) o) h.lt
theorem Tab.drewN {w : World} (h : Tab w) (n : Nat) : Tab (w.drewN n) := h
theorem tab_lt (i : Nat) (h : i < 16) : Crc.tab.getD i 0 < 4294967296 := by
  have : ∀ i, i < 16 → Crc.tab.getD i 0 < 4294967296 := by decide
  exact this i h
theorem nib_eq (X : Nat) (hX : X < 4294967296) : bits .xor .u32 ((X : Int) / 16) ((Crc.tab.getD (X % 16) 0 : Nat) : Int) = ((Crc.nib X : Nat) : Int) := by
  rw [show (X : Int) / 16 = ((X / 16 : Nat) : Int) by omega, u32_xor_nat _ _ (by omega) (tab_lt _ (by omega))]
  rfl
theorem and_15 (X : Nat) (hX : X < 4294967296) : bits .and .u32 (X : Int) 15 = ((X % 16 : Nat) : Int) := by
  rw [show (15 : Int) = ((15 : Nat) : Int) from rfl, u32_and_nat _ _ hX (by omega)]
  rw [show (15 : Nat) = 2 ^ 4 - 1 from rfl, Nat.and_two_pow_sub_one_eq_mod]
theorem nib_lt (X : Nat) (hX : X < 4294967296) : Crc.nib X < 4294967296 := by
  have := Crc.bit_lt (Crc.bit_lt (Crc.bit_lt (Crc.bit_lt (n := X) hX)))
  rwa [Crc.bit4_nib] at this
/-- Half a byte's step, as the walk asks it. -/
structure Half (w : World) (X Y I T : Nat) : Prop where
  i : I < 16
  and : bits .and .u32 (X : Int) 15 = (I : Int)
  cell : w.cell? ⟨3, I, none⟩ = some (.int .u32 (T : Int))
  xor : bits .xor .u32 ((X : Int) / 16) (T : Int) = (Y : Int)
  lt : Y < 4294967296
  eq : Y = Crc.nib X
theorem Half.of {w : World} (h : Tab w) (X : Nat) (hX : X < 4294967296) : ∃ Y I T, Half w X Y I T :=
  ⟨Crc.nib X, X % 16, Crc.tab.getD (X % 16) 0, by omega, and_15 X hX, h _ (by omega), nib_eq X hX, nib_lt X hX, rfl⟩
theorem take_one (l : List UInt8) (j : Nat) (h : j < l.length) (r : Nat) : Crc.reg r (l.take (j + 1)) = Crc.byte (Crc.reg r (l.take j)) (l[j]'h).toNat := by
  rw [List.take_succ_eq_append_getElem h, Crc.reg_append]
  rfl
theorem sum_end (l : List UInt8) (j R : Nat) (hR : R < 4294967296) (hl : l.length = j) (h : R = Crc.reg 4294967295 (l.take j)) :
    Ending.returned (.int .u32 (bits .xor .u32 IntKind.u32.max (R : Int))) = Ending.returned (.int .u32 (Crc.sum l)) := by
  have e : bits .xor .u32 IntKind.u32.max (R : Int) = ((4294967295 ^^^ R : Nat) : Int) := u32_xor_nat 4294967295 R (by decide) hR
  rw [e, h, List.take_of_length_le (by omega)]
  rfl
set_option maxHeartbeats 1600000 in
theorem sum_any (A : Option Addr) (n c B : Nat) (l : List UInt8) (w : World) (hb : Reads w B A n (u8s l)) (hT : Tab w) (hn : n ≤ 1099511627776) :
    Calls Tryz.prog 118 #[.slice A n c] w fun e w' => e = .returned (.int .u32 (Crc.sum l)) ∧ w = w' := by
  have HL : Hid (l.length = n) := Lib.hid (by have := hb.len; rwa [u8s_length] at this)
  go_enter Tryz.func118, Tryz.ntmps118
  go_wp2
  go_loop [3, 8] (fun r i => ∃ (j R : Nat), j ≤ n ∧ i = .int .i64 j ∧ r = .int .u32 R ∧ R < 4294967296 ∧ Hid (R = Crc.reg 4294967295 (l.take j))) (fun _ i => n - (intOf i).toNat)
  case atStart => exact ⟨0, 4294967295, Nat.zero_le _, rfl, rfl, by omega, Lib.hid rfl⟩
  case round =>
    obtain ⟨j, R, hj, rfl, rfl, hR, HR⟩ := hrel
    by_cases hlt : j < n
    · obtain ⟨ad, hA, _, hcs⟩ := hb.2 (by omega)
      subst hA
      have hc2 := hcs j _ (u8s_at l j (by have := HL.out; omega))
      have hjl : j < l.length := by have := HL.out; omega
      obtain ⟨C, HC⟩ : ∃ C, Hid ((l[j]'hjl).toNat = C) := ⟨_, Lib.hid rfl⟩
      rw [HC.out] at hc2
      have hC : C < 256 := by rw [← HC.out]; exact (l[j]'hjl).toNat_lt
      have e0 : bits .xor .u32 (R : Int) (C : Int) = ((R ^^^ C : Nat) : Int) := u32_xor_nat R C hR (by omega)
      obtain ⟨X, HX⟩ : ∃ X, Hid (R ^^^ C = X) := ⟨_, Lib.hid rfl⟩
      have hX : X < 4294967296 := by rw [← HX.out]; exact Nat.xor_lt_two_pow (n := 32) hR (by omega)
      rw [HX.out] at e0
      obtain ⟨Y, I, T, h1⟩ := Half.of hT X hX
      obtain ⟨Z, I2, T2, h2⟩ := Half.of hT Y h1.lt
      have H1 := Lib.hid h1.eq
      have H2 := Lib.hid h2.eq
      have hZ := h2.lt
      have i1 := h1.i
      have a1 := h1.and
      have c1 := h1.cell
      have x1 := h1.xor
      have i2 := h2.i
      have a2 := h2.and
      have c2 := h2.cell
      have x2 := h2.xor
      clear h1 h2 hcs hb hT
      have HJ := Lib.hid hjl
      go_wp2
      go_round
      case rel => exact ⟨j + 1, Z, by omega, by go_num, rfl, hZ, Lib.hid (by rw [take_one l j HJ.out, ← HR.out, HC.out, H2.out, H1.out, ← HX.out]; rfl)⟩
      case measure => simp [intOf]; omega
    · go_wp2
      go_ret
      obtain rfl : j = n := by omega
      exact ⟨sum_end l j R hR HL.out HR.out, rfl⟩
/-! ### The reference's sum, bit by bit. -/
def bits8 : Nat → Nat → Nat
  | 0, X => X
  | k + 1, X => Crc.bit (bits8 k X)
end Go.Proofs.YtkdmfjpfanmgmaaGreatDoor
