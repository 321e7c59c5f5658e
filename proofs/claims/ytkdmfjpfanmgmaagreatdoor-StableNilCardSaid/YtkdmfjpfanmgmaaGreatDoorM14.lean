/- Joined by mkmerge.py from the proof's texts Seal2, Seal3. Conditions: each theorem's own hypotheses. -/
import Derived.Test.YtkdmfjpfanmgmaaGreatDoorM13
import Derived.Lib.AppendZeros
namespace Go.Proofs.YtkdmfjpfanmgmaaGreatDoor
open Go.RowKit Le
set_option maxRecDepth 100000
theorem blk_reads {w : World} {g n : Nat} {t : TypeId} {l : List UInt8} (h : Blk w g t (u8s l)) (hn : l.length = n) : Reads w w.heap.size (some ⟨g, 0, none⟩) n (u8s l) := by
  have := Reads.of_blk h
  rwa [u8s_length, hn] at this
/-- append(nil, make([]byte, n)...), its first 0 elements: an owned row that holds nothing yet. -/
theorem wpList_grow0 {P : Program} (w : World) {ops : Array Oper} {rest : List Oper} {o : Oper} {a : Act} {Q : Exit → Act → World → Prop} (hgd : o.guard = none) (s x : Operand) (t tn : TypeId)
    (ho : o.op = .call { callee := .builtin .append, args := #[s, x], argTypes := #[t, tn] }) (e : TypeId) (i : TypeInfo) (z : Value) (k kn : IntKind)
    (ht : P.underlying t = some (.slice e)) (htn : P.underlying tn = some (.int kn)) (hi : P.info? e = some i) (hz : i.zero = some z) (hs1 : i.size = 1) (hzs : z.cells.size = 1)
    (n : Nat) (h0 : 0 < n) (hs : a.eval s = .slice none 0 0) (hx : a.eval x = .int k n) (h63 : n ≤ maxLen) (h48 : n * i.bytes ≤ 281474976710656)
    (h : ∀ c w', n ≤ c → Hid (w'.ownsRow w.heap.size e 1 (.slice (some ⟨w.heap.size, 0, none⟩) 0 c) 0 []) → Below w.heap.size w w' → wpList P ops Q rest (a.put o.dst (.slice (some ⟨w.heap.size, 0, none⟩) n c)) w') : wpList P ops Q (o :: rest) a w := by
  have hr := Lib.run_append_nil_zeros (P := P) w t tn o.type e i z k kn ht htn hi hz n h0 (by omega) (by unfold maxLen at h63; omega) h48
  refine Lib.wpList_append_run w hgd s x t tn ho _ _ hs hx _ _ hr (h _ _ (grownCap_ge w n 0 e) ?_ ((Below.refl _ _).drew.alloc (by simp) _))
  refine ⟨rfl, .inr ⟨w.heap.size, _, _, rfl, Nat.le_refl _, heap_alloc_new w.drew _, Nat.zero_le _, grownCap_le_maxLen w n 0 e h63, ?_, by simp⟩⟩
  have := grownCap_ge w n 0 e
  simp only [Array.size_append, size_zeroCells, hzs]
  omega
set_option maxHeartbeats 800000 in
theorem grow_any (k : Nat) (w : World) (h0 : 0 < k) (hk : k ≤ 1099511627776) :
    Calls Tryz.prog 132 #[.slice none 0 0, .int .i64 k] w fun e w' => ∃ A c, e = .returned (.slice A 0 c) ∧ Made w w' 5 A 0 c [] := by
  obtain ⟨i0, hi0, hz0, hz1, hz2⟩ := info_parts info_u8
  go_enter Tryz.func132, Tryz.ntmps132
  go_wp2_with (at_builtin; refine wpList_grow0 _ rfl _ _ _ _ rfl 5 i0 (.int .u8 0) _ _ Tryz.underlying72 Tryz.underlying3 hi0 hz0 hz1 rfl k h0 rfl rfl (by unfold maxLen; omega) (by rw [hz2]; omega) ?_; intro c w1 hc HO hb)
  go_ret
  exact ⟨_, c, rfl, HO.out, hb⟩
set_option maxHeartbeats 1600000 in
theorem concat_two (g : Nat) (A1 A2 : Option Addr) (n1 c1 n2 c2 : Nat) (l1 l2 : List UInt8) (w : World) (hg : Blk w g 72 [.slice A1 n1 c1, .slice A2 n2 c2]) (h1 : Reads w w.heap.size A1 n1 (u8s l1)) (h2 : Reads w w.heap.size A2 n2 (u8s l2))
    (hp : 0 < n1 + n2) (hn : n1 + n2 ≤ 1099511627776) :
    Calls Tryz.prog 119 #[.slice (some ⟨g, 0, none⟩) 2 2] w fun e w' => ∃ A c, e = .returned (.slice A (n1 + n2) c) ∧ Made w w' 5 A (n1 + n2) c (l1 ++ l2) := by
  obtain ⟨i0, hi0, hz0, hz1, hz2⟩ := info_parts info_u8
  have k0 : w.cell? ⟨g, 0, none⟩ = some (.slice A1 n1 c1) := hg.cell 0
  have k1 : w.cell? ⟨g, 1, none⟩ = some (.slice A2 n2 c2) := hg.cell 1
  have hgl := hg.lt
  clear hg
  go_enter Tryz.func119, Tryz.ntmps119
  go_wp2
  go_loop [3, 11] (fun s i => ∃ j S : Nat, j ≤ 2 ∧ i = .int .i64 j ∧ s = .int .i64 S ∧ (j = 0 → S = 0) ∧ (j = 1 → S = n1) ∧ (j = 2 → S = n1 + n2)) (fun _ i => 2 - (intOf i).toNat)
  case atStart => exact ⟨0, 0, by omega, rfl, rfl, fun _ => rfl, by omega, by omega⟩
  case round =>
    obtain ⟨j, S, hj, rfl, rfl, e0, e1, e2⟩ := hrel
    by_cases hj0 : j = 0
    · obtain rfl := hj0
      have hS := (e0 rfl).symm
      subst hS
      clear e0 e1 e2
      go_wp2
      go_round
      case rel => exact ⟨1, n1, by omega, rfl, by go_num, by omega, fun _ => rfl, by omega⟩
      case measure => simp [intOf]
    · by_cases hj1 : j = 1
      · obtain rfl := hj1
        have hS := (e1 rfl).symm
        subst hS
        clear e0 e1 e2
        go_wp2
        go_round
        case rel => exact ⟨2, n1 + n2, by omega, rfl, by go_num, by omega, by omega, fun _ => rfl⟩
        case measure => simp [intOf]
      · obtain rfl : j = 2 := by omega
        have hS := (e2 rfl).symm
        subst hS
        clear e0 e1 e2 hj0 hj1
        go_wp2_with fail
        rw [← Int.natCast_add]
        refine (grow_any (n1 + n2) w hp hn).mono ?_
        rintro e w1 ⟨A, c, rfl, hM⟩
        have HM := Lib.hid hM
        clear hM
        go_wp2
        go_loopw [6, 27] (fun v i wr => ∃ (j m : Nat) (A : Option Addr) (c : Nat) (L : List UInt8), j ≤ 2 ∧ i = .int .i64 j ∧ v = .slice A m c ∧ Hid (Made w wr 5 A m c L) ∧ (j = 0 → m = 0) ∧ (j = 1 → m = n1) ∧ (j = 2 → m = n1 + n2) ∧ Hid ((j = 0 → L = []) ∧ (j = 1 → L = l1) ∧ (j = 2 → L = l1 ++ l2))) (fun _ i _ => 2 - (intOf i).toNat)
        case atStart => exact ⟨0, 0, A, c, [], by omega, rfl, rfl, HM, by omega, by omega, by omega, Lib.hid ⟨fun _ => rfl, fun h => (by omega), fun h => (by omega)⟩⟩
        case round =>
          obtain ⟨j, m, A, c, L, hj, rfl, rfl, HMr, m0, m1, m2, HLr⟩ := hrel
          have b1 := HMr.out.below
          have z1 := b1.size
          have k0' : wr.cell? ⟨g, 0, none⟩ = some (.slice A1 n1 c1) := (b1.cell (p := ⟨g, 0, none⟩) hgl).trans k0
          have k1' : wr.cell? ⟨g, 1, none⟩ = some (.slice A2 n2 c2) := (b1.cell (p := ⟨g, 1, none⟩) hgl).trans k1
          have r1 := Lib.hid (h1.below b1)
          have r2 := Lib.hid (h2.below b1)
          have B1 := Lib.hid b1
          clear b1 HM
          by_cases hj0 : j = 0
          · obtain rfl := hj0
            have hm := (m0 rfl).symm
            subst hm
            have e := HLr.out.1 rfl
            subst e
            clear m0 m1 m2
            go_wp2_with (at_builtin; refine wpList_app rfl _ _ _ rfl w.heap.size 5 i0 _ 1 Tryz.underlying72 hi0 hz0 hz1 hz2 rfl (.slice A 0 c) _ _ rfl HMr.out.own _ _ n1 c1 _ rfl r1.out (u8s_one l1) (by unfold maxLen; omega) (by omega) z1 w B1.out ?_; intro A3 c3 w3 HO3 hb3 _)
            go_roundw
            case rel => exact ⟨1, n1, A3, c3, l1, by omega, rfl, rfl, Lib.hid ⟨by have h := HO3.out; rw [Nat.zero_add] at h; simpa [u8s] using h, hb3⟩, by omega, by omega, by omega, Lib.hid ⟨fun h => (by omega), fun _ => rfl, fun h => (by omega)⟩⟩
            case measure => simp [intOf]
          · by_cases hj1 : j = 1
            · obtain rfl := hj1
              have hm := (m1 rfl).symm
              subst hm
              have e := HLr.out.2.1 rfl
              subst e
              clear m0 m1 m2
              go_wp2_with (at_builtin; refine wpList_app rfl _ _ _ rfl w.heap.size 5 i0 _ 1 Tryz.underlying72 hi0 hz0 hz1 hz2 rfl (.slice A n1 c) _ _ rfl HMr.out.own _ _ n2 c2 _ rfl r2.out (u8s_one l2) (by unfold maxLen; omega) (by omega) z1 w B1.out ?_; intro A3 c3 w3 HO3 hb3 _)
              go_roundw
              case rel => exact ⟨2, n1 + n2, A3, c3, _, by omega, rfl, rfl, Lib.hid ⟨by rw [u8s_append]; exact HO3.out, hb3⟩, by omega, by omega, by omega, Lib.hid ⟨fun h => (by omega), fun h => (by omega), fun _ => rfl⟩⟩
              case measure => simp [intOf]
            · obtain rfl : j = 2 := by omega
              have hm := (m2 rfl).symm
              subst hm
              have e := HLr.out.2.2 rfl
              subst e
              clear m0 m1 m2 hj0 hj1 HLr
              go_wp2
              go_ret
              exact ⟨A, c, rfl, HMr.out⟩
/-! ### A frame's head. -/
def headOf (l : List UInt8) : List UInt8 := low l.length 4 ++ low (Crc.sum (low l.length 4 ++ l)) 4
theorem four_bytes (S : Nat) (hS : S < 4294967296) : [Value.int .u8 ((S : Int) % 256), .int .u8 ((S : Int) / 256 % 256), .int .u8 ((S : Int) / 65536 % 256), .int .u8 ((S : Int) / 16777216)] = u8s (low S 4) := by
  have t : ∀ x : Nat, (UInt8.ofNat x).toNat = x % 256 := fun x => UInt8.toNat_ofNat'
  simp only [low, u8s, List.map_cons, List.map_nil, t]
  simp only [List.cons.injEq, Value.int.injEq, true_and, and_true]
  omega
theorem four_reads (w : World) (S : Nat) (hS : S < 4294967296) (t : TypeId) :
    Reads (w.alloc (.cells #[.int .u8 ((S : Int) % 256), .int .u8 ((S : Int) / 256 % 256), .int .u8 ((S : Int) / 65536 % 256), .int .u8 ((S : Int) / 16777216)] t)) (w.alloc (.cells #[.int .u8 ((S : Int) % 256), .int .u8 ((S : Int) / 256 % 256), .int .u8 ((S : Int) / 65536 % 256), .int .u8 ((S : Int) / 16777216)] t)).heap.size (some ⟨w.heap.size, 0, none⟩) 4 (u8s (low S 4)) := by
  have h := Reads.of_blk (Blk.new w t [Value.int .u8 ((S : Int) % 256), .int .u8 ((S : Int) / 256 % 256), .int .u8 ((S : Int) / 65536 % 256), .int .u8 ((S : Int) / 16777216)])
  rw [← four_bytes S hS]
  exact h
set_option maxHeartbeats 1600000 in
theorem head_any (A : Option Addr) (n c : Nat) (l : List UInt8) (w : World) (hT : Tab w) (hb : Reads w w.heap.size A n (u8s l)) (hn : n ≤ 1048576) :
    Calls Tryz.prog 94 #[.slice A n c] w fun e w' => ∃ A' c', e = .returned (.slice A' 8 c') ∧ Made w w' 5 A' 8 c' (headOf l) := by
  obtain ⟨i0, hi0, hz0, hz1, hz2⟩ := info_parts info_u8
  have HL := Lib.hid (sreads_len hb)
  have HT := Lib.hid hT
  clear hT
  go_enter Tryz.func94, Tryz.ntmps94
  go_wp2_with fail
  refine (putNumber_ok none 0 0 [] n w Reads.none_ (by omega) (by omega) (by omega)).mono ?_
  rintro e w1 ⟨rfl, hB, hw1⟩
  rw [List.nil_append, Int.toNat_natCast] at hB
  have z1 := hB.lt
  have HB := Lib.hid hB
  have HT1 := Lib.hid (HT.out.below hw1 HT.out.lt)
  have Hb1 := Lib.hid (hb.below hw1)
  clear hB hb
  go_wp2_with fail
  refine (concat_two w1.heap.size _ _ 4 4 n c (low n 4) l _ (Blk.new w1 72 [.slice (some ⟨w.heap.size, 0, none⟩) 4 4, .slice A n c]) ?_ ?_ (by omega) (by omega)).mono ?_
  · have h := (blk_reads (n := 4) HB.out (by simp)).alloc (Nat.le_refl _) (.cells [.slice (some ⟨w.heap.size, 0, none⟩) 4 4, .slice A n c].toArray 72)
    exact h.more (by simp)
  · have h := Hb1.out.alloc (by omega) (.cells [.slice (some ⟨w.heap.size, 0, none⟩) 4 4, .slice A n c].toArray 72)
    exact h.more (by simp; omega)
  rintro e w2 ⟨A2, c2, rfl, hM2⟩
  have hw2 : Below w1.heap.size w1 w2 := ((Below.refl _ _).alloc (Nat.le_refl _) _).trans (hM2.below.mono (by simp))
  have z2 := hw2.size
  have HR2 := Lib.hid hM2.reads
  have HB2 := Lib.hid (HB.out.below hw2 z1)
  have HT2 := Lib.hid (HT1.out.below hw2 HT1.out.lt)
  have HW2 := Lib.hid (hw1.trans (hw2.mono (by omega)))
  clear hM2 hw2 HB HT1 Hb1 hw1
  go_wp2_with fail
  refine (sum_any A2 (4 + n) c2 _ _ w2 HR2.out HT2.out (by omega)).mono ?_
  rintro e w' ⟨rfl, rfl⟩
  obtain ⟨S, HS⟩ : ∃ S, Hid (Crc.sum (low n 4 ++ l) = S) := ⟨_, Lib.hid rfl⟩
  have hS : S < 4294967296 := by rw [← HS.out]; exact Crc.sum_lt _
  rw [HS.out]
  have HO : Hid (w2.ownsRow w.heap.size 5 1 (.slice (some ⟨w.heap.size, 0, none⟩) 4 4) 4 (u8s (low n 4))) := by
    have h := HB2.out.own (Nat.le_refl _) (Nat.le_refl 4) (by simp) (by unfold maxLen; omega)
    rw [List.take_of_length_le (by simp)] at h
    exact Lib.hid h
  clear HB2 HR2 HT2
  have hr4 := four_reads w2 S hS 5
  have zz : w.heap.size ≤ w2.heap.size := by omega
  go_wp2_with (at_builtin; refine wpList_app rfl _ _ _ rfl w.heap.size 5 i0 _ 1 Tryz.underlying72 hi0 hz0 hz1 hz2 rfl (.slice (some ⟨w.heap.size, 0, none⟩) 4 4) _ _ rfl (HO.out.alloc _) _ _ 4 4 _ rfl hr4 (u8s_one _) (by unfold maxLen; omega) (by omega) (by simp; omega) w (HW2.out.alloc zz _) ?_; intro A3 c3 w3 HO3 hb3 _)
  go_ret
  refine ⟨A3, c3, rfl, ?_, hb3⟩
  have h := HO3.out
  rw [← u8s_append] at h
  unfold headOf
  rw [HL.out, HS.out]
  exact h
end Go.Proofs.YtkdmfjpfanmgmaaGreatDoor
namespace Go.Proofs.YtkdmfjpfanmgmaaGreatDoor
open Go.RowKit Le
set_option maxRecDepth 100000
def frameOf (l : List UInt8) : List UInt8 := headOf l ++ l
@[simp] theorem headOf_length (l : List UInt8) : (headOf l).length = 8 := by simp [headOf]
@[simp] theorem frameOf_length (l : List UInt8) : (frameOf l).length = 8 + l.length := by simp [frameOf]
set_option maxHeartbeats 800000 in
theorem frame_ok (A : Option Addr) (n c : Nat) (l : List UInt8) (w : World) (hT : Tab w) (hb : Reads w w.heap.size A n (u8s l)) (hn : n ≤ 1048576) :
    Calls Tryz.prog 58 #[.slice A n c] w fun e w' => ∃ A' c', e = .returned (.tuple #[.slice A' (8 + n) c', .int .i64 0]) ∧ Made w w' 5 A' (8 + n) c' (frameOf l) := by
  obtain ⟨i0, hi0, hz0, hz1, hz2⟩ := info_parts info_u8
  have HL := Lib.hid (sreads_len hb)
  go_enter Tryz.func58, Tryz.ntmps58
  go_wp2_with fail
  refine (head_any A n c l w hT hb hn).mono ?_
  rintro e w1 ⟨A1, c1, rfl, hM⟩
  have HM := Lib.hid hM
  have z1 := hM.below.size
  have HB := Lib.hid (hb.below hM.below)
  clear hM hb hT
  go_wp2_with (at_builtin; refine wpList_app rfl _ _ _ rfl w.heap.size 5 i0 _ 1 Tryz.underlying72 hi0 hz0 hz1 hz2 rfl (.slice A1 8 c1) _ _ rfl HM.out.own _ _ n c _ rfl HB.out (u8s_one _) (by unfold maxLen; omega) (by omega) z1 w HM.out.below ?_; intro A3 c3 w3 HO3 hb3 _)
  go_ret2
  exact ⟨A3, c3, rfl, by rw [frameOf, u8s_append]; exact HO3.out, hb3⟩
/-! ### SealFrames -/
end Go.Proofs.YtkdmfjpfanmgmaaGreatDoor
