/- Joined by mkmerge.py from the proof's texts Read, Reader1. Conditions: each theorem's own hypotheses. -/
import Derived.Test.YtkdmfjpfanmgmaaGreatDoorM03
import Derived.Test.YtkdmfjpfanmgmaaGreatDoorM05
import Derived.Deep.Fields1
namespace Go.Proofs.YtkdmfjpfanmgmaaGreatDoor
open Go.RowKit Le
set_option maxRecDepth 100000
/-- The capacity, and the kind of block. -/
def CapT (w : World) (n c : Nat) (A : Option Addr) : Prop := c ≤ 1099511627776 ∧ (0 < n → ∀ ad, A = some ad → TypeAt w ad.block 5)
/-- A codec.Reader at block r, with l left. -/
def Rd (w : World) (r : Nat) (l : List UInt8) : Prop :=
  ∃ A n c, Blk w r 189 [.slice A n c] ∧ Reads w r A n (u8s l) ∧ n ≤ c ∧ CapT w n c A
theorem pow256_le {j : Nat} (h : j < 8) : 256 ^ (j + 1) ≤ 18446744073709551616 := by
  have : (256 : Nat) ^ (j + 1) ≤ 256 ^ 8 := Nat.pow_le_pow_right (by omega) (by omega)
  simpa using this
theorem u64_wrap_nat (x : Nat) (h : x < 18446744073709551616) : IntKind.u64.wrap (x : Int) = (x : Int) := by
  have : IntKind.u64.wrap (x : Int) = (x : Int) % 18446744073709551616 := rfl
  rw [this]; omega
theorem or_step (l : List UInt8) (j X : Nat) (hX : X = num (l.take j)) (h : j < l.length) (hj : j < 8) :
    bits .or .u64 (X : Int) (IntKind.u64.wrap (IntKind.u64.wrap ((l[j]'h).toNat : Int) * 2 ^ (8 * j))) = ((num (l.take (j + 1)) : Nat) : Int) := by
  have h8 := pow256_le hj
  have hc := (l[j]'h).toNat_lt
  have ha : X < 256 ^ j := by
    have := num_lt (l.take j)
    rwa [List.length_take, Nat.min_eq_left (by omega), ← hX] at this
  have hb : (l[j]'h).toNat * 256 ^ j < 256 ^ (j + 1) := by
    rw [Nat.pow_succ, Nat.mul_comm (256 ^ j)]
    exact Nat.mul_lt_mul_of_pos_right hc (Nat.pow_pos (by omega))
  have e2 : (2 : Int) ^ (8 * j) = ((256 ^ j : Nat) : Int) := by
    rw [Int.pow_mul, Int.natCast_pow]; rfl
  rw [u64_wrap_nat _ (by omega), e2, ← Int.natCast_mul, u64_wrap_nat _ (by omega)]
  have hp : (256 : Nat) ^ j ≤ 256 ^ (j + 1) := Nat.pow_le_pow_right (by omega) (by omega)
  rw [u64_or_nat _ _ (by omega) (by omega)]
  have e3 : (l[j]'h).toNat * 256 ^ j = (l[j]'h).toNat <<< (8 * j) := by rw [Nat.shiftLeft_eq, Nat.pow_mul]
  rw [e3, or_shift _ _ _ ha, List.take_succ_eq_append_getElem h, num_snoc, ← hX, List.length_take, Nat.min_eq_left (by omega)]
theorem num_take_lt (l : List UInt8) (j : Nat) (hj : j ≤ 8) : num (l.take j) ≤ 18446744073709551615 := by
  have h1 := num_lt (l.take j)
  have h2 : (256 : Nat) ^ (l.take j).length ≤ 256 ^ 8 := Nat.pow_le_pow_right (by omega) (by rw [List.length_take]; omega)
  have h3 : (256 : Nat) ^ 8 = 18446744073709551616 := by decide
  omega
theorem Rd.below {w w' : World} {r : Nat} {l : List UInt8} (h : Rd w r l) (hb : Below w.heap.size w w') : Rd w' r l := by
  obtain ⟨A, n, c, hB, hr, h1, h2⟩ := h
  exact ⟨A, n, c, hB.below hb hB.lt, hr.below (hb.mono (Nat.le_of_lt hB.lt)), h1, h2.1, fun hn ad e => (h2.2 hn ad e).of_eq (hb.block _ (h2.2 hn ad e).lt)⟩
theorem Rd.lt {w : World} {r : Nat} {l : List UInt8} (h : Rd w r l) : r < w.heap.size := by
  obtain ⟨A, n, c, hB, _⟩ := h
  exact hB.lt
/-- A reader that leans on blocks from B on alone. -/
def Far (B : Nat) (w : World) (r : Nat) (l : List UInt8) : Prop := ∀ w' : World, (∀ k, B ≤ k → k < w.heap.size → w'.heap[k]? = w.heap[k]?) → Rd w' r l
set_option maxHeartbeats 400000 in
theorem new_far (A : Option Addr) (n c : Nat) (l : List UInt8) (w : World) (hb : Reads w w.heap.size A n (u8s l)) (hn : n ≤ 1099511627776) :
    Calls Tryz.prog 97 #[.slice A n c] w fun e w' =>
      ∃ r, e = .returned (.pointer (some ⟨r, 0, none⟩)) ∧ w.heap.size ≤ r ∧ Far w.heap.size w' r l ∧ Below w.heap.size w w' := by
  obtain ⟨i0, hi0, hz0, hz1, hz2⟩ := info_parts info_u8
  have HL : Hid (l.length = n) := by have := hb.len; rw [u8s_length] at this; exact Lib.hid this
  go_enter Tryz.func97, Tryz.ntmps97
  go_wp2_with (first
    | (at_make
       refine wpList_make_blk _ rfl _ _ _ rfl 5 i0 (.int .u8 0) Tryz.underlying72 hi0 hz0 hz1 rfl _ _ _ _ n rfl rfl rfl rfl (by rw [hz2]; omega) (by unfold maxLen; omega) ?_
       intro w1 HG1 hb1 hs1
       have hb' := hb.below hb1)
    | (with_reducible refine wpList_copy_front rfl (.tmp 7) (.tmp 8) 72 72 rfl 5 Tryz.underlying72 (by kernel_rfl) _ _ _ _ _ _ rfl rfl 5 _ HG1.out w.heap.size (u8s l) hb' (u8s_one l) (by omega) (by simp) w.heap.size w hb1 (Nat.le_refl _) ?_
       intro w2 HG2 hb2 hs2 _))
  go_ret
  have h := HG2.out
  simp at h
  have e : w.heap.size + 1 = w2.heap.size := by omega
  have d1 : Blk (w2.alloc (.cells #[.slice (some ⟨w.heap.size, 0, none⟩) n n] 189)) (w.heap.size + 1) 189 [.slice (some ⟨w.heap.size, 0, none⟩) n n] := by
    rw [e]; exact Blk.new w2 _ [_]
  have d2 := h.alloc (.cells #[.slice (some ⟨w.heap.size, 0, none⟩) n n] 189)
  refine ⟨w.heap.size + 1, rfl, by omega, ?_, hb2.alloc (by omega) _⟩
  intro w' hw
  have f1 : Blk w' (w.heap.size + 1) 189 [.slice (some ⟨w.heap.size, 0, none⟩) n n] := (hw _ (by omega) d1.lt).trans d1
  have f2 : Blk w' w.heap.size 5 (u8s l) := (hw _ (by omega) d2.lt).trans d2
  refine ⟨some ⟨w.heap.size, 0, none⟩, n, n, f1, ?_, Nat.le_refl _, hn, fun _ ad e => by injection e with e; subst e; exact f2.typ⟩
  have h3 := Reads.of_blk f2
  rw [u8s_length, HL.out] at h3
  refine ⟨h3.1, fun hn0 => ?_⟩
  obtain ⟨ad, hA, _, hc⟩ := h3.2 hn0
  injection hA with hA
  subst hA
  exact ⟨_, rfl, by simp, hc⟩
theorem new_any (A : Option Addr) (n c : Nat) (l : List UInt8) (w : World) (hb : Reads w w.heap.size A n (u8s l)) (hn : n ≤ 1099511627776) :
    Calls Tryz.prog 97 #[.slice A n c] w fun e w' =>
      ∃ r, e = .returned (.pointer (some ⟨r, 0, none⟩)) ∧ w.heap.size ≤ r ∧ Rd w' r l ∧ Below w.heap.size w w' :=
  (new_far A n c l w hb hn).mono fun _ w' ⟨r, he, hr, hf, hw⟩ => ⟨r, he, hr, hf w' (fun _ _ _ => rfl), hw⟩
set_option maxHeartbeats 400000 in
theorem first_short (A : Option Addr) (n c k r : Nat) (w : World) (hr : Blk w r 189 [.slice A n c]) (h : n < k) :
    Calls Tryz.prog 121 #[.pointer (some ⟨r, 0, none⟩), .int .i64 k] w fun e w' => e = .returned (.tuple #[.int .u64 0, .bool false]) ∧ w = w' := by
  have hc : w.cell? ⟨r, 0, none⟩ = some (.slice A n c) := hr.cell 0
  clear hr
  go_enter Tryz.func121, Tryz.ntmps121
  go_wp2
  go_ret2
  exact ⟨rfl, rfl⟩
set_option maxHeartbeats 800000 in
theorem first_ok (A : Option Addr) (n c k r B : Nat) (l : List UInt8) (w : World) (hr : Blk w r 189 [.slice A n c]) (hb : Reads w B A n (u8s l)) (h : k ≤ n) (hk : k ≤ 8) :
    Calls Tryz.prog 121 #[.pointer (some ⟨r, 0, none⟩), .int .i64 k] w fun e w' => e = .returned (.tuple #[.int .u64 (num (l.take k)), .bool true]) ∧ w = w' := by
  have hc : w.cell? ⟨r, 0, none⟩ = some (.slice A n c) := hr.cell 0
  have HL : Hid (l.length = n) := by have := hb.len; rw [u8s_length] at this; exact Lib.hid this
  clear hr
  go_enter Tryz.func121, Tryz.ntmps121
  go_wp2
  go_loop [6, 16] (fun v i => ∃ (j X : Nat), j ≤ k ∧ i = .int .i64 j ∧ v = .int .u64 X ∧ X ≤ 18446744073709551615 ∧ Hid (X = num (l.take j))) (fun _ i => k - (intOf i).toNat)
  case atStart => exact ⟨0, 0, Nat.zero_le _, rfl, rfl, by omega, Lib.hid rfl⟩
  case round =>
    obtain ⟨j, X, hj, rfl, rfl, hX, HX⟩ := hrel
    by_cases hlt : j < k
    · obtain ⟨ad, hA, _, hcs⟩ := hb.2 (by omega)
      subst hA
      have hc2 := hcs j _ (u8s_at l j (by have := HL.out; omega))
      clear hcs hb
      go_wp2
      rw [or_step l j X HX.out (by have := HL.out; omega) (by omega)]
      go_round
      case rel => exact ⟨j + 1, _, by omega, by go_num, rfl, num_take_lt l _ (by omega), Lib.hid rfl⟩
      case measure => simp [intOf]; omega
    · go_wp2
      go_ret2
      obtain rfl : j = k := by omega
      exact ⟨by rw [← HX.out]; rfl, rfl⟩
/-- A cut off the front of what is left, as the walk spells it. -/
theorem rd_cut0 {w : World} {r n c k : Nat} {A : Option Addr} {l : List UInt8} (hB : Blk w r 189 [.slice A n c]) (hb : Reads w r A n (u8s l)) (hk : k ≤ n) (hn : n ≤ c) (hc : CapT w n c A) (A' : Option Addr) (hA : A' = if c = k then A else A.map (·.add k)) :
    Rd (w.setCell ⟨r, 0, none⟩ (.slice A' (n - k) (c - k))) r (l.drop k) := by
  refine ⟨A', n - k, c - k, by simpa using hB.set_ 0 (.slice A' (n - k) (c - k)), ?_, by omega, by have := hc.1; omega, fun hn0 ad e => ?_⟩
  · have h := hb.cut hk hn
    rw [← hA] at h
    have h2 := h.setCell (p := ⟨r, 0, none⟩) (Nat.le_refl _) (.slice A' (n - k) (c - k))
    rwa [show (u8s l).drop k = u8s (l.drop k) from by simp [u8s]] at h2
  · rw [e] at hA
    split at hA
    · exact (hc.2 (by omega) ad hA.symm).setCell _ _
    · cases hAA : A with
      | none => rw [hAA] at hA; simp at hA
      | some ad0 =>
        rw [hAA] at hA
        simp only [Option.map_some, Option.some.injEq] at hA
        subst hA
        rw [block_of_add]
        exact (hc.2 (by omega) ad0 hAA).setCell _ _
theorem rd_cut_eq {w : World} {r n c k : Nat} {A : Option Addr} {l : List UInt8} (hB : Blk w r 189 [.slice A n c]) (hb : Reads w r A n (u8s l)) (hk : k ≤ n) (hn : n ≤ c) (hc : CapT w n c A) (h : c = k) :
    Rd (w.setCell ⟨r, 0, none⟩ (.slice A (n - k) 0)) r (l.drop k) := by
  have := rd_cut0 hB hb hk hn hc A (by rw [if_pos h])
  rwa [show c - k = 0 by omega] at this
theorem rd_cut_ne {w : World} {r n c k : Nat} {A : Option Addr} {l : List UInt8} (hB : Blk w r 189 [.slice A n c]) (hb : Reads w r A n (u8s l)) (hk : k ≤ n) (hn : n ≤ c) (hc : CapT w n c A) (hk0 : 0 < k) (h : ¬ c = k) :
    Rd (w.setCell ⟨r, 0, none⟩ (.slice (Option.map (fun x => { block := x.block, off := x.off + k }) A) (n - k) (c - k))) r (l.drop k) := by
  refine rd_cut0 hB hb hk hn hc _ ?_
  rw [if_neg h]
  congr 1
  funext x
  unfold Addr.add
  rw [if_neg (by omega)]
set_option maxHeartbeats 400000 in
theorem number_end (r : Nat) (l : List UInt8) (w : World) (hr : Rd w r l) (h : l.length < 4) :
    Calls Tryz.prog 100 #[.pointer (some ⟨r, 0, none⟩)] w fun e w' => e = .returned (.tuple #[.int .i64 0, .int .i64 10]) ∧ w = w' := by
  obtain ⟨A, n, c, hB, hb, _⟩ := hr
  have hl := hb.len
  rw [u8s_length] at hl
  go_enter Tryz.func100, Tryz.ntmps100
  go_wp2_with fail
  refine (first_short A n c 4 r w hB (by omega)).mono ?_
  rintro e w' ⟨rfl, rfl⟩
  go_wp2
  go_ret2
  exact ⟨rfl, rfl⟩
set_option maxHeartbeats 400000 in
theorem number_form (r : Nat) (l : List UInt8) (w : World) (hr : Rd w r l) (h : 4 ≤ l.length) (hv : 1000000000 < num (l.take 4)) :
    Calls Tryz.prog 100 #[.pointer (some ⟨r, 0, none⟩)] w fun e w' => e = .returned (.tuple #[.int .i64 0, .int .i64 11]) ∧ w = w' := by
  obtain ⟨A, n, c, hB, hb, _⟩ := hr
  have hl := hb.len
  rw [u8s_length] at hl
  go_enter Tryz.func100, Tryz.ntmps100
  go_wp2_with fail
  refine (first_ok A n c 4 r r l w hB hb (by omega) (by omega)).mono ?_
  rintro e w' ⟨rfl, rfl⟩
  go_wp2
  go_ret2
  exact ⟨rfl, rfl⟩
set_option maxHeartbeats 400000 in
theorem number_ok (r : Nat) (l : List UInt8) (w : World) (hr : Rd w r l) (h : 4 ≤ l.length) (hv : num (l.take 4) ≤ 1000000000) :
    Calls Tryz.prog 100 #[.pointer (some ⟨r, 0, none⟩)] w fun e w' =>
      e = .returned (.tuple #[.int .i64 (num (l.take 4)), .int .i64 0]) ∧ Rd w' r (l.drop 4) ∧ w.grownBy w' (some r) := by
  obtain ⟨A, n, c, hB, hb, hn, hc⟩ := hr
  have hc1 := hc.1
  replace hc := Lib.hid hc
  have hl := hb.len
  rw [u8s_length] at hl
  have h4 : 4 ≤ n := by omega
  go_enter Tryz.func100, Tryz.ntmps100
  go_wp2_with fail
  refine (first_ok A n c 4 r r l w hB hb h4 (by omega)).mono ?_
  rintro e w' ⟨rfl, rfl⟩
  have hcell : w.cell? ⟨r, 0, none⟩ = some (.slice A n c) := hB.cell 0
  have hf : w.frozen? ⟨r, 0, none⟩ = false := hB.frozen 0
  have HB := Lib.hid hB
  have HL := Lib.hid hl
  clear hB hl h
  go_wp2
  all_goals
    go_ret2
    refine ⟨rfl, ?_, grownBy_setCell (World.grownBy.refl _ _) _ _⟩
    first
      | exact rd_cut_eq HB.out hb h4 hn hc.out (by assumption)
      | exact rd_cut_ne HB.out hb h4 hn hc.out (by omega) (by assumption)
/-- A number of 64 bits as a whole number. -/
def i64 (V : Nat) : Int := wrap64 (V : Int)
set_option maxHeartbeats 400000 in
theorem left_any (r : Nat) (l : List UInt8) (w : World) (hr : Rd w r l) :
    Calls Tryz.prog 99 #[.pointer (some ⟨r, 0, none⟩)] w fun e w' => e = .returned (.int .i64 l.length) ∧ w = w' := by
  obtain ⟨A, n, c, hB, hb, _⟩ := hr
  have HL := Lib.hid hb.len
  have hcell : w.cell? ⟨r, 0, none⟩ = some (.slice A n c) := hB.cell 0
  clear hB hb
  go_enter Tryz.func99, Tryz.ntmps99
  go_wp2
  go_ret
  exact ⟨by have := HL.out; rw [u8s_length] at this; rw [this]; rfl, rfl⟩
set_option maxHeartbeats 400000 in
theorem text_end (r : Nat) (l : List UInt8) (w : World) (hr : Rd w r l) (h : l.length < 4) :
    Calls Tryz.prog 98 #[.pointer (some ⟨r, 0, none⟩)] w fun e w' => e = .returned (.tuple #[.string (text []), .int .i64 10]) ∧ w = w' := by
  obtain ⟨A, n, c, hB, hb, _⟩ := hr
  have hl := hb.len
  rw [u8s_length] at hl
  go_enter Tryz.func98, Tryz.ntmps98
  go_wp2_with fail
  refine (first_short A n c 4 r w hB (by omega)).mono ?_
  rintro e w' ⟨rfl, rfl⟩
  go_wp2
  go_ret2
  exact ⟨rfl, rfl⟩
set_option maxHeartbeats 400000 in
theorem text_form (r : Nat) (l : List UInt8) (w : World) (hr : Rd w r l) (h : 4 ≤ l.length) (hv : 65536 < num (l.take 4)) :
    Calls Tryz.prog 98 #[.pointer (some ⟨r, 0, none⟩)] w fun e w' => e = .returned (.tuple #[.string (text []), .int .i64 11]) ∧ w = w' := by
  obtain ⟨A, n, c, hB, hb, _⟩ := hr
  have hl := hb.len
  rw [u8s_length] at hl
  go_enter Tryz.func98, Tryz.ntmps98
  go_wp2_with fail
  refine (first_ok A n c 4 r r l w hB hb (by omega) (by omega)).mono ?_
  rintro e w' ⟨rfl, rfl⟩
  go_wp2
  go_ret2
  exact ⟨rfl, rfl⟩
set_option maxHeartbeats 400000 in
theorem text_less (r : Nat) (l : List UInt8) (w : World) (hr : Rd w r l) (h : 4 ≤ l.length) (hv : num (l.take 4) ≤ 65536) (h2 : l.length < 4 + num (l.take 4)) :
    Calls Tryz.prog 98 #[.pointer (some ⟨r, 0, none⟩)] w fun e w' => e = .returned (.tuple #[.string (text []), .int .i64 10]) ∧ w = w' := by
  obtain ⟨A, n, c, hB, hb, hn, hc⟩ := hr
  have hc1 := hc.1
  replace hc := Lib.hid hc
  have hl := hb.len
  rw [u8s_length] at hl
  obtain ⟨V, HV⟩ : ∃ V, Hid (num (l.take 4) = V) := ⟨_, rfl⟩
  have hv' : V ≤ 65536 := by have := HV.out; omega
  have h2' : n < 4 + V := by have := HV.out; omega
  have h4 : 4 ≤ n := by omega
  have F := first_ok A n c 4 r r l w hB hb h4 (by omega)
  rw [HV.out] at F
  have HF := Lib.hid F
  have hcell : w.cell? ⟨r, 0, none⟩ = some (.slice A n c) := hB.cell 0
  clear hB hb hl F hv h2 h
  go_enter Tryz.func98, Tryz.ntmps98
  go_wp2_with fail
  refine (unhide HF).mono ?_
  rintro e w' ⟨rfl, rfl⟩
  go_wp2
  go_ret2
  exact ⟨rfl, rfl⟩
set_option maxHeartbeats 800000 in
theorem text_ok (r : Nat) (l : List UInt8) (w : World) (hr : Rd w r l) (h : 4 ≤ l.length) (hv : num (l.take 4) ≤ 65536) (h2 : 4 + num (l.take 4) ≤ l.length) :
    Calls Tryz.prog 98 #[.pointer (some ⟨r, 0, none⟩)] w fun e w' =>
      e = .returned (.tuple #[.string (text ((l.drop 4).take (num (l.take 4)))), .int .i64 0]) ∧ Rd w' r (l.drop (4 + num (l.take 4))) ∧ w.grownBy w' (some r) := by
  obtain ⟨A, n, c, hB, hb, hn, hc⟩ := hr
  have hc1 := hc.1
  replace hc := Lib.hid hc
  have hl := hb.len
  rw [u8s_length] at hl
  obtain ⟨V, HV⟩ : ∃ V, Hid (num (l.take 4) = V) := ⟨_, rfl⟩
  have hv' : V ≤ 65536 := by have := HV.out; omega
  have h2' : 4 + V ≤ n := by have := HV.out; omega
  have h4 : 4 ≤ n := by omega
  have F := first_ok A n c 4 r r l w hB hb h4 (by omega)
  rw [HV.out] at F
  rw [HV.out]
  have HF := Lib.hid F
  have hcell : w.cell? ⟨r, 0, none⟩ = some (.slice A n c) := hB.cell 0
  have hf : w.frozen? ⟨r, 0, none⟩ = false := hB.frozen 0
  have HB := Lib.hid hB
  have HL := Lib.hid hl
  clear hB hl F hv h2 h
  by_cases hc4 : c = 4
  · obtain rfl : c = 4 := hc4
    have hn4 : n = 4 := by omega
    have hV0 : V = 0 := by omega
    have k1 : (convert 72 9 (.slice A V 0)).run Tryz.prog w = .ok (.string (text ((l.drop 4).take V))) w := by
      have h0 : Reads w 0 A 0 (u8s []) := ⟨rfl, fun h => absurd h (by omega)⟩
      rw [hV0, List.take_zero]
      exact run_text Tryz.underlying72 Tryz.underlying5 Tryz.underlying9 h0
    have hc0 : V = 0 ∨ 0 < V := by omega
    have HN := Lib.hid hn4
    have HV0 := Lib.hid hV0
    clear hn4 hV0
    go_enter Tryz.func98, Tryz.ntmps98
    go_wp2_with fail
    refine (unhide HF).mono ?_
    rintro e w' ⟨rfl, rfl⟩
    go_wp2
    go_ret2
    exact ⟨rfl, rd_cut_eq HB.out hb h2' hn hc.out (by have := HV0.out; omega), grownBy_setCell (World.grownBy.refl _ _) _ _⟩
  · have hc4' : 4 < c := by omega
    have k1 : (convert 72 9 (.slice (Option.map (fun x => { block := x.block, off := x.off + 4 }) A) V (c - 4))).run Tryz.prog w = .ok (.string (text ((l.drop 4).take V))) w := by
      have h1 := (hb.cut h4 hn).take (k := V) (by omega)
      rw [if_neg hc4] at h1
      have e : Option.map (fun x => { block := x.block, off := x.off + 4 }) A = A.map (·.add 4) := by
        congr 1
      rw [e]
      rw [show ((u8s l).drop 4).take V = u8s ((l.drop 4).take V) from by simp [u8s]] at h1
      exact run_text Tryz.underlying72 Tryz.underlying5 Tryz.underlying9 h1
    go_enter Tryz.func98, Tryz.ntmps98
    go_wp2_with fail
    refine (unhide HF).mono ?_
    rintro e w' ⟨rfl, rfl⟩
    go_wp2
    all_goals
      go_ret2
      refine ⟨rfl, ?_, grownBy_setCell (World.grownBy.refl _ _) _ _⟩
      first
        | exact rd_cut_eq HB.out hb h2' hn hc.out (by assumption)
        | exact rd_cut0 HB.out hb h2' hn hc.out _ (by rw [if_neg (by assumption)])
end Go.Proofs.YtkdmfjpfanmgmaaGreatDoor
namespace Go.Proofs.YtkdmfjpfanmgmaaGreatDoor
open Go.RowKit Le
set_option maxRecDepth 100000
/-- A number off the front: what it is, the error, how many bytes are taken. -/
def rdNumber (l : List UInt8) : Int × Int × Nat :=
  if l.length < 4 then (0, 10, 0) else if 1000000000 < num (l.take 4) then (0, 11, 0) else ((num (l.take 4) : Int), 0, 4)
def rdInt (l : List UInt8) : Int × Int × Nat :=
  if l.length < 8 then (0, 10, 0) else (i64 (num (l.take 8)), 0, 8)
def rdText (l : List UInt8) : ByteArray × Int × Nat :=
  if l.length < 4 then (text [], 10, 0) else if 65536 < num (l.take 4) then (text [], 11, 0)
  else if l.length < 4 + num (l.take 4) then (text [], 10, 0) else (text ((l.drop 4).take (num (l.take 4))), 0, 4 + num (l.take 4))
theorem rdNumber_le (l : List UInt8) : (rdNumber l).2.2 ≤ l.length := by
  unfold rdNumber; split
  · simp
  · split <;> simp; omega
theorem rdText_le (l : List UInt8) : (rdText l).2.2 ≤ l.length := by
  unfold rdText; split
  · simp
  · split
    · simp
    · split <;> simp; omega
theorem number_all (r : Nat) (l : List UInt8) (w : World) (hr : Rd w r l) :
    Calls Tryz.prog 100 #[.pointer (some ⟨r, 0, none⟩)] w fun e w' =>
      e = .returned (.tuple #[.int .i64 (rdNumber l).1, .int .i64 (rdNumber l).2.1]) ∧ Rd w' r (l.drop (rdNumber l).2.2) ∧ w.grownBy w' (some r) := by
  unfold rdNumber
  by_cases h1 : l.length < 4
  · rw [if_pos h1]
    exact (number_end r l w hr h1).mono fun e w' ⟨he, hw⟩ => ⟨he, hw ▸ hr, hw ▸ World.grownBy.refl _ _⟩
  · rw [if_neg h1]
    by_cases h2 : 1000000000 < num (l.take 4)
    · rw [if_pos h2]
      exact (number_form r l w hr (by omega) h2).mono fun e w' ⟨he, hw⟩ => ⟨he, hw ▸ hr, hw ▸ World.grownBy.refl _ _⟩
    · rw [if_neg h2]
      exact number_ok r l w hr (by omega) (by omega)
theorem text_all (r : Nat) (l : List UInt8) (w : World) (hr : Rd w r l) :
    Calls Tryz.prog 98 #[.pointer (some ⟨r, 0, none⟩)] w fun e w' =>
      e = .returned (.tuple #[.string (rdText l).1, .int .i64 (rdText l).2.1]) ∧ Rd w' r (l.drop (rdText l).2.2) ∧ w.grownBy w' (some r) := by
  unfold rdText
  by_cases h1 : l.length < 4
  · rw [if_pos h1]
    exact (text_end r l w hr h1).mono fun e w' ⟨he, hw⟩ => ⟨he, hw ▸ hr, hw ▸ World.grownBy.refl _ _⟩
  · rw [if_neg h1]
    by_cases h2 : 65536 < num (l.take 4)
    · rw [if_pos h2]
      exact (text_form r l w hr (by omega) h2).mono fun e w' ⟨he, hw⟩ => ⟨he, hw ▸ hr, hw ▸ World.grownBy.refl _ _⟩
    · rw [if_neg h2]
      by_cases h3 : l.length < 4 + num (l.take 4)
      · rw [if_pos h3]
        exact (text_less r l w hr (by omega) (by omega) h3).mono fun e w' ⟨he, hw⟩ => ⟨he, hw ▸ hr, hw ▸ World.grownBy.refl _ _⟩
      · rw [if_neg h3]
        exact text_ok r l w hr (by omega) (by omega) (by omega)
end Go.Proofs.YtkdmfjpfanmgmaaGreatDoor
