/- The walks of the reference that reads bytes from the front. -/
import Derived.Test.YteohhgkehkmgcaaRead
namespace Go.Proofs.Yteohhgkehkmgcaa
open Go.RowKit Le
set_option maxRecDepth 100000

theorem num_drop (l : List UInt8) (j : Nat) (h : j < l.length) : num (l.drop j) = (l[j]'h).toNat + 256 * num (l.drop (j + 1)) := by
  rw [List.drop_eq_getElem_cons h]; rfl
theorem num_drop_lt (l : List UInt8) (j : Nat) (hl : l.length ≤ 8) (hj : 0 < j) : 256 * num (l.drop j) + 255 ≤ 18446744073709551615 := by
  have h1 := num_lt (l.drop j)
  have h2 : (256 : Nat) ^ (l.drop j).length ≤ 256 ^ 7 := Nat.pow_le_pow_right (by omega) (by rw [List.length_drop]; omega)
  have h3 : (256 : Nat) ^ 7 = 72057594037927936 := by decide
  omega

set_option maxHeartbeats 400000 in
theorem of_any (ad : Addr) (k c B : Nat) (l : List UInt8) (w : World) (hb : Reads w B (some ad) k (u8s l)) (hk : k ≤ 8) :
    Calls Try.prog 169 #[.slice (some ad) k c] w fun e w' => e = .returned (.int .u64 (num l)) ∧ w' = w := by
  have HL : Hid (l.length = k) := by have := hb.len; rw [u8s_length] at this; exact Lib.hid this
  go_enter Try.func169, Try.ntmps169
  go_wp2
  go_loop [3, 4] (fun v i => ∃ (j X : Nat), j ≤ k ∧ i = .int .i64 ((j : Int) - 1) ∧ v = .int .u64 X ∧ (0 < j → 256 * X + 255 ≤ 18446744073709551615) ∧ Hid (X = num (l.drop j))) (fun _ i => (intOf i + 1).toNat)
  case atStart =>
    refine ⟨k, 0, Nat.le_refl _, rfl, rfl, by omega, ?_⟩
    rw [List.drop_of_length_le (by have := HL.out; omega)]
    exact Lib.hid rfl
  case round =>
    obtain ⟨j, X, hj, rfl, rfl, hX, HX⟩ := hrel
    by_cases hlt : 0 < j
    · obtain ⟨i, rfl⟩ : ∃ i, j = i + 1 := ⟨j - 1, by omega⟩
      have hX' := hX (by omega)
      obtain ⟨_, hA, _, hcs⟩ := hb.2 (by omega)
      injection hA with hA
      subst hA
      have hc2 := hcs i _ (u8s_at l i (by have := HL.out; omega))
      have hlt2 := (l[i]'(by have := HL.out; omega)).toNat_lt
      rw [show ((i + 1 : Nat) : Int) - 1 = (i : Int) by omega]
      clear hcs hb hX
      go_wp2
      go_round
      case rel =>
        have hX2 := num_drop l i (by have := HL.out; omega)
        rw [← HX.out] at hX2
        refine ⟨i, _, by omega, rfl, by rw [show (256 * (X : Int) + ((l[i]'(by have := HL.out; omega)).toNat : Int)) = ((num (l.drop i) : Nat) : Int) by rw [hX2]; omega], ?_, Lib.hid rfl⟩
        intro h
        exact num_drop_lt l i (by have := HL.out; omega) h
      case measure => simp [intOf]
    · go_wp2
      go_ret
      obtain rfl : j = 0 := by omega
      exact ⟨by rw [show l = l.drop 0 from rfl, ← HX.out]; rfl, rfl⟩

/-- The reference's reader: block g holds the bytes' slice and the place. -/
def Ct (w : World) (g : Nat) (A : Option Addr) (n c i : Nat) : Prop := Blk w g 142 [.slice A n c, .int .i64 i]

set_option maxHeartbeats 400000 in
theorem cleft_any (g : Nat) (A : Option Addr) (n c i : Nat) (w : World) (h : Ct w g A n c i) (hi : i ≤ n) (hn : n ≤ 1099511627776) :
    Calls Try.prog 83 #[.pointer (some ⟨g, 0, none⟩)] w fun e w' => e = .returned (.int .i64 ((n - i : Nat) : Int)) ∧ ∃ m, w' = w.drewN m := by
  have h0 : w.cell? ⟨g, 0, none⟩ = some (.slice A n c) := h.cell 0
  have h1 : w.cell? ⟨g, 1, none⟩ = some (.int .i64 i) := h.cell 1
  clear h
  go_enter Try.func83, Try.ntmps83
  go_wp2
  go_quiet (fail)
  go_wp2
  go_ret
  exact ⟨by rw [Int.ofNat_sub hi]; rfl, _, rfl⟩

set_option maxHeartbeats 800000 in
theorem small_any (g : Nat) (A : Option Addr) (n c i k B : Nat) (l : List UInt8) (w : World) (h : Ct w g A n c i) (hb : Reads w B A n (u8s l)) (hi : i + k ≤ n) (hk : k ≤ 8) (hk0 : 0 < k) (hnc : n ≤ c) (hn : n ≤ 1099511627776) :
    Calls Try.prog 164 #[.pointer (some ⟨g, 0, none⟩), .int .i64 k] w fun e w' => e = .returned (.int .u64 (num ((l.drop i).take k))) ∧ ∃ m, w' = w.drewN m := by
  have hcut := (hb.cut (k := i) (by omega) hnc).take (k := k) (by omega)
  rw [if_neg (by omega), show ((u8s l).drop i).take k = u8s ((l.drop i).take k) from by simp [u8s]] at hcut
  obtain ⟨ad, rfl, _, _⟩ := hb.2 (by omega)
  have h0 : w.cell? ⟨g, 0, none⟩ = some (.slice (some ad) n c) := h.cell 0
  have h1 : w.cell? ⟨g, 1, none⟩ = some (.int .i64 i) := h.cell 1
  have hci : ¬ c = i := by omega
  have F := fun m => of_any (ad.add i) k (c - i) B _ (w.drewN m) (hcut.drewN m) hk
  have HF := Lib.hid F
  clear h hb hcut F
  go_enter Try.func164, Try.ntmps164
  go_wp2
  go_quiet ((go_at_call 169; exact Calls.quiet_of_same (HF.out _)))
  go_wp2
  go_ret
  exact ⟨rfl, _, rfl⟩

theorem grownBy_drewN {w0 w : World} {r : Option Nat} (h : w0.grownBy w r) (m : Nat) : w0.grownBy (w.drewN m) r := ⟨h.os, h.tape, h.output, h.size, h.block⟩
theorem ct_set {w : World} {g n c i j : Nat} {A : Option Addr} (h : Ct w g A n c i) (m : Nat) : Ct ((w.drewN m).setCell ⟨g, 1, none⟩ (.int .i64 j)) g A n c j := by
  have := (Blk.drewN h m).set_ 1 (.int .i64 j)
  exact this

set_option maxHeartbeats 800000 in
theorem cnumber_end (g : Nat) (A : Option Addr) (n c i : Nat) (w : World) (h : Ct w g A n c i) (hi : i ≤ n) (hn : n ≤ 1099511627776) (he : n < i + 4) :
    Calls Try.prog 148 #[.pointer (some ⟨g, 0, none⟩)] w fun e w' => e = .returned (.tuple #[.int .i64 0, .int .i64 10]) ∧ ∃ m, w' = w.drewN m := by
  have F := Lib.hid (cleft_any g A n c i w h hi hn)
  have hz : ((n - i : Nat) : Int) < 4 := by omega
  clear h
  go_enter Try.func148, Try.ntmps148
  go_wp2_with fail
  refine (unhide F).mono ?_
  rintro e w' ⟨rfl, m, rfl⟩
  go_wp2
  go_ret2
  exact ⟨rfl, _, rfl⟩

set_option maxHeartbeats 800000 in
theorem cnumber_form (g : Nat) (A : Option Addr) (n c i : Nat) (l : List UInt8) (w : World) (h : Ct w g A n c i) (B : Nat) (hb : Reads w B A n (u8s l)) (hi : i + 4 ≤ n) (hnc : n ≤ c) (hn : n ≤ 1099511627776) (hv : 1000000000 < num ((l.drop i).take 4)) :
    Calls Try.prog 148 #[.pointer (some ⟨g, 0, none⟩)] w fun e w' => e = .returned (.tuple #[.int .i64 0, .int .i64 11]) ∧ ∃ m, w' = w.drewN m := by
  have F := Lib.hid (cleft_any g A n c i w h (by omega) hn)
  have G := fun m => small_any g A n c i 4 B l (w.drewN m) (Blk.drewN h m) (hb.drewN m) hi (by omega) (by omega) hnc hn
  have HG := Lib.hid G
  obtain ⟨V, HV⟩ : ∃ V, Hid (num ((l.drop i).take 4) = V) := ⟨_, rfl⟩
  have hv' : 1000000000 < V := by have := HV.out; omega
  have hz : 4 ≤ ((n - i : Nat) : Int) := by omega
  rw [HV.out] at HG
  clear h hb G hv
  go_enter Try.func148, Try.ntmps148
  go_wp2_with fail
  refine (unhide F).mono ?_
  rintro e w' ⟨rfl, m, rfl⟩
  go_wp2_with fail
  refine (unhide HG m).mono ?_
  rintro e w' ⟨rfl, m2, rfl⟩
  go_wp2
  go_ret2
  exact ⟨rfl, _, rfl⟩

set_option maxHeartbeats 800000 in
theorem cint_end (g : Nat) (A : Option Addr) (n c i : Nat) (w : World) (h : Ct w g A n c i) (hi : i ≤ n) (hn : n ≤ 1099511627776) (he : n < i + 8) :
    Calls Try.prog 168 #[.pointer (some ⟨g, 0, none⟩)] w fun e w' => e = .returned (.tuple #[.int .i64 0, .int .i64 10]) ∧ ∃ m, w' = w.drewN m := by
  have F := Lib.hid (cleft_any g A n c i w h hi hn)
  have hz : ((n - i : Nat) : Int) < 8 := by omega
  clear h
  go_enter Try.func168, Try.ntmps168
  go_wp2_with fail
  refine (unhide F).mono ?_
  rintro e w' ⟨rfl, m, rfl⟩
  go_wp2
  go_ret2
  exact ⟨rfl, _, rfl⟩

set_option maxHeartbeats 800000 in
theorem ctext_end (g : Nat) (A : Option Addr) (n c i : Nat) (w : World) (h : Ct w g A n c i) (hi : i ≤ n) (hn : n ≤ 1099511627776) (he : n < i + 4) :
    Calls Try.prog 153 #[.pointer (some ⟨g, 0, none⟩)] w fun e w' => e = .returned (.tuple #[.string (text []), .int .i64 10]) ∧ ∃ m, w' = w.drewN m := by
  have F := Lib.hid (cleft_any g A n c i w h hi hn)
  have hz : ((n - i : Nat) : Int) < 4 := by omega
  clear h
  go_enter Try.func153, Try.ntmps153
  go_wp2_with fail
  refine (unhide F).mono ?_
  rintro e w' ⟨rfl, m, rfl⟩
  go_wp2
  go_ret2
  exact ⟨rfl, _, rfl⟩

set_option maxHeartbeats 800000 in
theorem ctext_form (g : Nat) (A : Option Addr) (n c i : Nat) (l : List UInt8) (w : World) (h : Ct w g A n c i) (B : Nat) (hb : Reads w B A n (u8s l)) (hi : i + 4 ≤ n) (hnc : n ≤ c) (hn : n ≤ 1099511627776) (hv : 65536 < num ((l.drop i).take 4)) :
    Calls Try.prog 153 #[.pointer (some ⟨g, 0, none⟩)] w fun e w' => e = .returned (.tuple #[.string (text []), .int .i64 11]) ∧ ∃ m, w' = w.drewN m := by
  have F := Lib.hid (cleft_any g A n c i w h (by omega) hn)
  have G := fun m => small_any g A n c i 4 B l (w.drewN m) (Blk.drewN h m) (hb.drewN m) hi (by omega) (by omega) hnc hn
  have HG := Lib.hid G
  obtain ⟨V, HV⟩ : ∃ V, Hid (num ((l.drop i).take 4) = V) := ⟨_, rfl⟩
  have hv' : 65536 < V := by have := HV.out; omega
  have hz : 4 ≤ ((n - i : Nat) : Int) := by omega
  rw [HV.out] at HG
  clear h hb G hv
  go_enter Try.func153, Try.ntmps153
  go_wp2_with fail
  refine (unhide F).mono ?_
  rintro e w' ⟨rfl, m, rfl⟩
  go_wp2_with fail
  refine (unhide HG m).mono ?_
  rintro e w' ⟨rfl, m2, rfl⟩
  go_wp2
  go_ret2
  exact ⟨rfl, _, rfl⟩

set_option maxHeartbeats 800000 in
theorem cnumber_ok (g : Nat) (A : Option Addr) (n c i : Nat) (l : List UInt8) (w : World) (h : Ct w g A n c i) (B : Nat) (hb : Reads w B A n (u8s l)) (hi : i + 4 ≤ n) (hnc : n ≤ c) (hn : n ≤ 1099511627776) (hv : num ((l.drop i).take 4) ≤ 1000000000) :
    Calls Try.prog 148 #[.pointer (some ⟨g, 0, none⟩)] w fun e w' =>
      e = .returned (.tuple #[.int .i64 (num ((l.drop i).take 4)), .int .i64 0]) ∧ Ct w' g A n c (i + 4) ∧ w.grownBy w' (some g) := by
  have F := Lib.hid (cleft_any g A n c i w h (by omega) hn)
  have G := fun m => small_any g A n c i 4 B l (w.drewN m) (Blk.drewN h m) (hb.drewN m) hi (by omega) (by omega) hnc hn
  have HG := Lib.hid G
  have C := fun m => ct_set (j := i + 4) h m
  have HC := Lib.hid C
  have hc : ∀ m, (w.drewN m).cell? ⟨g, 1, none⟩ = some (.int .i64 i) := fun m => h.cell 1
  have hf : ∀ m, (w.drewN m).frozen? ⟨g, 1, none⟩ = false := fun m => h.frozen 1
  obtain ⟨V, HV⟩ : ∃ V, Hid (num ((l.drop i).take 4) = V) := ⟨_, rfl⟩
  have hv' : V ≤ 1000000000 := by have := HV.out; omega
  have hz : 4 ≤ ((n - i : Nat) : Int) := by omega
  rw [HV.out] at HG ⊢
  clear h hb G hv C
  go_enter Try.func148, Try.ntmps148
  go_wp2_with fail
  refine (unhide F).mono ?_
  rintro e w' ⟨rfl, m, rfl⟩
  go_wp2_with fail
  refine (unhide HG m).mono ?_
  rintro e w' ⟨rfl, m2, rfl⟩
  go_wp2
  go_ret2
  exact ⟨rfl, unhide HC _, grownBy_setCell (grownBy_drewN (World.grownBy.refl _ _) _) _ _⟩

set_option maxHeartbeats 800000 in
theorem cint_ok (g : Nat) (A : Option Addr) (n c i : Nat) (l : List UInt8) (w : World) (h : Ct w g A n c i) (B : Nat) (hb : Reads w B A n (u8s l)) (hi : i + 8 ≤ n) (hnc : n ≤ c) (hn : n ≤ 1099511627776) :
    Calls Try.prog 168 #[.pointer (some ⟨g, 0, none⟩)] w fun e w' =>
      e = .returned (.tuple #[.int .i64 (i64 (num ((l.drop i).take 8))), .int .i64 0]) ∧ Ct w' g A n c (i + 8) ∧ w.grownBy w' (some g) := by
  have F := Lib.hid (cleft_any g A n c i w h (by omega) hn)
  have G := fun m => small_any g A n c i 8 B l (w.drewN m) (Blk.drewN h m) (hb.drewN m) hi (by omega) (by omega) hnc hn
  have HG := Lib.hid G
  have C := fun m => ct_set (j := i + 8) h m
  have HC := Lib.hid C
  have hc : ∀ m, (w.drewN m).cell? ⟨g, 1, none⟩ = some (.int .i64 i) := fun m => h.cell 1
  have hf : ∀ m, (w.drewN m).frozen? ⟨g, 1, none⟩ = false := fun m => h.frozen 1
  have hz : 8 ≤ ((n - i : Nat) : Int) := by omega
  clear h hb G C
  go_enter Try.func168, Try.ntmps168
  go_wp2_with fail
  refine (unhide F).mono ?_
  rintro e w' ⟨rfl, m, rfl⟩
  go_wp2_with fail
  refine (unhide HG m).mono ?_
  rintro e w' ⟨rfl, m2, rfl⟩
  go_wp2
  go_ret2
  exact ⟨rfl, unhide HC _, grownBy_setCell (grownBy_drewN (World.grownBy.refl _ _) _) _ _⟩

set_option maxHeartbeats 800000 in
theorem ctext_less (g : Nat) (A : Option Addr) (n c i : Nat) (l : List UInt8) (w : World) (h : Ct w g A n c i) (B : Nat) (hb : Reads w B A n (u8s l)) (hi : i + 4 ≤ n) (hnc : n ≤ c) (hn : n ≤ 1099511627776) (hv : num ((l.drop i).take 4) ≤ 65536) (hlt : n < i + 4 + num ((l.drop i).take 4)) :
    Calls Try.prog 153 #[.pointer (some ⟨g, 0, none⟩)] w fun e w' => e = .returned (.tuple #[.string (text []), .int .i64 10]) ∧ ∃ m, w' = w.drewN m := by
  have F := Lib.hid (fun m => cleft_any g A n c i (w.drewN m) (Blk.drewN h m) (by omega) hn)
  have G := fun m => small_any g A n c i 4 B l (w.drewN m) (Blk.drewN h m) (hb.drewN m) hi (by omega) (by omega) hnc hn
  have HG := Lib.hid G
  obtain ⟨V, HV⟩ : ∃ V, Hid (num ((l.drop i).take 4) = V) := ⟨_, rfl⟩
  have hv' : V ≤ 65536 := by have := HV.out; omega
  have hz : 4 ≤ ((n - i : Nat) : Int) := by omega
  have hz2 : ((n - i : Nat) : Int) - 4 < V := by have := HV.out; omega
  rw [HV.out] at HG
  clear h hb G hv hlt
  go_enter Try.func153, Try.ntmps153
  go_wp2_with fail
  refine (unhide F 0).mono ?_
  rintro e w' ⟨rfl, m, rfl⟩
  go_wp2_with fail
  refine (unhide HG _).mono ?_
  rintro e w' ⟨rfl, m2, rfl⟩
  go_wp2_with fail
  refine (unhide F _).mono ?_
  rintro e w' ⟨rfl, m3, rfl⟩
  go_wp2
  go_ret2
  exact ⟨rfl, _, rfl⟩

set_option maxHeartbeats 1600000 in
theorem ctext_ok (g : Nat) (A : Option Addr) (n c i : Nat) (l : List UInt8) (w : World) (h : Ct w g A n c i) (B : Nat) (hb : Reads w B A n (u8s l)) (hi : i + 4 ≤ n) (hnc : n ≤ c) (hn : n ≤ 1099511627776) (hv : num ((l.drop i).take 4) ≤ 65536) (hlt : i + 4 + num ((l.drop i).take 4) ≤ n) :
    Calls Try.prog 153 #[.pointer (some ⟨g, 0, none⟩)] w fun e w' =>
      e = .returned (.tuple #[.string (text ((l.drop (i + 4)).take (num ((l.drop i).take 4)))), .int .i64 0]) ∧ Ct w' g A n c (i + 4 + num ((l.drop i).take 4)) ∧ w.grownBy w' (some g) := by
  have F := Lib.hid (fun m => cleft_any g A n c i (w.drewN m) (Blk.drewN h m) (by omega) hn)
  have G := fun m => small_any g A n c i 4 B l (w.drewN m) (Blk.drewN h m) (hb.drewN m) hi (by omega) (by omega) hnc hn
  have HG := Lib.hid G
  obtain ⟨V, HV⟩ : ∃ V, Hid (num ((l.drop i).take 4) = V) := ⟨_, rfl⟩
  have hv' : V ≤ 65536 := by have := HV.out; omega
  have hz : 4 ≤ ((n - i : Nat) : Int) := by omega
  have hz2 : (V : Int) ≤ ((n - i : Nat) : Int) - 4 := by have := HV.out; omega
  have hz3 : i + 4 + V ≤ n := by have := HV.out; omega
  rw [HV.out] at HG ⊢
  have C := fun m => ct_set (j := i + 4 + V) h m
  have HC := Lib.hid C
  have hc : ∀ m, (w.drewN m).cell? ⟨g, 1, none⟩ = some (.int .i64 i) := fun m => h.cell 1
  have hc0 : ∀ m, (w.drewN m).cell? ⟨g, 0, none⟩ = some (.slice A n c) := fun m => h.cell 0
  have hf : ∀ m, (w.drewN m).frozen? ⟨g, 1, none⟩ = false := fun m => h.frozen 1
  have hcut := (hb.cut (k := i + 4) (by omega) hnc).take (k := V) (by omega)
  rw [show ((u8s l).drop (i + 4)).take V = u8s ((l.drop (i + 4)).take V) from by simp [u8s]] at hcut
  have k1 := fun m => run_text (P := Try.prog) (c := c - (i + 4)) Try.underlying34 Try.underlying5 Try.underlying9 (hcut.drewN m)
  obtain ⟨ad, rfl, _, _⟩ := hb.2 (by omega)
  by_cases hce : c = i + 4
  · rw [if_pos hce] at k1
    subst hce
    rw [Nat.sub_self] at k1
    clear h hb G hv hlt C hcut
    go_enter Try.func153, Try.ntmps153
    go_wp2_with fail
    refine (unhide F 0).mono ?_
    rintro e w' ⟨rfl, m, rfl⟩
    go_wp2_with fail
    refine (unhide HG _).mono ?_
    rintro e w' ⟨rfl, m2, rfl⟩
    go_wp2_with fail
    refine (unhide F _).mono ?_
    rintro e w' ⟨rfl, m3, rfl⟩
    go_wp2
    have e1 : IntKind.i64.wrap ((i : Int) + 4) = (i : Int) + 4 := IntWalk.i64_in _ (by omega)
    have e2 : IntKind.i64.wrap (V : Int) = (V : Int) := IntWalk.i64_in _ (by omega)
    have e3 : IntKind.i64.wrap ((i : Int) + 4 + (V : Int)) = (i : Int) + 4 + (V : Int) := IntWalk.i64_in _ (by omega)
    have e4 : ((i : Int) + 4).toNat = i + 4 := by omega
    have e5 : ((i : Int) + 4 + (V : Int)).toNat = i + 4 + V := by omega
    have e6 : 0 ≤ (i : Int) + 4 := by omega
    have e7 : (i : Int) + 4 ≤ (i : Int) + 4 + (V : Int) := by omega
    have e8 : (i : Int) + 4 + (V : Int) ≤ ((i + 4 : Nat) : Int) := by omega
    have e9 : i + 4 + V - (i + 4) = V := by omega
    go_quiet (fail)
    clear e1 e2 e3 e4 e5 e6 e7 e8 e9
    go_wp2
    go_ret2
    exact ⟨rfl, unhide HC _, grownBy_setCell (grownBy_drewN (World.grownBy.refl _ _) _) _ _⟩
  · rw [if_neg hce] at k1
    have ea : (some ad).map (·.add (i + 4)) = some { block := ad.block, off := ad.off + (i + 3 + 1) } := by simp [Addr.add]
    rw [ea] at k1
    clear ea
    clear h hb G hv hlt C hcut
    go_enter Try.func153, Try.ntmps153
    go_wp2_with fail
    refine (unhide F 0).mono ?_
    rintro e w' ⟨rfl, m, rfl⟩
    go_wp2_with fail
    refine (unhide HG _).mono ?_
    rintro e w' ⟨rfl, m2, rfl⟩
    go_wp2_with fail
    refine (unhide F _).mono ?_
    rintro e w' ⟨rfl, m3, rfl⟩
    go_wp2
    have e1 : IntKind.i64.wrap ((i : Int) + 4) = (i : Int) + 4 := IntWalk.i64_in _ (by omega)
    have e2 : IntKind.i64.wrap (V : Int) = (V : Int) := IntWalk.i64_in _ (by omega)
    have e3 : IntKind.i64.wrap ((i : Int) + 4 + (V : Int)) = (i : Int) + 4 + (V : Int) := IntWalk.i64_in _ (by omega)
    have e4 : ((i : Int) + 4).toNat = i + 4 := by omega
    have e5 : ((i : Int) + 4 + (V : Int)).toNat = i + 4 + V := by omega
    have e6 : 0 ≤ (i : Int) + 4 := by omega
    have e7 : (i : Int) + 4 ≤ (i : Int) + 4 + (V : Int) := by omega
    have e8 : (i : Int) + 4 + (V : Int) ≤ (c : Int) := by omega
    have e9 : i + 4 + V - (i + 4) = V := by omega
    go_quiet (fail)
    clear e1 e2 e3 e4 e5 e6 e7 e8 e9
    go_wp2
    go_ret2
    exact ⟨rfl, unhide HC _, grownBy_setCell (grownBy_drewN (World.grownBy.refl _ _) _) _ _⟩
end Go.Proofs.Yteohhgkehkmgcaa
