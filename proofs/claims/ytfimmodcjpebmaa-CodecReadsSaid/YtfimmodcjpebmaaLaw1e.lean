/- The walk of the statement that bytes are read from the front as the document says. -/
import Derived.Test.YtfimmodcjpebmaaBoth
namespace Go.Proofs.Ytfimmodcjpebmaa
open Go.RowKit Le

/-- What the loop keeps: the two readers stand at one place; the bytes that were lent lie as they lay. -/
structure Keep (w0 wr : World) (r g : Nat) (A : Option Addr) (n c : Nat) (l : List UInt8) (i : Nat) : Prop where
  le : i ≤ n
  rd : Rd wr r (l.drop i)
  ct : Ct wr g A n c i
  reads : Reads wr w0.heap.size A n (u8s l)
  lent : Blk wr w0.heap.size 5 (u8s (l ++ marks))
  below : Below w0.heap.size w0 wr
  ne : r ≠ g
  far : w0.heap.size < r ∧ w0.heap.size < g
  apart : r < g

theorem Keep.rdStep {w0 wr w' : World} {r g : Nat} {A : Option Addr} {n c : Nat} {l : List UInt8} {i k : Nat} (h : Keep w0 wr r g A n c l i) (hR : Rd w' r ((l.drop i).drop k)) (hg : wr.grownBy w' (some r)) :
    Ct w' g A n c i ∧ Reads w' w0.heap.size A n (u8s l) ∧ Blk w' w0.heap.size 5 (u8s (l ++ marks)) ∧ Below w0.heap.size w0 w' ∧ Rd w' r (l.drop (i + k)) := by
  obtain ⟨h1, h2⟩ := h.far
  refine ⟨Blk.grown h.ct hg (by intro e; injection e with e; exact h.ne e.symm), h.reads.grown hg h.below.size (by intro k hk; injection hk with hk; omega), h.lent.grown hg (by intro e; injection e with e; omega),
    h.below.grown hg h.below.size (by intro k hk; injection hk with hk; omega), ?_⟩
  rwa [List.drop_drop] at hR
theorem Keep.ctStep {w0 w1 w' : World} {r g : Nat} {A : Option Addr} {n c : Nat} {l : List UInt8} {j : Nat} (hj : j ≤ n) (hR : Rd w1 r (l.drop j)) (hr : Reads w1 w0.heap.size A n (u8s l)) (hX : Blk w1 w0.heap.size 5 (u8s (l ++ marks)))
    (hb : Below w0.heap.size w0 w1) (hh : r ≠ g ∧ (w0.heap.size < r ∧ w0.heap.size < g) ∧ r < g) (hC : Ct w' g A n c j) (hg : w1.grownBy w' (some g)) : Keep w0 w' r g A n c l j := by
  obtain ⟨hne, hfar, hap⟩ := hh
  exact ⟨hj, hR.grown_ hg hap, hC, hr.grown hg hb.size (by intro k hk; injection hk with hk; omega), hX.grown hg (by intro e; injection e with e; omega), hb.grown hg hb.size (by intro k hk; injection hk with hk; omega), hne, hfar, hap⟩

theorem Keep.drewN {w0 wr : World} {r g : Nat} {A : Option Addr} {n c : Nat} {l : List UInt8} {i : Nat} (h : Keep w0 wr r g A n c l i) (x : Nat) : Keep w0 (wr.drewN x) r g A n c l i :=
  ⟨h.le, by obtain ⟨A, n, c, hB, hr, h1, h2⟩ := h.rd; exact ⟨A, n, c, hB.drewN x, hr.drewN x, h1, h2⟩, Blk.drewN h.ct x, h.reads.drewN x, h.lent.drewN x, ⟨h.below.os, h.below.tape, h.below.output, h.below.size, h.below.block⟩, h.ne, h.far, h.apart⟩

set_option maxRecDepth 100000 in
set_option maxHeartbeats 3200000 in
theorem codecReads_small (A : Option Addr) (n c : Nat) (l : List UInt8) (B : Option Addr) (m d : Nat) (ks : List Int) (w : World) (hb : Reads w w.heap.size A n (u8s l)) (hnc : n ≤ c) (hk : Reads w w.heap.size B m (ks.map (Value.int .i64))) (hn : n ≤ 262144) (hm : m ≤ 1000) :
    Calls Try.prog 7 #[.slice A n c, .slice B m d] w fun e w' => e = .returned (.bool true) ∧ Below w.heap.size w w' := by
  have HL : Hid (l.length = n) := Lib.hid (reads_length hb)
  go_enter Try.func7, Try.ntmps7
  go_wp2_with fail
  refine (lend_any A n c l w hb (by omega)).mono ?_
  rintro e w1 ⟨rfl, hX, hw1⟩
  have HX := Lib.hid hX
  have z1 := hX.lt
  have r1 : Reads w1 w1.heap.size (some ⟨w.heap.size, 0, none⟩) n (u8s l) := by
    have h := hX.reads (n := n) (by have := HL.out; simp; omega)
    rwa [u8s_append, List.take_left' (by have := HL.out; simpa using this)] at h
  have HB1 := Lib.hid (hb.below hw1)
  have HK1 := Lib.hid (hk.below hw1)
  clear hX hb hk
  go_wp2_with fail
  refine (new_any _ n (n + 2) l w1 r1 (by omega)).mono ?_
  rintro e w2 ⟨r, rfl, hr, hR, hw2⟩
  have z2 := hw2.size
  have hR3 := hR.lt
  have HKeep : Hid (Keep w (w2.alloc (.cells #[.slice A n c, .int .i64 0] 46)) r w2.heap.size A n c l 0) := by
    have hbb : Below w.heap.size w w2 := hw1.trans (hw2.mono (by omega))
    exact ⟨Nat.zero_le _, hR.below ((Below.refl _ _).alloc (Nat.le_refl _) _), Blk.new w2 _ [_, _], (HB1.out.below (hw2.mono (by omega))).alloc (by omega) _, (HX.out.below hw2 z1).alloc _, hbb.alloc (by omega) _, by omega, ⟨by omega, by omega⟩, hR3⟩
  have HK2 : Hid (Reads (w2.alloc (.cells #[.slice A n c, .int .i64 0] 46)) w.heap.size B m (ks.map (Value.int .i64))) := (HK1.out.below (hw2.mono (by omega))).alloc (by omega) _
  clear HX HB1 HK1 hw1 hw2 hR r1
  go_wp2
  go_loopw [8] (fun i wr => ∃ j q : Nat, j ≤ m ∧ i = .int .i64 j ∧ Hid (Keep w wr r w2.heap.size A n c l q) ∧ Hid (Reads wr w.heap.size B m (ks.map (Value.int .i64)))) (fun i _ => m - (intOf i).toNat)
  case atStart => exact ⟨0, 0, Nat.zero_le _, rfl, HKeep, HK2⟩
  case round =>
    obtain ⟨j, q, hj, rfl, HKq0, HKK0⟩ := hrel
    clear HKeep HK2
    have hq := HKq0.out.le
    have e1 : (l.drop q).length = n - q := by rw [List.length_drop, HL.out]
    have E1 := Lib.hid e1
    clear e1
    by_cases hlt : j < m
    · have hLt := Lib.hid hlt
      go_wp2_with fail
      refine (left_any r _ wr HKq0.out.rd).mono ?_
      rintro e w' ⟨rfl, rfl⟩
      rw [E1.out]
      go_wp2_with fail
      refine (cleft_any _ A n c q wr HKq0.out.ct hq (by omega)).mono ?_
      rintro e w' ⟨rfl, x, rfl⟩
      obtain ⟨ad, hA, _, hcs⟩ := HKK0.out.2 (by omega)
      have hks : j < ks.length := by have := HKK0.out.1; rw [List.length_map] at this; omega
      have hcell : (wr.drewN x).cell? (ad.add j) = some (.int .i64 (ks[j]'hks)) := hcs j _ (by simp [hks])
      obtain ⟨K, HKv⟩ : ∃ K, Hid (ks[j]'hks = K) := ⟨_, rfl⟩
      rw [HKv.out] at hcell
      have HKq : Hid (Keep w (wr.drewN x) r w2.heap.size A n c l q) := HKq0.out.drewN x
      have HKK : Hid (Reads (wr.drewN x) w.heap.size B m (ks.map (Value.int .i64))) := HKK0.out.drewN x
      obtain ⟨wr2, hwr2⟩ : ∃ wr2, wr2 = wr.drewN x := ⟨_, rfl⟩
      rw [← hwr2] at hcell HKq HKK ⊢
      clear hwr2 hcs HKq0 HKK0
      subst hA
      by_cases hK1 : K = 1
      · subst hK1
        go_wp2_with fail
        refine (number_all r _ wr2 HKq.out.rd).mono ?_
        rintro e w3 ⟨rfl, hR3, hg3⟩
        obtain ⟨c3, r3, x3, b3, d3⟩ := HKq.out.rdStep hR3 hg3
        have HK3 : Hid (Reads w3 w.heap.size (some ad) m (ks.map (Value.int .i64))) := HKK.out.grown hg3 HKq.out.below.size (by intro k hk; injection hk with hk; have := HKq.out.far.1; omega)
        obtain ⟨C3, R3, X3, B3, D3⟩ := And.intro (Lib.hid c3) (And.intro (Lib.hid r3) (And.intro (Lib.hid x3) (And.intro (Lib.hid b3) (Lib.hid d3))))
        clear hR3 hg3 c3 r3 x3 b3 d3
        go_wp2_with fail
        refine (cnumber_all _ A n c q l w3 C3.out _ R3.out HKq.out.le hnc (by omega)).mono ?_
        rintro e w4 ⟨rfl, hC4, hg4⟩
        have HKq4 := Lib.hid (Keep.ctStep (by have h1 := rdNumber_le (l.drop q); rw [List.length_drop, HL.out] at h1; have := HKq.out.le; omega) D3.out R3.out X3.out B3.out ⟨HKq.out.ne, HKq.out.far, HKq.out.apart⟩ hC4 hg4)
        have HK4 : Hid (Reads w4 w.heap.size (some ad) m (ks.map (Value.int .i64))) := HK3.out.grown hg4 B3.out.size (by intro k hk; injection hk with hk; have := HKq.out.far.2; omega)
        clear hC4 hg4 C3 R3 X3 B3 D3 HK3 HKq HKK
        go_wp2
        go_roundw
        case rel => exact ⟨j + 1, _, by omega, by go_num, HKq4, HK4⟩
        case measure => simp [intOf]; omega
      · by_cases hK2 : K = 2
        · subst hK2
          go_wp2_with fail
          refine (int_all r _ wr2 HKq.out.rd).mono ?_
          rintro e w3 ⟨rfl, hR3, hg3⟩
          obtain ⟨c3, r3, x3, b3, d3⟩ := HKq.out.rdStep hR3 hg3
          have HK3 : Hid (Reads w3 w.heap.size (some ad) m (ks.map (Value.int .i64))) := HKK.out.grown hg3 HKq.out.below.size (by intro k hk; injection hk with hk; have := HKq.out.far.1; omega)
          obtain ⟨C3, R3, X3, B3, D3⟩ := And.intro (Lib.hid c3) (And.intro (Lib.hid r3) (And.intro (Lib.hid x3) (And.intro (Lib.hid b3) (Lib.hid d3))))
          clear hR3 hg3 c3 r3 x3 b3 d3
          go_wp2_with fail
          refine (cint_all _ A n c q l w3 C3.out _ R3.out HKq.out.le hnc (by omega)).mono ?_
          rintro e w4 ⟨rfl, hC4, hg4⟩
          have HKq4 := Lib.hid (Keep.ctStep (by have h1 := rdInt_le (l.drop q); rw [List.length_drop, HL.out] at h1; have := HKq.out.le; omega) D3.out R3.out X3.out B3.out ⟨HKq.out.ne, HKq.out.far, HKq.out.apart⟩ hC4 hg4)
          have HK4 : Hid (Reads w4 w.heap.size (some ad) m (ks.map (Value.int .i64))) := HK3.out.grown hg4 B3.out.size (by intro k hk; injection hk with hk; have := HKq.out.far.2; omega)
          clear hC4 hg4 C3 R3 X3 B3 D3 HK3 HKq HKK
          go_wp2
          go_roundw
          case rel => exact ⟨j + 1, _, by omega, by go_num, HKq4, HK4⟩
          case measure => simp [intOf]; omega
        · have t1 : (K == 1) = false := by simpa using hK1
          have t2 : (K == 2) = false := by simpa using hK2
          go_wp2_with fail
          refine (text_all r _ wr2 HKq.out.rd).mono ?_
          rintro e w3 ⟨rfl, hR3, hg3⟩
          obtain ⟨c3, r3, x3, b3, d3⟩ := HKq.out.rdStep hR3 hg3
          have HK3 : Hid (Reads w3 w.heap.size (some ad) m (ks.map (Value.int .i64))) := HKK.out.grown hg3 HKq.out.below.size (by intro k hk; injection hk with hk; have := HKq.out.far.1; omega)
          obtain ⟨C3, R3, X3, B3, D3⟩ := And.intro (Lib.hid c3) (And.intro (Lib.hid r3) (And.intro (Lib.hid x3) (And.intro (Lib.hid b3) (Lib.hid d3))))
          clear hR3 hg3 c3 r3 x3 b3 d3
          go_wp2_with fail
          refine (ctext_all _ A n c q l w3 C3.out _ R3.out HKq.out.le hnc (by omega)).mono ?_
          rintro e w4 ⟨rfl, hC4, hg4⟩
          have HKq4 := Lib.hid (Keep.ctStep (by have h1 := rdText_le (l.drop q); rw [List.length_drop, HL.out] at h1; have := HKq.out.le; omega) D3.out R3.out X3.out B3.out ⟨HKq.out.ne, HKq.out.far, HKq.out.apart⟩ hC4 hg4)
          have HK4 : Hid (Reads w4 w.heap.size (some ad) m (ks.map (Value.int .i64))) := HK3.out.grown hg4 B3.out.size (by intro k hk; injection hk with hk; have := HKq.out.far.2; omega)
          clear hC4 hg4 C3 R3 X3 B3 D3 HK3 HKq HKK
          go_wp2
          go_roundw
          case rel => exact ⟨j + 1, _, by omega, by go_num, HKq4, HK4⟩
          case measure => simp [intOf]; omega
    · obtain rfl : j = m := by omega
      go_wp2_with fail
      refine (left_any r _ wr HKq0.out.rd).mono ?_
      rintro e w' ⟨rfl, rfl⟩
      rw [E1.out]
      go_wp2_with fail
      refine (cleft_any _ A n c q wr HKq0.out.ct hq (by omega)).mono ?_
      rintro e w' ⟨rfl, x, rfl⟩
      have HKq : Hid (Keep w (wr.drewN x) r w2.heap.size A n c l q) := HKq0.out.drewN x
      obtain ⟨wr2, hwr2⟩ : ∃ wr2, wr2 = wr.drewN x := ⟨_, rfl⟩
      rw [← hwr2] at HKq ⊢
      clear hwr2 HKq0 HKK0
      go_wp2_with fail
      refine (back_any A n c w.heap.size w.heap.size l wr2 HKq.out.reads (Nat.le_refl _) HKq.out.lent (by omega)).mono ?_
      rintro e w3 ⟨rfl, hg3⟩
      have HW3 := Lib.hid (HKq.out.below.grown hg3 HKq.out.below.size (by intro k hk; injection hk with hk; omega))
      clear hg3 HKq
      go_wp2_with fail
      refine (reads_any w3).mono ?_
      rintro e w4 ⟨rfl, hw4⟩
      have HW4 := Lib.hid (HW3.out.trans (hw4.mono HW3.out.size))
      clear hw4 HW3
      go_wp2
      go_ret
      exact ⟨rfl, HW4.out⟩

set_option maxHeartbeats 400000 in
theorem codecReads_big (A : Option Addr) (n c : Nat) (B : Option Addr) (m d : Nat) (w : World) (hn : 262144 < n ∨ 1000 < m) :
    Calls Try.prog 7 #[.slice A n c, .slice B m d] w fun e w' => e = .returned (.bool true) ∧ Below w.heap.size w w' := by
  by_cases h1 : 262144 < n
  · go_enter Try.func7, Try.ntmps7
    go_wp2
    go_ret
    exact ⟨rfl, Below.refl _ _⟩
  · have h2 : 1000 < m := by omega
    clear hn
    go_enter Try.func7, Try.ntmps7
    go_wp2
    go_ret
    exact ⟨rfl, Below.refl _ _⟩
end Go.Proofs.Ytfimmodcjpebmaa
