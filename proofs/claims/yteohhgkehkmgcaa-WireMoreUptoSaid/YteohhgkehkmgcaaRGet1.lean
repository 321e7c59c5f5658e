/- The walks of the reference's gets. Printed by mkrget.py. -/
import Derived.Test.YteohhgkehkmgcaaCu7
import Derived.Test.YteohhgkehkmgcaaGet1
namespace Go.Proofs.Yteohhgkehkmgcaa
open Go.RowKit Le
set_option maxRecDepth 100000
set_option linter.unusedVariables false
set_option linter.unusedSimpArgs false

/-- How a reference's get ends. -/
def RGEnd (sh : List Sh) (l : List UInt8) (e : Ending) : Prop :=
  ∃ (vs : List Value) (E : Int), e = .returned (.tuple #[.agg vs.toArray, .int .i64 E]) ∧ vs.length = sh.length ∧ (∀ u ∈ vs, u.oneCell' = true) ∧ ((E = 0 ∧ ∃ ds, rds sh l = some (ds, [])) ∨ (E = 11 ∧ ∀ ds, rds sh l ≠ some (ds, [])))
set_option maxHeartbeats 800000 in
theorem rnew_any (A : Option Addr) (n c : Nat) (l : List UInt8) (w : World) (hb : Reads w w.heap.size A n (u8s l)) (hn : n ≤ c ∧ n ≤ 1099511627776 ∧ c ≤ 9223372036854775807) :
    Calls Try.prog 45 #[.slice A n c] w fun e w' => e = .returned (.pointer (some ⟨w.heap.size + 1, 0, none⟩)) ∧ CutAt w' w.heap.size (w.heap.size + 1) (some l) ∧ Below w.heap.size w w' := by
  have HB := Lib.hid hb
  clear hb
  go_enter Try.func45, Try.ntmps45
  go_wp2
  go_ret
  have h2 : Below w.heap.size w ((w.alloc (.cells #[.slice A n c, .int .i64 0] 142)).alloc (.cells #[.pointer (some ⟨w.heap.size, 0, none⟩), .bool false] 144)) := ((Below.refl _ _).alloc (Nat.le_refl _) _).alloc (by simp) _
  refine ⟨rfl, ⟨w.heap.size, A, n, c, 0, l, ?_, ?_, HB.out.below h2, ⟨hn.1, hn.2.1, hn.2.2, Nat.zero_le _⟩, fun l' h => by injection h, Nat.le_refl _, Nat.le_succ _⟩, h2⟩
  · have := Blk.new (w.alloc (.cells #[.slice A n c, .int .i64 0] 142)) 144 [.pointer (some ⟨w.heap.size, 0, none⟩), .bool false]
    simpa using this
  · exact (Blk.new w 142 [.slice A n c, .int .i64 0]).alloc _
set_option maxHeartbeats 800000 in
theorem whole_any (base g : Nat) (o : Option (List UInt8)) (w : World) (h : CutAt w base g o) :
    Calls Try.prog 47 #[.pointer (some ⟨g, 0, none⟩)] w fun e w' => (∃ b : Bool, e = .returned (.bool b) ∧ (b = true ↔ o = some [])) ∧ Below w.heap.size w w' := by
  obtain ⟨r, A, n, c, i, lb, hB, hCt, hR, hn, hd, hbr, hbg⟩ := h
  have hc0 : w.cell? ⟨g, 0, none⟩ = some (.pointer (some ⟨r, 0, none⟩)) := hB.cell 0
  have hlb : lb.length = n := reads_length hR
  have C := Lib.hid (cleft_any r A n c i w hCt hn.2.2.2 hn.2.1)
  cases o with
  | none =>
    have hc1 : w.cell? ⟨g, 1, none⟩ = some (.bool true) := hB.cell 1
    clear hB hCt hR hd
    go_enter Try.func47, Try.ntmps47
    go_wp2
    go_ret
    exact ⟨⟨false, rfl, by simp⟩, Below.refl _ _⟩
  | some l =>
    have hc1 : w.cell? ⟨g, 1, none⟩ = some (.bool false) := hB.cell 1
    have hl : (l = []) ↔ n - i = 0 := by
      have := hd l rfl
      rw [← this, List.drop_eq_nil_iff]
      omega
    have HL := Lib.hid hl
    clear hB hCt hR hd hl
    by_cases h0 : n - i = 0
    · have h1 : ((n - i : Nat) : Int) = 0 := by omega
      rw [h1] at C
      clear h1
      go_enter Try.func47, Try.ntmps47
      go_wp2_with fail
      refine (unhide C).mono ?_
      rintro e w1 ⟨rfl, m, rfl⟩
      go_wp2
      go_ret
      refine ⟨⟨true, rfl, by simp [HL.out.2 h0]⟩, by constructor <;> first | rfl | exact Nat.le_refl _ | (intros; rfl)⟩
    · have t1 : (((n - i : Nat) : Int) == 0) = false := by simp; omega
      go_enter Try.func47, Try.ntmps47
      go_wp2_with fail
      refine (unhide C).mono ?_
      rintro e w1 ⟨rfl, m, rfl⟩
      go_wp2
      go_ret
      refine ⟨⟨false, rfl, by simp; intro h; exact h0 (HL.out.1 h)⟩, by constructor <;> first | rfl | exact Nat.le_refl _ | (intros; rfl)⟩

set_option maxHeartbeats 1600000 in
theorem rget_Record (A : Option Addr) (n c : Nat) (l : List UInt8) (w : World) (hb : Reads w w.heap.size A n (u8s l)) (hn : n ≤ c ∧ n ≤ 1099511627776 ∧ c ≤ 9223372036854775807) :
    Calls Try.prog 28 #[.slice A n c] w fun e w' => RGEnd shRecord l e ∧ Below w.heap.size w w' := by
  have HX0 := Lib.hid (Blk.new w 33 [.int .i64 0, .int .i64 0, .int .i64 0, .int .i64 0, .int .i64 0, .int .i64 0, .slice none 0 0, .slice none 0 0, .string ⟨#[]⟩, .int .i64 0, .int .i64 0, .int .i64 0, .slice none 0 0, .slice none 0 0, .string ⟨#[]⟩])
  have HB0 : Hid (Below w.heap.size w (w.alloc (.cells #[.int .i64 0, .int .i64 0, .int .i64 0, .int .i64 0, .int .i64 0, .int .i64 0, .slice none 0 0, .slice none 0 0, .string ⟨#[]⟩, .int .i64 0, .int .i64 0, .int .i64 0, .slice none 0 0, .slice none 0 0, .string ⟨#[]⟩] 33))) := Lib.hid ((Below.refl _ _).alloc (Nat.le_refl _) _)
  have C := Lib.hid (rnew_any A n c l (w.alloc (.cells #[.int .i64 0, .int .i64 0, .int .i64 0, .int .i64 0, .int .i64 0, .int .i64 0, .slice none 0 0, .slice none 0 0, .string ⟨#[]⟩, .int .i64 0, .int .i64 0, .int .i64 0, .slice none 0 0, .slice none 0 0, .string ⟨#[]⟩] 33)) ((hb.below HB0.out).more (by simp)) hn)
  clear hb
  have hs0 : (w.alloc (.cells #[.int .i64 0, .int .i64 0, .int .i64 0, .int .i64 0, .int .i64 0, .int .i64 0, .slice none 0 0, .slice none 0 0, .string ⟨#[]⟩, .int .i64 0, .int .i64 0, .int .i64 0, .slice none 0 0, .slice none 0 0, .string ⟨#[]⟩] 33)).heap.size = w.heap.size + 1 := by simp
  rw [hs0] at C
  clear hs0
  go_enter Try.func28, Try.ntmps28
  go_wp2_with fail
  refine (unhide C).mono ?_
  rintro e w1 ⟨rfl, hA, hK1⟩
  have HX1 := Lib.hid (HX0.out.below hK1 (by omega))
  have HB1 := Lib.hid (HB0.out.trans (hK1.mono (by omega)))
  have hbs := hA.lt
  have HA1 := Lib.hid hA
  clear hA hK1 C HX0 HB0
  go_wp2_with fail
  refine (C_Record _ _ _ _ HA1.out).mono ?_
  rintro e w2 ⟨⟨vs, rfl, hv⟩, hA, hK⟩
  have HX2 := Lib.hid (HX1.out.below hK.below (by omega))
  have HB2 := Lib.hid (HB1.out.trans (hK.below.mono (by omega)))
  have hlen : vs.length = 15 := hv.len
  have h1v : Hid (∀ u ∈ vs, u.oneCell' = true) := Lib.hid hv.oneCell
  have hsz2 : w.heap.size + 1 ≤ w2.heap.size := by have := hK.below.size; omega
  have HX := Lib.hid (Blk.new w2 33 [.int .i64 0, .int .i64 0, .int .i64 0, .int .i64 0, .int .i64 0, .int .i64 0, .slice none 0 0, .slice none 0 0, .string ⟨#[]⟩, .int .i64 0, .int .i64 0, .int .i64 0, .slice none 0 0, .slice none 0 0, .string ⟨#[]⟩])
  have HTE : Hid (World.there (w2.alloc (.cells #[.int .i64 0, .int .i64 0, .int .i64 0, .int .i64 0, .int .i64 0, .int .i64 0, .slice none 0 0, .slice none 0 0, .string ⟨#[]⟩, .int .i64 0, .int .i64 0, .int .i64 0, .slice none 0 0, .slice none 0 0, .string ⟨#[]⟩] 33)) w2.heap.size 0 vs.toArray.size) := Lib.hid (HX.out.there 0 _ (by simp [hlen]))
  have hsV : Hid ((Try.prog.info? 33).map (·.size) = some vs.toArray.size) := Lib.hid (by rw [List.size_toArray, hlen]; kernel_rfl)
  have hiV : Hid ((Try.prog.info? 33).map (·.size) = some vs.length) := Lib.hid (by rw [hlen]; kernel_rfl)
  have h1V : Hid (vs.toArray.all (·.oneCell') = true) := Lib.hid (all_oneCell_toArray hv.oneCell)
  have HLEN := Lib.hid hlen
  obtain ⟨w3, hw3⟩ : ∃ w3, ((w2.alloc (.cells #[.int .i64 0, .int .i64 0, .int .i64 0, .int .i64 0, .int .i64 0, .int .i64 0, .slice none 0 0, .slice none 0 0, .string ⟨#[]⟩, .int .i64 0, .int .i64 0, .int .i64 0, .slice none 0 0, .slice none 0 0, .string ⟨#[]⟩] 33)).setCells w2.heap.size 0 vs) = w3 := ⟨_, rfl⟩
  have hb3 : Below w2.heap.size w2 ((w2.alloc (.cells #[.int .i64 0, .int .i64 0, .int .i64 0, .int .i64 0, .int .i64 0, .int .i64 0, .slice none 0 0, .slice none 0 0, .string ⟨#[]⟩, .int .i64 0, .int .i64 0, .int .i64 0, .slice none 0 0, .slice none 0 0, .string ⟨#[]⟩] 33)).setCells w2.heap.size 0 vs) := ((Below.refl _ _).alloc (Nat.le_refl _) _).trans (below_setCells_ (Nat.le_refl _) 0 vs)
  have HX3 := Lib.hid (HX.out.setCells0 vs hlen.symm)
  have HA3 := Lib.hid (hA.below_ hb3)
  have HR3 := Lib.hid (HX2.out.below hb3 HX2.out.lt)
  have HB3 := Lib.hid (HB2.out.trans (hb3.mono (by omega)))
  rw [hw3] at HX3 HA3 HR3 HB3 hb3
  have hsz3 := hb3.size
  have HW3 := Lib.hid hw3
  clear hA hK hv hlen hb3 hw3 HX1 HB1 HX2 HB2 HA1
  go_wp2_with (with_reducible refine wpList_store_mid rfl 33 _ _ rfl w2.heap.size 0 vs.toArray rfl rfl HTE.out hsV.out h1V.out ?_)
  rw [HW3.out]
  refine (whole_any _ _ _ _ HA3.out).mono ?_
  rintro e w4 ⟨⟨b, rfl, hbo⟩, hK4⟩
  have HX4 := Lib.hid (HX3.out.below hK4 HX3.out.lt)
  have HR4 := Lib.hid (HR3.out.below hK4 HR3.out.lt)
  have HB4 := Lib.hid (HB3.out.trans (hK4.mono (by omega)))
  have HBO := Lib.hid hbo
  clear hK4 hbo HX3 HR3 HB3 HA3 HX HTE HW3
  cases b with
  | true =>
    have HRG := Lib.hid HX4.out.range0
    have HTE4 : Hid (World.there w4 w.heap.size 0 vs.toArray.size) := Lib.hid (HR4.out.there 0 _ (by simp [HLEN.out]))
    go_wp2_with (first | (with_reducible refine wpList_load_mid rfl 33 _ rfl w2.heap.size 0 rfl vs _ HRG.out Try.underlying33 rfl hiV.out ?_) | (with_reducible refine wpList_store_mid rfl 33 _ _ rfl w.heap.size 0 vs.toArray rfl rfl HTE4.out hsV.out h1V.out ?_))
    refine bodyPost_ret (results_cell_tmp rfl _ _ w.heap.size rfl vs _ (HR4.out.setCells0 vs HLEN.out.symm).range0 Try.underlying33 rfl hiV.out) rfl ?_
    refine ⟨⟨vs, 0, rfl, HLEN.out, h1v.out, .inl ⟨rfl, ?_⟩⟩, HB4.out.trans (below_setCells_ (Nat.le_refl _) 0 vs)⟩
    have h := HBO.out.1 (by simp)
    simp only [stepS, Option.bind_some, Option.map_eq_some_iff] at h
    obtain ⟨⟨ds, l2⟩, h1, h2⟩ := h
    dsimp only at h2
    subst h2
    exact ⟨ds, h1⟩
  | false =>
    have HTE4 : Hid (World.there w4 w.heap.size 0 (List.toArray ([.int .i64 0, .int .i64 0, .int .i64 0, .int .i64 0, .int .i64 0, .int .i64 0, .slice none 0 0, .slice none 0 0, .string ⟨#[]⟩, .int .i64 0, .int .i64 0, .int .i64 0, .slice none 0 0, .slice none 0 0, .string ⟨#[]⟩] : List Value)).size) := Lib.hid (HR4.out.there 0 _ (by simp))
    have hsZ : Hid ((Try.prog.info? 33).map (·.size) = some (List.toArray ([.int .i64 0, .int .i64 0, .int .i64 0, .int .i64 0, .int .i64 0, .int .i64 0, .slice none 0 0, .slice none 0 0, .string ⟨#[]⟩, .int .i64 0, .int .i64 0, .int .i64 0, .slice none 0 0, .slice none 0 0, .string ⟨#[]⟩] : List Value)).size) := Lib.hid (by kernel_rfl)
    have hiZ : Hid ((Try.prog.info? 33).map (·.size) = some (List.length ([.int .i64 0, .int .i64 0, .int .i64 0, .int .i64 0, .int .i64 0, .int .i64 0, .slice none 0 0, .slice none 0 0, .string ⟨#[]⟩, .int .i64 0, .int .i64 0, .int .i64 0, .slice none 0 0, .slice none 0 0, .string ⟨#[]⟩] : List Value))) := Lib.hid (by kernel_rfl)
    have h1Z : Hid ((List.toArray ([.int .i64 0, .int .i64 0, .int .i64 0, .int .i64 0, .int .i64 0, .int .i64 0, .slice none 0 0, .slice none 0 0, .string ⟨#[]⟩, .int .i64 0, .int .i64 0, .int .i64 0, .slice none 0 0, .slice none 0 0, .string ⟨#[]⟩] : List Value)).all (·.oneCell') = true) := Lib.hid (all_oneCell_toArray (by simp [Value.oneCell']))
    go_wp2_with (with_reducible refine wpList_store_mid rfl 33 _ _ rfl w.heap.size 0 (List.toArray ([.int .i64 0, .int .i64 0, .int .i64 0, .int .i64 0, .int .i64 0, .int .i64 0, .slice none 0 0, .slice none 0 0, .string ⟨#[]⟩, .int .i64 0, .int .i64 0, .int .i64 0, .slice none 0 0, .slice none 0 0, .string ⟨#[]⟩] : List Value)) rfl rfl HTE4.out hsZ.out h1Z.out ?_)
    refine bodyPost_ret (results_cell_tmp rfl _ _ w.heap.size rfl [.int .i64 0, .int .i64 0, .int .i64 0, .int .i64 0, .int .i64 0, .int .i64 0, .slice none 0 0, .slice none 0 0, .string ⟨#[]⟩, .int .i64 0, .int .i64 0, .int .i64 0, .slice none 0 0, .slice none 0 0, .string ⟨#[]⟩] _ (HR4.out.setCells0 [.int .i64 0, .int .i64 0, .int .i64 0, .int .i64 0, .int .i64 0, .int .i64 0, .slice none 0 0, .slice none 0 0, .string ⟨#[]⟩, .int .i64 0, .int .i64 0, .int .i64 0, .slice none 0 0, .slice none 0 0, .string ⟨#[]⟩] rfl).range0 Try.underlying33 rfl hiZ.out) rfl ?_
    refine ⟨⟨[.int .i64 0, .int .i64 0, .int .i64 0, .int .i64 0, .int .i64 0, .int .i64 0, .slice none 0 0, .slice none 0 0, .string ⟨#[]⟩, .int .i64 0, .int .i64 0, .int .i64 0, .slice none 0 0, .slice none 0 0, .string ⟨#[]⟩], 11, rfl, rfl, by simp [Value.oneCell'], .inr ⟨rfl, fun ds h => ?_⟩⟩, HB4.out.trans (below_setCells_ (Nat.le_refl _) 0 [.int .i64 0, .int .i64 0, .int .i64 0, .int .i64 0, .int .i64 0, .int .i64 0, .slice none 0 0, .slice none 0 0, .string ⟨#[]⟩, .int .i64 0, .int .i64 0, .int .i64 0, .slice none 0 0, .slice none 0 0, .string ⟨#[]⟩])⟩
    have h2 := HBO.out.2 (by simp only [stepS, Option.bind_some, h, Option.map_some])
    cases h2

set_option maxHeartbeats 1600000 in
theorem rget_Command (A : Option Addr) (n c : Nat) (l : List UInt8) (w : World) (hb : Reads w w.heap.size A n (u8s l)) (hn : n ≤ c ∧ n ≤ 1099511627776 ∧ c ≤ 9223372036854775807) :
    Calls Try.prog 26 #[.slice A n c] w fun e w' => RGEnd shCommand l e ∧ Below w.heap.size w w' := by
  have HX0 := Lib.hid (Blk.new w 49 [.int .i64 0, .string ⟨#[]⟩, .string ⟨#[]⟩, .string ⟨#[]⟩, .string ⟨#[]⟩, .string ⟨#[]⟩, .slice none 0 0, .string ⟨#[]⟩, .int .i64 0, .slice none 0 0, .int .i64 0, .int .i64 0, .string ⟨#[]⟩, .string ⟨#[]⟩, .string ⟨#[]⟩, .int .i64 0, .bool false])
  have HB0 : Hid (Below w.heap.size w (w.alloc (.cells #[.int .i64 0, .string ⟨#[]⟩, .string ⟨#[]⟩, .string ⟨#[]⟩, .string ⟨#[]⟩, .string ⟨#[]⟩, .slice none 0 0, .string ⟨#[]⟩, .int .i64 0, .slice none 0 0, .int .i64 0, .int .i64 0, .string ⟨#[]⟩, .string ⟨#[]⟩, .string ⟨#[]⟩, .int .i64 0, .bool false] 49))) := Lib.hid ((Below.refl _ _).alloc (Nat.le_refl _) _)
  have C := Lib.hid (rnew_any A n c l (w.alloc (.cells #[.int .i64 0, .string ⟨#[]⟩, .string ⟨#[]⟩, .string ⟨#[]⟩, .string ⟨#[]⟩, .string ⟨#[]⟩, .slice none 0 0, .string ⟨#[]⟩, .int .i64 0, .slice none 0 0, .int .i64 0, .int .i64 0, .string ⟨#[]⟩, .string ⟨#[]⟩, .string ⟨#[]⟩, .int .i64 0, .bool false] 49)) ((hb.below HB0.out).more (by simp)) hn)
  clear hb
  have hs0 : (w.alloc (.cells #[.int .i64 0, .string ⟨#[]⟩, .string ⟨#[]⟩, .string ⟨#[]⟩, .string ⟨#[]⟩, .string ⟨#[]⟩, .slice none 0 0, .string ⟨#[]⟩, .int .i64 0, .slice none 0 0, .int .i64 0, .int .i64 0, .string ⟨#[]⟩, .string ⟨#[]⟩, .string ⟨#[]⟩, .int .i64 0, .bool false] 49)).heap.size = w.heap.size + 1 := by simp
  rw [hs0] at C
  clear hs0
  go_enter Try.func26, Try.ntmps26
  go_wp2_with fail
  refine (unhide C).mono ?_
  rintro e w1 ⟨rfl, hA, hK1⟩
  have HX1 := Lib.hid (HX0.out.below hK1 (by omega))
  have HB1 := Lib.hid (HB0.out.trans (hK1.mono (by omega)))
  have hbs := hA.lt
  have HA1 := Lib.hid hA
  clear hA hK1 C HX0 HB0
  go_wp2_with fail
  refine (C_Command _ _ _ _ HA1.out).mono ?_
  rintro e w2 ⟨⟨vs, rfl, hv⟩, hA, hK⟩
  have HX2 := Lib.hid (HX1.out.below hK.below (by omega))
  have HB2 := Lib.hid (HB1.out.trans (hK.below.mono (by omega)))
  have hlen : vs.length = 17 := hv.len
  have h1v : Hid (∀ u ∈ vs, u.oneCell' = true) := Lib.hid hv.oneCell
  have hsz2 : w.heap.size + 1 ≤ w2.heap.size := by have := hK.below.size; omega
  have HX := Lib.hid (Blk.new w2 49 [.int .i64 0, .string ⟨#[]⟩, .string ⟨#[]⟩, .string ⟨#[]⟩, .string ⟨#[]⟩, .string ⟨#[]⟩, .slice none 0 0, .string ⟨#[]⟩, .int .i64 0, .slice none 0 0, .int .i64 0, .int .i64 0, .string ⟨#[]⟩, .string ⟨#[]⟩, .string ⟨#[]⟩, .int .i64 0, .bool false])
  have HTE : Hid (World.there (w2.alloc (.cells #[.int .i64 0, .string ⟨#[]⟩, .string ⟨#[]⟩, .string ⟨#[]⟩, .string ⟨#[]⟩, .string ⟨#[]⟩, .slice none 0 0, .string ⟨#[]⟩, .int .i64 0, .slice none 0 0, .int .i64 0, .int .i64 0, .string ⟨#[]⟩, .string ⟨#[]⟩, .string ⟨#[]⟩, .int .i64 0, .bool false] 49)) w2.heap.size 0 vs.toArray.size) := Lib.hid (HX.out.there 0 _ (by simp [hlen]))
  have hsV : Hid ((Try.prog.info? 49).map (·.size) = some vs.toArray.size) := Lib.hid (by rw [List.size_toArray, hlen]; kernel_rfl)
  have hiV : Hid ((Try.prog.info? 49).map (·.size) = some vs.length) := Lib.hid (by rw [hlen]; kernel_rfl)
  have h1V : Hid (vs.toArray.all (·.oneCell') = true) := Lib.hid (all_oneCell_toArray hv.oneCell)
  have HLEN := Lib.hid hlen
  obtain ⟨w3, hw3⟩ : ∃ w3, ((w2.alloc (.cells #[.int .i64 0, .string ⟨#[]⟩, .string ⟨#[]⟩, .string ⟨#[]⟩, .string ⟨#[]⟩, .string ⟨#[]⟩, .slice none 0 0, .string ⟨#[]⟩, .int .i64 0, .slice none 0 0, .int .i64 0, .int .i64 0, .string ⟨#[]⟩, .string ⟨#[]⟩, .string ⟨#[]⟩, .int .i64 0, .bool false] 49)).setCells w2.heap.size 0 vs) = w3 := ⟨_, rfl⟩
  have hb3 : Below w2.heap.size w2 ((w2.alloc (.cells #[.int .i64 0, .string ⟨#[]⟩, .string ⟨#[]⟩, .string ⟨#[]⟩, .string ⟨#[]⟩, .string ⟨#[]⟩, .slice none 0 0, .string ⟨#[]⟩, .int .i64 0, .slice none 0 0, .int .i64 0, .int .i64 0, .string ⟨#[]⟩, .string ⟨#[]⟩, .string ⟨#[]⟩, .int .i64 0, .bool false] 49)).setCells w2.heap.size 0 vs) := ((Below.refl _ _).alloc (Nat.le_refl _) _).trans (below_setCells_ (Nat.le_refl _) 0 vs)
  have HX3 := Lib.hid (HX.out.setCells0 vs hlen.symm)
  have HA3 := Lib.hid (hA.below_ hb3)
  have HR3 := Lib.hid (HX2.out.below hb3 HX2.out.lt)
  have HB3 := Lib.hid (HB2.out.trans (hb3.mono (by omega)))
  rw [hw3] at HX3 HA3 HR3 HB3 hb3
  have hsz3 := hb3.size
  have HW3 := Lib.hid hw3
  clear hA hK hv hlen hb3 hw3 HX1 HB1 HX2 HB2 HA1
  go_wp2_with (with_reducible refine wpList_store_mid rfl 49 _ _ rfl w2.heap.size 0 vs.toArray rfl rfl HTE.out hsV.out h1V.out ?_)
  rw [HW3.out]
  refine (whole_any _ _ _ _ HA3.out).mono ?_
  rintro e w4 ⟨⟨b, rfl, hbo⟩, hK4⟩
  have HX4 := Lib.hid (HX3.out.below hK4 HX3.out.lt)
  have HR4 := Lib.hid (HR3.out.below hK4 HR3.out.lt)
  have HB4 := Lib.hid (HB3.out.trans (hK4.mono (by omega)))
  have HBO := Lib.hid hbo
  clear hK4 hbo HX3 HR3 HB3 HA3 HX HTE HW3
  cases b with
  | true =>
    have HRG := Lib.hid HX4.out.range0
    have HTE4 : Hid (World.there w4 w.heap.size 0 vs.toArray.size) := Lib.hid (HR4.out.there 0 _ (by simp [HLEN.out]))
    go_wp2_with (first | (with_reducible refine wpList_load_mid rfl 49 _ rfl w2.heap.size 0 rfl vs _ HRG.out Try.underlying49 rfl hiV.out ?_) | (with_reducible refine wpList_store_mid rfl 49 _ _ rfl w.heap.size 0 vs.toArray rfl rfl HTE4.out hsV.out h1V.out ?_))
    refine bodyPost_ret (results_cell_tmp rfl _ _ w.heap.size rfl vs _ (HR4.out.setCells0 vs HLEN.out.symm).range0 Try.underlying49 rfl hiV.out) rfl ?_
    refine ⟨⟨vs, 0, rfl, HLEN.out, h1v.out, .inl ⟨rfl, ?_⟩⟩, HB4.out.trans (below_setCells_ (Nat.le_refl _) 0 vs)⟩
    have h := HBO.out.1 (by simp)
    simp only [stepS, Option.bind_some, Option.map_eq_some_iff] at h
    obtain ⟨⟨ds, l2⟩, h1, h2⟩ := h
    dsimp only at h2
    subst h2
    exact ⟨ds, h1⟩
  | false =>
    have HTE4 : Hid (World.there w4 w.heap.size 0 (List.toArray ([.int .i64 0, .string ⟨#[]⟩, .string ⟨#[]⟩, .string ⟨#[]⟩, .string ⟨#[]⟩, .string ⟨#[]⟩, .slice none 0 0, .string ⟨#[]⟩, .int .i64 0, .slice none 0 0, .int .i64 0, .int .i64 0, .string ⟨#[]⟩, .string ⟨#[]⟩, .string ⟨#[]⟩, .int .i64 0, .bool false] : List Value)).size) := Lib.hid (HR4.out.there 0 _ (by simp))
    have hsZ : Hid ((Try.prog.info? 49).map (·.size) = some (List.toArray ([.int .i64 0, .string ⟨#[]⟩, .string ⟨#[]⟩, .string ⟨#[]⟩, .string ⟨#[]⟩, .string ⟨#[]⟩, .slice none 0 0, .string ⟨#[]⟩, .int .i64 0, .slice none 0 0, .int .i64 0, .int .i64 0, .string ⟨#[]⟩, .string ⟨#[]⟩, .string ⟨#[]⟩, .int .i64 0, .bool false] : List Value)).size) := Lib.hid (by kernel_rfl)
    have hiZ : Hid ((Try.prog.info? 49).map (·.size) = some (List.length ([.int .i64 0, .string ⟨#[]⟩, .string ⟨#[]⟩, .string ⟨#[]⟩, .string ⟨#[]⟩, .string ⟨#[]⟩, .slice none 0 0, .string ⟨#[]⟩, .int .i64 0, .slice none 0 0, .int .i64 0, .int .i64 0, .string ⟨#[]⟩, .string ⟨#[]⟩, .string ⟨#[]⟩, .int .i64 0, .bool false] : List Value))) := Lib.hid (by kernel_rfl)
    have h1Z : Hid ((List.toArray ([.int .i64 0, .string ⟨#[]⟩, .string ⟨#[]⟩, .string ⟨#[]⟩, .string ⟨#[]⟩, .string ⟨#[]⟩, .slice none 0 0, .string ⟨#[]⟩, .int .i64 0, .slice none 0 0, .int .i64 0, .int .i64 0, .string ⟨#[]⟩, .string ⟨#[]⟩, .string ⟨#[]⟩, .int .i64 0, .bool false] : List Value)).all (·.oneCell') = true) := Lib.hid (all_oneCell_toArray (by simp [Value.oneCell']))
    go_wp2_with (with_reducible refine wpList_store_mid rfl 49 _ _ rfl w.heap.size 0 (List.toArray ([.int .i64 0, .string ⟨#[]⟩, .string ⟨#[]⟩, .string ⟨#[]⟩, .string ⟨#[]⟩, .string ⟨#[]⟩, .slice none 0 0, .string ⟨#[]⟩, .int .i64 0, .slice none 0 0, .int .i64 0, .int .i64 0, .string ⟨#[]⟩, .string ⟨#[]⟩, .string ⟨#[]⟩, .int .i64 0, .bool false] : List Value)) rfl rfl HTE4.out hsZ.out h1Z.out ?_)
    refine bodyPost_ret (results_cell_tmp rfl _ _ w.heap.size rfl [.int .i64 0, .string ⟨#[]⟩, .string ⟨#[]⟩, .string ⟨#[]⟩, .string ⟨#[]⟩, .string ⟨#[]⟩, .slice none 0 0, .string ⟨#[]⟩, .int .i64 0, .slice none 0 0, .int .i64 0, .int .i64 0, .string ⟨#[]⟩, .string ⟨#[]⟩, .string ⟨#[]⟩, .int .i64 0, .bool false] _ (HR4.out.setCells0 [.int .i64 0, .string ⟨#[]⟩, .string ⟨#[]⟩, .string ⟨#[]⟩, .string ⟨#[]⟩, .string ⟨#[]⟩, .slice none 0 0, .string ⟨#[]⟩, .int .i64 0, .slice none 0 0, .int .i64 0, .int .i64 0, .string ⟨#[]⟩, .string ⟨#[]⟩, .string ⟨#[]⟩, .int .i64 0, .bool false] rfl).range0 Try.underlying49 rfl hiZ.out) rfl ?_
    refine ⟨⟨[.int .i64 0, .string ⟨#[]⟩, .string ⟨#[]⟩, .string ⟨#[]⟩, .string ⟨#[]⟩, .string ⟨#[]⟩, .slice none 0 0, .string ⟨#[]⟩, .int .i64 0, .slice none 0 0, .int .i64 0, .int .i64 0, .string ⟨#[]⟩, .string ⟨#[]⟩, .string ⟨#[]⟩, .int .i64 0, .bool false], 11, rfl, rfl, by simp [Value.oneCell'], .inr ⟨rfl, fun ds h => ?_⟩⟩, HB4.out.trans (below_setCells_ (Nat.le_refl _) 0 [.int .i64 0, .string ⟨#[]⟩, .string ⟨#[]⟩, .string ⟨#[]⟩, .string ⟨#[]⟩, .string ⟨#[]⟩, .slice none 0 0, .string ⟨#[]⟩, .int .i64 0, .slice none 0 0, .int .i64 0, .int .i64 0, .string ⟨#[]⟩, .string ⟨#[]⟩, .string ⟨#[]⟩, .int .i64 0, .bool false])⟩
    have h2 := HBO.out.2 (by simp only [stepS, Option.bind_some, h, Option.map_some])
    cases h2

set_option maxHeartbeats 1600000 in
theorem rget_Op (A : Option Addr) (n c : Nat) (l : List UInt8) (w : World) (hb : Reads w w.heap.size A n (u8s l)) (hn : n ≤ c ∧ n ≤ 1099511627776 ∧ c ≤ 9223372036854775807) :
    Calls Try.prog 22 #[.slice A n c] w fun e w' => RGEnd shOp l e ∧ Below w.heap.size w w' := by
  have HX0 := Lib.hid (Blk.new w 51 [.int .i64 0, .int .i64 0, .int .i64 0, .int .i64 0, .string ⟨#[]⟩, .string ⟨#[]⟩, .string ⟨#[]⟩, .string ⟨#[]⟩, .string ⟨#[]⟩, .slice none 0 0, .string ⟨#[]⟩, .int .i64 0, .slice none 0 0, .int .i64 0, .int .i64 0, .string ⟨#[]⟩, .string ⟨#[]⟩, .string ⟨#[]⟩, .int .i64 0, .bool false, .int .i64 0, .int .i64 0, .int .i64 0])
  have HB0 : Hid (Below w.heap.size w (w.alloc (.cells #[.int .i64 0, .int .i64 0, .int .i64 0, .int .i64 0, .string ⟨#[]⟩, .string ⟨#[]⟩, .string ⟨#[]⟩, .string ⟨#[]⟩, .string ⟨#[]⟩, .slice none 0 0, .string ⟨#[]⟩, .int .i64 0, .slice none 0 0, .int .i64 0, .int .i64 0, .string ⟨#[]⟩, .string ⟨#[]⟩, .string ⟨#[]⟩, .int .i64 0, .bool false, .int .i64 0, .int .i64 0, .int .i64 0] 51))) := Lib.hid ((Below.refl _ _).alloc (Nat.le_refl _) _)
  have C := Lib.hid (rnew_any A n c l (w.alloc (.cells #[.int .i64 0, .int .i64 0, .int .i64 0, .int .i64 0, .string ⟨#[]⟩, .string ⟨#[]⟩, .string ⟨#[]⟩, .string ⟨#[]⟩, .string ⟨#[]⟩, .slice none 0 0, .string ⟨#[]⟩, .int .i64 0, .slice none 0 0, .int .i64 0, .int .i64 0, .string ⟨#[]⟩, .string ⟨#[]⟩, .string ⟨#[]⟩, .int .i64 0, .bool false, .int .i64 0, .int .i64 0, .int .i64 0] 51)) ((hb.below HB0.out).more (by simp)) hn)
  clear hb
  have hs0 : (w.alloc (.cells #[.int .i64 0, .int .i64 0, .int .i64 0, .int .i64 0, .string ⟨#[]⟩, .string ⟨#[]⟩, .string ⟨#[]⟩, .string ⟨#[]⟩, .string ⟨#[]⟩, .slice none 0 0, .string ⟨#[]⟩, .int .i64 0, .slice none 0 0, .int .i64 0, .int .i64 0, .string ⟨#[]⟩, .string ⟨#[]⟩, .string ⟨#[]⟩, .int .i64 0, .bool false, .int .i64 0, .int .i64 0, .int .i64 0] 51)).heap.size = w.heap.size + 1 := by simp
  rw [hs0] at C
  clear hs0
  go_enter Try.func22, Try.ntmps22
  go_wp2_with fail
  refine (unhide C).mono ?_
  rintro e w1 ⟨rfl, hA, hK1⟩
  have HX1 := Lib.hid (HX0.out.below hK1 (by omega))
  have HB1 := Lib.hid (HB0.out.trans (hK1.mono (by omega)))
  have hbs := hA.lt
  have HA1 := Lib.hid hA
  clear hA hK1 C HX0 HB0
  go_wp2_with fail
  refine (C_Op _ _ _ _ HA1.out).mono ?_
  rintro e w2 ⟨⟨vs, rfl, hv⟩, hA, hK⟩
  have HX2 := Lib.hid (HX1.out.below hK.below (by omega))
  have HB2 := Lib.hid (HB1.out.trans (hK.below.mono (by omega)))
  have hlen : vs.length = 23 := hv.len
  have h1v : Hid (∀ u ∈ vs, u.oneCell' = true) := Lib.hid hv.oneCell
  have hsz2 : w.heap.size + 1 ≤ w2.heap.size := by have := hK.below.size; omega
  have HX := Lib.hid (Blk.new w2 51 [.int .i64 0, .int .i64 0, .int .i64 0, .int .i64 0, .string ⟨#[]⟩, .string ⟨#[]⟩, .string ⟨#[]⟩, .string ⟨#[]⟩, .string ⟨#[]⟩, .slice none 0 0, .string ⟨#[]⟩, .int .i64 0, .slice none 0 0, .int .i64 0, .int .i64 0, .string ⟨#[]⟩, .string ⟨#[]⟩, .string ⟨#[]⟩, .int .i64 0, .bool false, .int .i64 0, .int .i64 0, .int .i64 0])
  have HTE : Hid (World.there (w2.alloc (.cells #[.int .i64 0, .int .i64 0, .int .i64 0, .int .i64 0, .string ⟨#[]⟩, .string ⟨#[]⟩, .string ⟨#[]⟩, .string ⟨#[]⟩, .string ⟨#[]⟩, .slice none 0 0, .string ⟨#[]⟩, .int .i64 0, .slice none 0 0, .int .i64 0, .int .i64 0, .string ⟨#[]⟩, .string ⟨#[]⟩, .string ⟨#[]⟩, .int .i64 0, .bool false, .int .i64 0, .int .i64 0, .int .i64 0] 51)) w2.heap.size 0 vs.toArray.size) := Lib.hid (HX.out.there 0 _ (by simp [hlen]))
  have hsV : Hid ((Try.prog.info? 51).map (·.size) = some vs.toArray.size) := Lib.hid (by rw [List.size_toArray, hlen]; kernel_rfl)
  have hiV : Hid ((Try.prog.info? 51).map (·.size) = some vs.length) := Lib.hid (by rw [hlen]; kernel_rfl)
  have h1V : Hid (vs.toArray.all (·.oneCell') = true) := Lib.hid (all_oneCell_toArray hv.oneCell)
  have HLEN := Lib.hid hlen
  obtain ⟨w3, hw3⟩ : ∃ w3, ((w2.alloc (.cells #[.int .i64 0, .int .i64 0, .int .i64 0, .int .i64 0, .string ⟨#[]⟩, .string ⟨#[]⟩, .string ⟨#[]⟩, .string ⟨#[]⟩, .string ⟨#[]⟩, .slice none 0 0, .string ⟨#[]⟩, .int .i64 0, .slice none 0 0, .int .i64 0, .int .i64 0, .string ⟨#[]⟩, .string ⟨#[]⟩, .string ⟨#[]⟩, .int .i64 0, .bool false, .int .i64 0, .int .i64 0, .int .i64 0] 51)).setCells w2.heap.size 0 vs) = w3 := ⟨_, rfl⟩
  have hb3 : Below w2.heap.size w2 ((w2.alloc (.cells #[.int .i64 0, .int .i64 0, .int .i64 0, .int .i64 0, .string ⟨#[]⟩, .string ⟨#[]⟩, .string ⟨#[]⟩, .string ⟨#[]⟩, .string ⟨#[]⟩, .slice none 0 0, .string ⟨#[]⟩, .int .i64 0, .slice none 0 0, .int .i64 0, .int .i64 0, .string ⟨#[]⟩, .string ⟨#[]⟩, .string ⟨#[]⟩, .int .i64 0, .bool false, .int .i64 0, .int .i64 0, .int .i64 0] 51)).setCells w2.heap.size 0 vs) := ((Below.refl _ _).alloc (Nat.le_refl _) _).trans (below_setCells_ (Nat.le_refl _) 0 vs)
  have HX3 := Lib.hid (HX.out.setCells0 vs hlen.symm)
  have HA3 := Lib.hid (hA.below_ hb3)
  have HR3 := Lib.hid (HX2.out.below hb3 HX2.out.lt)
  have HB3 := Lib.hid (HB2.out.trans (hb3.mono (by omega)))
  rw [hw3] at HX3 HA3 HR3 HB3 hb3
  have hsz3 := hb3.size
  have HW3 := Lib.hid hw3
  clear hA hK hv hlen hb3 hw3 HX1 HB1 HX2 HB2 HA1
  go_wp2_with (with_reducible refine wpList_store_mid rfl 51 _ _ rfl w2.heap.size 0 vs.toArray rfl rfl HTE.out hsV.out h1V.out ?_)
  rw [HW3.out]
  refine (whole_any _ _ _ _ HA3.out).mono ?_
  rintro e w4 ⟨⟨b, rfl, hbo⟩, hK4⟩
  have HX4 := Lib.hid (HX3.out.below hK4 HX3.out.lt)
  have HR4 := Lib.hid (HR3.out.below hK4 HR3.out.lt)
  have HB4 := Lib.hid (HB3.out.trans (hK4.mono (by omega)))
  have HBO := Lib.hid hbo
  clear hK4 hbo HX3 HR3 HB3 HA3 HX HTE HW3
  cases b with
  | true =>
    have HRG := Lib.hid HX4.out.range0
    have HTE4 : Hid (World.there w4 w.heap.size 0 vs.toArray.size) := Lib.hid (HR4.out.there 0 _ (by simp [HLEN.out]))
    go_wp2_with (first | (with_reducible refine wpList_load_mid rfl 51 _ rfl w2.heap.size 0 rfl vs _ HRG.out Try.underlying51 rfl hiV.out ?_) | (with_reducible refine wpList_store_mid rfl 51 _ _ rfl w.heap.size 0 vs.toArray rfl rfl HTE4.out hsV.out h1V.out ?_))
    refine bodyPost_ret (results_cell_tmp rfl _ _ w.heap.size rfl vs _ (HR4.out.setCells0 vs HLEN.out.symm).range0 Try.underlying51 rfl hiV.out) rfl ?_
    refine ⟨⟨vs, 0, rfl, HLEN.out, h1v.out, .inl ⟨rfl, ?_⟩⟩, HB4.out.trans (below_setCells_ (Nat.le_refl _) 0 vs)⟩
    have h := HBO.out.1 (by simp)
    simp only [stepS, Option.bind_some, Option.map_eq_some_iff] at h
    obtain ⟨⟨ds, l2⟩, h1, h2⟩ := h
    dsimp only at h2
    subst h2
    exact ⟨ds, h1⟩
  | false =>
    have HTE4 : Hid (World.there w4 w.heap.size 0 (List.toArray ([.int .i64 0, .int .i64 0, .int .i64 0, .int .i64 0, .string ⟨#[]⟩, .string ⟨#[]⟩, .string ⟨#[]⟩, .string ⟨#[]⟩, .string ⟨#[]⟩, .slice none 0 0, .string ⟨#[]⟩, .int .i64 0, .slice none 0 0, .int .i64 0, .int .i64 0, .string ⟨#[]⟩, .string ⟨#[]⟩, .string ⟨#[]⟩, .int .i64 0, .bool false, .int .i64 0, .int .i64 0, .int .i64 0] : List Value)).size) := Lib.hid (HR4.out.there 0 _ (by simp))
    have hsZ : Hid ((Try.prog.info? 51).map (·.size) = some (List.toArray ([.int .i64 0, .int .i64 0, .int .i64 0, .int .i64 0, .string ⟨#[]⟩, .string ⟨#[]⟩, .string ⟨#[]⟩, .string ⟨#[]⟩, .string ⟨#[]⟩, .slice none 0 0, .string ⟨#[]⟩, .int .i64 0, .slice none 0 0, .int .i64 0, .int .i64 0, .string ⟨#[]⟩, .string ⟨#[]⟩, .string ⟨#[]⟩, .int .i64 0, .bool false, .int .i64 0, .int .i64 0, .int .i64 0] : List Value)).size) := Lib.hid (by kernel_rfl)
    have hiZ : Hid ((Try.prog.info? 51).map (·.size) = some (List.length ([.int .i64 0, .int .i64 0, .int .i64 0, .int .i64 0, .string ⟨#[]⟩, .string ⟨#[]⟩, .string ⟨#[]⟩, .string ⟨#[]⟩, .string ⟨#[]⟩, .slice none 0 0, .string ⟨#[]⟩, .int .i64 0, .slice none 0 0, .int .i64 0, .int .i64 0, .string ⟨#[]⟩, .string ⟨#[]⟩, .string ⟨#[]⟩, .int .i64 0, .bool false, .int .i64 0, .int .i64 0, .int .i64 0] : List Value))) := Lib.hid (by kernel_rfl)
    have h1Z : Hid ((List.toArray ([.int .i64 0, .int .i64 0, .int .i64 0, .int .i64 0, .string ⟨#[]⟩, .string ⟨#[]⟩, .string ⟨#[]⟩, .string ⟨#[]⟩, .string ⟨#[]⟩, .slice none 0 0, .string ⟨#[]⟩, .int .i64 0, .slice none 0 0, .int .i64 0, .int .i64 0, .string ⟨#[]⟩, .string ⟨#[]⟩, .string ⟨#[]⟩, .int .i64 0, .bool false, .int .i64 0, .int .i64 0, .int .i64 0] : List Value)).all (·.oneCell') = true) := Lib.hid (all_oneCell_toArray (by simp [Value.oneCell']))
    go_wp2_with (with_reducible refine wpList_store_mid rfl 51 _ _ rfl w.heap.size 0 (List.toArray ([.int .i64 0, .int .i64 0, .int .i64 0, .int .i64 0, .string ⟨#[]⟩, .string ⟨#[]⟩, .string ⟨#[]⟩, .string ⟨#[]⟩, .string ⟨#[]⟩, .slice none 0 0, .string ⟨#[]⟩, .int .i64 0, .slice none 0 0, .int .i64 0, .int .i64 0, .string ⟨#[]⟩, .string ⟨#[]⟩, .string ⟨#[]⟩, .int .i64 0, .bool false, .int .i64 0, .int .i64 0, .int .i64 0] : List Value)) rfl rfl HTE4.out hsZ.out h1Z.out ?_)
    refine bodyPost_ret (results_cell_tmp rfl _ _ w.heap.size rfl [.int .i64 0, .int .i64 0, .int .i64 0, .int .i64 0, .string ⟨#[]⟩, .string ⟨#[]⟩, .string ⟨#[]⟩, .string ⟨#[]⟩, .string ⟨#[]⟩, .slice none 0 0, .string ⟨#[]⟩, .int .i64 0, .slice none 0 0, .int .i64 0, .int .i64 0, .string ⟨#[]⟩, .string ⟨#[]⟩, .string ⟨#[]⟩, .int .i64 0, .bool false, .int .i64 0, .int .i64 0, .int .i64 0] _ (HR4.out.setCells0 [.int .i64 0, .int .i64 0, .int .i64 0, .int .i64 0, .string ⟨#[]⟩, .string ⟨#[]⟩, .string ⟨#[]⟩, .string ⟨#[]⟩, .string ⟨#[]⟩, .slice none 0 0, .string ⟨#[]⟩, .int .i64 0, .slice none 0 0, .int .i64 0, .int .i64 0, .string ⟨#[]⟩, .string ⟨#[]⟩, .string ⟨#[]⟩, .int .i64 0, .bool false, .int .i64 0, .int .i64 0, .int .i64 0] rfl).range0 Try.underlying51 rfl hiZ.out) rfl ?_
    refine ⟨⟨[.int .i64 0, .int .i64 0, .int .i64 0, .int .i64 0, .string ⟨#[]⟩, .string ⟨#[]⟩, .string ⟨#[]⟩, .string ⟨#[]⟩, .string ⟨#[]⟩, .slice none 0 0, .string ⟨#[]⟩, .int .i64 0, .slice none 0 0, .int .i64 0, .int .i64 0, .string ⟨#[]⟩, .string ⟨#[]⟩, .string ⟨#[]⟩, .int .i64 0, .bool false, .int .i64 0, .int .i64 0, .int .i64 0], 11, rfl, rfl, by simp [Value.oneCell'], .inr ⟨rfl, fun ds h => ?_⟩⟩, HB4.out.trans (below_setCells_ (Nat.le_refl _) 0 [.int .i64 0, .int .i64 0, .int .i64 0, .int .i64 0, .string ⟨#[]⟩, .string ⟨#[]⟩, .string ⟨#[]⟩, .string ⟨#[]⟩, .string ⟨#[]⟩, .slice none 0 0, .string ⟨#[]⟩, .int .i64 0, .slice none 0 0, .int .i64 0, .int .i64 0, .string ⟨#[]⟩, .string ⟨#[]⟩, .string ⟨#[]⟩, .int .i64 0, .bool false, .int .i64 0, .int .i64 0, .int .i64 0])⟩
    have h2 := HBO.out.2 (by simp only [stepS, Option.bind_some, h, Option.map_some])
    cases h2
end Go.Proofs.Yteohhgkehkmgcaa
