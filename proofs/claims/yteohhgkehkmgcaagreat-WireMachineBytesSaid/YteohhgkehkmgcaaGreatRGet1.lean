/- The walks of the reference's gets. Printed by mkrget.py. -/
import Derived.Test.YteohhgkehkmgcaaGreatCu7
import Derived.Test.YteohhgkehkmgcaaGreatGet1
namespace Go.Proofs.YteohhgkehkmgcaaGreat
open Go.RowKit Le
set_option maxRecDepth 100000
set_option linter.unusedVariables false
set_option linter.unusedSimpArgs false

/-- How a reference's get ends. -/
def RGEnd (sh : List Sh) (l : List UInt8) (e : Ending) : Prop :=
  ∃ (vs : List Value) (E : Int), e = .returned (.tuple #[.agg vs.toArray, .int .i64 E]) ∧ vs.length = sh.length ∧ (∀ u ∈ vs, u.oneCell' = true) ∧ ((E = 0 ∧ ∃ ds, rds sh l = some (ds, [])) ∨ (E = 11 ∧ ∀ ds, rds sh l ≠ some (ds, [])))
set_option maxHeartbeats 800000 in
theorem rnew_any (A : Option Addr) (n c : Nat) (l : List UInt8) (w : World) (hb : Reads w w.heap.size A n (u8s l)) (hn : n ≤ c ∧ n ≤ 1099511627776 ∧ c ≤ 9223372036854775807) :
    Calls Tryz.prog 12 #[.slice A n c] w fun e w' => e = .returned (.pointer (some ⟨w.heap.size + 1, 0, none⟩)) ∧ CutAt w' w.heap.size (w.heap.size + 1) (some l) ∧ Below w.heap.size w w' := by
  have HB := Lib.hid hb
  clear hb
  go_enter Tryz.func12, Tryz.ntmps12
  go_wp2
  go_ret
  have h2 : Below w.heap.size w ((w.alloc (.cells #[.slice A n c, .int .i64 0] 106)).alloc (.cells #[.pointer (some ⟨w.heap.size, 0, none⟩), .bool false] 108)) := ((Below.refl _ _).alloc (Nat.le_refl _) _).alloc (by simp) _
  refine ⟨rfl, ⟨w.heap.size, A, n, c, 0, l, ?_, ?_, HB.out.below h2, ⟨hn.1, hn.2.1, hn.2.2, Nat.zero_le _⟩, fun l' h => by injection h, Nat.le_refl _, Nat.le_succ _⟩, h2⟩
  · have := Blk.new (w.alloc (.cells #[.slice A n c, .int .i64 0] 106)) 108 [.pointer (some ⟨w.heap.size, 0, none⟩), .bool false]
    simpa using this
  · exact (Blk.new w 106 [.slice A n c, .int .i64 0]).alloc _
set_option maxHeartbeats 800000 in
theorem whole_any (base g : Nat) (o : Option (List UInt8)) (w : World) (h : CutAt w base g o) :
    Calls Tryz.prog 14 #[.pointer (some ⟨g, 0, none⟩)] w fun e w' => (∃ b : Bool, e = .returned (.bool b) ∧ (b = true ↔ o = some [])) ∧ Below w.heap.size w w' := by
  obtain ⟨r, A, n, c, i, lb, hB, hCt, hR, hn, hd, hbr, hbg⟩ := h
  have hc0 : w.cell? ⟨g, 0, none⟩ = some (.pointer (some ⟨r, 0, none⟩)) := hB.cell 0
  have hlb : lb.length = n := reads_length hR
  have C := Lib.hid (cleft_any r A n c i w hCt hn.2.2.2 hn.2.1)
  cases o with
  | none =>
    have hc1 : w.cell? ⟨g, 1, none⟩ = some (.bool true) := hB.cell 1
    clear hB hCt hR hd
    go_enter Tryz.func14, Tryz.ntmps14
    go_wp2
    go_ret
    exact ⟨⟨false, rfl, by simp⟩, Below.refl _ _⟩
  | some l =>
    have hc1 : w.cell? ⟨g, 1, none⟩ = some (.bool false) := hB.cell 1
    have hl : (l = []) ↔ n - i = 0 := by
      have := hd l rfl
      rw [← this, List.drop_eq_nil_iff]
      omega
    have HL := Lib.hid hl
    clear hB hCt hR hd hl
    by_cases h0 : n - i = 0
    · have h1 : ((n - i : Nat) : Int) = 0 := by omega
      rw [h1] at C
      clear h1
      go_enter Tryz.func14, Tryz.ntmps14
      go_wp2_with fail
      refine (unhide C).mono ?_
      rintro e w1 ⟨rfl, m, rfl⟩
      go_wp2
      go_ret
      refine ⟨⟨true, rfl, by simp [HL.out.2 h0]⟩, by constructor <;> first | rfl | exact Nat.le_refl _ | (intros; rfl)⟩
    · have t1 : (((n - i : Nat) : Int) == 0) = false := by simp; omega
      go_enter Tryz.func14, Tryz.ntmps14
      go_wp2_with fail
      refine (unhide C).mono ?_
      rintro e w1 ⟨rfl, m, rfl⟩
      go_wp2
      go_ret
      refine ⟨⟨false, rfl, by simp; intro h; exact h0 (HL.out.1 h)⟩, by constructor <;> first | rfl | exact Nat.le_refl _ | (intros; rfl)⟩

end Go.Proofs.YteohhgkehkmgcaaGreat
