/- What is thrown is caught: the deferred calls of put and get. -/
import Derived.Test.YtkdmfjpfanmgmaaWr2
import Derived.Recover
import Derived.Defers
namespace Go.Proofs.Ytkdmfjpfanmgmaa
open Go.RowKit Le
set_option maxRecDepth 100000
set_option linter.unusedSimpArgs false

theorem fault_is (E : Nat) (w : World) : (Instr.typeAssert (.iface 92 (.agg #[.int .i64 E])) 20 92 false).run Try.prog w = .ok (.agg #[.int .i64 E]) w := by kernel_rfl
theorem fault_field (E : Nat) (w : World) : (Instr.field 92 (.agg #[.int .i64 E]) 0).run Try.prog w = .ok (.int .i64 E) w := by kernel_rfl
set_option maxHeartbeats 800000 in
theorem caught_idle (p : Addr) (w : World) :
    CallsD Try.prog 56 #[.pointer (some p)] .returning w fun e u' w' => e = .returned (.tuple #[]) ∧ u' = .returning ∧ w' = w := by
  refine callsD_of_wpS Try.func56 rfl fun c₀ cs hu => ?_
  apply wpS_seq
  apply wpS_region
  simp [wpOpsS, go_sem, recoverD, hu, Try.ntmps56, Exit.thenS]
  apply wpS_seq
  apply wpS_region
  simp [wpOpsS, go_sem, recoverD, hu, Try.ntmps56, Exit.thenS]
  refine wpS_cond (t := false) (by simp [Act.eval, Array.replicate]) ?_
  simp only [Bool.false_eq_true, if_false]
  refine wpS_of_wp (wp_skip ?_)
  cases c₀
  simp_all [bodyPostS, results]

set_option maxHeartbeats 800000 in
theorem caught_hit (p : Addr) (E : Nat) (x : Int) (older : List PanicEntry) (w : World) (hc : w.cell? p = some (.int .i64 x)) (hz : w.frozen? p = false) :
    CallsD Try.prog 56 #[.pointer (some p)] (.panicking ({ v := .iface 92 (.agg #[.int .i64 E]), recovered := false } :: older)) w fun e u' w' =>
      e = .returned (.tuple #[]) ∧ u' = .panicking ({ v := .iface 92 (.agg #[.int .i64 E]), recovered := true } :: older) ∧ w' = w.setCell p (.int .i64 E) := by
  refine callsD_of_wpS Try.func56 rfl fun c₀ cs hu => ?_
  apply wpS_seq
  apply wpS_region
  simp [wpOpsS, go_sem, recoverD, hu, Try.ntmps56, Exit.thenS]
  apply wpS_seq
  apply wpS_region
  simp [wpOpsS, go_sem, recoverD, hu, Try.ntmps56, Exit.thenS]
  refine wpS_cond (t := true) (by simp [Act.eval, Array.replicate]) ?_
  simp only [if_true]
  refine wpS_of_wp ?_
  have hta := fault_is E
  have htf := fault_field E
  clear hu
  go_wp2
  simp [bodyPostS, results]

theorem len_cons {α : Type} {l : List α} {n : Nat} (h : l.length = n + 1) : ∃ a l', l = a :: l' ∧ l'.length = n := by
  cases l with
  | nil => simp at h
  | cons a l => exact ⟨a, l, rfl, by simpa using h⟩
theorem len_nil {α : Type} {l : List α} (h : l.length = 0) : l = [] := List.eq_nil_of_length_eq_zero h
/-- What comes out. -/
def out (s : St) : List UInt8 := if s.2 = 0 then s.1 else []
/-- How a put ends: the bytes, or the first error. -/
def PutEnd (s : St) (w' : World) (e : Ending) : Prop :=
  ∃ A n c, e = .returned (.tuple #[.slice A n c, .int .i64 s.2]) ∧ n = (out s).length ∧ (n ≤ c ∧ c ≤ 9223372036854775807) ∧ Reads w' w'.heap.size A n (u8s (out s))
theorem own_cap {w : World} {base : Nat} {e : TypeId} {size n c : Nat} {A : Option Addr} {xs : List Value} (h : w.ownsRow base e size (.slice A n c) n xs) : n ≤ c ∧ c ≤ 9223372036854775807 := by
  rcases h.2 with ⟨h1, h2⟩ | ⟨g, cap, cur, h1, _, _, h2, h3, _⟩
  · injection h1 with _ h3 h4
    omega
  · injection h1 with _ _ h4
    subst h4
    exact ⟨h2, h3⟩

end Go.Proofs.Ytkdmfjpfanmgmaa
