/-
  The statement WireRound of folkmootlaw03 is proved: for every input the law returns true, and its arguments read as before. Condition: what comes in is of bulk at most 1048576 (the statement's second form). The frame is turned from the kit's proof-skeleton; the walks lie in the texts that are imported.
-/
import Derived.Test.YteohhgkehkmgcaaRows
import Derived.Test.YteohhgkehkmgcaaFrame
import Derived.Test.YteohhgkehkmgcaaLaw3f
import Derived.Test.YteohhgkehkmgcaaOpen2
import Derived.WalkKit
import Derived.ProofKit
import Derived.OpenShut
import Derived.ChangeOld
import Derived.Below
import Derived.JoinedCond
namespace Go.Proofs.Yteohhgkehkmgcaa.wireRound
open Go.ChangeShapes Go.WideShapes Go.ChangeAt Go.RowKit
set_option linter.unusedVariables false

theorem own : ownKnob Try.prog.godebug = none := by kernel_rfl
theorem laidOut : laidOutB Try.prog = true := by kernel_rfl

theorem walk (cs0 : Array Value) (z0 : List Da) (cs1 : Array Value) (z1 : List Da) (cs2 : Array Value) (z2 : List Da) (w : World) (w0 : Cels w (· < w.heap.size) shOp z0 cs0.toList) (s0 : (lays shOp z0 ([], 0)).1.length ≤ 1099511627776) (w1 : Cels w (· < w.heap.size) shRecord z1 cs1.toList) (s1 : (lays shRecord z1 ([], 0)).1.length ≤ 1099511627776) (w2 : Cels w (· < w.heap.size) shCatalog z2 cs2.toList) (s2 : (lays shCatalog z2 ([], 0)).1.length ≤ 1099511627776) :
    Calls Try.prog 12 #[.agg cs0, .agg cs1, .agg cs2] w fun e w' => e = .returned (.bool true) ∧ Below w.heap.size w w' := by
  have h := wireRound_any z0 cs0.toList z1 cs1.toList z2 cs2.toList w w0 s0 w1 s1 w2 s2
  simpa using h

set_option maxRecDepth 100000 in
theorem contract (H : Type) (enc : TypeId × Value → H) (W : World) (base : Nat) (args : Array Value) (ds gs : List (DataW H)) (before : List MemPlace)
    (hval : ∀ (j : Nat) t v, Try.f12.params[j]? = some t → args[j]? = some v → Value.okWide Try.prog W .any base t v)
    (hW : DataW.Whole enc Try.prog Try.f12.params.toList Rows.wireRoundSpec.vars false W args.toList ds gs before) (hk : Rows.uptoSmall H (ds ++ gs) = true) :
    Calls Try.prog 12 args W fun e W' => ∃ v, e = .returned v ∧ Rows.wireRoundSpec.post enc Try.prog Try.f12 false true false false W args v W' := by
  have hW' := hW
  obtain ⟨p, q, hA0, hV, rfl, hfz, hnd⟩ := hW
  have hA : DataW.TrodAll enc Try.prog W 0 (fun _ => true) true Try.f12.params.toList args.toList ds p := hA0
  rw [Try.params12] at hA hval
  obtain ⟨v0, vs0, d0, ds0, p0, q0, hargs, rfl, rfl, h0, r0⟩ := trodAll_cons hA
  obtain ⟨v1, vs1, d1, ds1, p1, q1, rfl, rfl, rfl, h1, r1⟩ := trodAll_cons r0
  obtain ⟨v2, vs2, d2, ds2, p2, q2, rfl, rfl, rfl, h2, r2⟩ := trodAll_cons r1
  obtain ⟨rfl, rfl, rfl⟩ := trodAll_nil r2
  obtain rfl : args = #[v0, v1, v2] := by cases args; simp_all
  obtain ⟨rfl, rfl⟩ := trodVars_none hV
  obtain ⟨cs0, rfl, _⟩ : ∃ cs, v0 = .agg cs ∧ cs.size = Try.prog.cellsOf 51 := by
    have h := hval 0 51 v0 rfl rfl
    simp only [Value.okWide, Try.underlying51] at h
    obtain ⟨cs, h1, h2, _⟩ := h
    exact ⟨cs, h1, h2⟩
  have k0 := h0
  have lt0 : ∀ x ∈ p0, x.block < W.heap.size := by obtain ⟨m, hm⟩ := k0; exact DataW.trod_lt m _ _ _ hm
  obtain ⟨z0, w0, hw0⟩ : ∃ ds, Cels W (· < W.heap.size) shOp ds cs0.toList ∧ wts ds ≤ Rows.uptoBulk d0 := by
    obtain ⟨fuel, hf⟩ := h0
    exact open_fits2 60 60 51 shOp fuel cs0.toList _ (Nat.le_refl _) (by kernel_rfl) (by simpa [Value.cells] using hf)
  obtain ⟨cs1, rfl, _⟩ : ∃ cs, v1 = .agg cs ∧ cs.size = Try.prog.cellsOf 33 := by
    have h := hval 1 33 v1 rfl rfl
    simp only [Value.okWide, Try.underlying33] at h
    obtain ⟨cs, h1, h2, _⟩ := h
    exact ⟨cs, h1, h2⟩
  have k1 := h1
  have lt1 : ∀ x ∈ p1, x.block < W.heap.size := by obtain ⟨m, hm⟩ := k1; exact DataW.trod_lt m _ _ _ hm
  obtain ⟨z1, w1, hw1⟩ : ∃ ds, Cels W (· < W.heap.size) shRecord ds cs1.toList ∧ wts ds ≤ Rows.uptoBulk d1 := by
    obtain ⟨fuel, hf⟩ := h1
    exact open_fits2 60 60 33 shRecord fuel cs1.toList _ (Nat.le_refl _) (by kernel_rfl) (by simpa [Value.cells] using hf)
  obtain ⟨cs2, rfl, _⟩ : ∃ cs, v2 = .agg cs ∧ cs.size = Try.prog.cellsOf 74 := by
    have h := hval 2 74 v2 rfl rfl
    simp only [Value.okWide, Try.underlying74] at h
    obtain ⟨cs, h1, h2, _⟩ := h
    exact ⟨cs, h1, h2⟩
  have k2 := h2
  have lt2 : ∀ x ∈ p2, x.block < W.heap.size := by obtain ⟨m, hm⟩ := k2; exact DataW.trod_lt m _ _ _ hm
  obtain ⟨z2, w2, hw2⟩ : ∃ ds, Cels W (· < W.heap.size) shCatalog ds cs2.toList ∧ wts ds ≤ Rows.uptoBulk d2 := by
    obtain ⟨fuel, hf⟩ := h2
    exact open_fits2 60 60 74 shCatalog fuel cs2.toList _ (Nat.le_refl _) (by kernel_rfl) (by simpa [Value.cells] using hf)
  clear hA0
  have hkb : Rows.uptoBulkAll ([d0, d1, d2] : List (DataW H)) ≤ 1048576 := by
    simp only [List.append_nil] at hk
    exact of_decide_eq_true hk
  simp only [Rows.uptoBulkAll] at hkb
  refine (walk cs0 z0 cs1 z1 cs2 z2 W w0 (small_le hw0 (by omega)) w1 (small_le hw1 (by omega)) w2 (small_le hw2 (by omega))).mono fun e W' ⟨he, bel⟩ => ?_
  subst he
  exact ⟨_, rfl, _, _, _, [], _, [], hW', trodAll_mk1 (shut_bool Try.underlying4 _), (trodAll_cons_mk (Below.trod laidOut (by kernel_rfl) (of_decide_eq_true (by kernel_rfl)) k0 bel lt0) (trodAll_cons_mk (Below.trod laidOut (by kernel_rfl) (of_decide_eq_true (by kernel_rfl)) k1 bel lt1) (trodAll_cons_mk (Below.trod laidOut (by kernel_rfl) (of_decide_eq_true (by kernel_rfl)) k2 bel lt2) trodAll_mk0))), rfl, bel.frame _, fun h => by cases h⟩

set_option maxRecDepth 100000 in
theorem lifted (os : Os) (started : os.Started) (H : Type) (enc : TypeId × Value → H) (F : Stop.Interp) :
    ReturnsInHanded {} Try.checked os 12 .any ((Rows.OpenSpec.upto Rows.wireRoundSpec).pre6 enc Try.prog Try.f12 Rows.wireRoundUptoRow.domain false) (((Rows.OpenSpec.upto Rows.wireRoundSpec).at F).post enc Try.prog Try.f12 false true false false) := by
  refine returnsInHanded_of_cond (C := Try.checked) (s := Rows.OpenSpec.upto Rows.wireRoundSpec) (k := Rows.uptoSmall) rfl own started (by kernel_rfl) Try.func12
    (OpenSpec.witness (enc := enc) (C := Try.checked) (s := Rows.OpenSpec.upto Rows.wireRoundSpec) (k := Rows.uptoSmall) rfl false ⟨#[], #[.agg #[.int .i64 0, .int .i64 0, .int .i64 0, .int .i64 0, .string ByteArray.empty, .string ByteArray.empty, .string ByteArray.empty, .string ByteArray.empty, .string ByteArray.empty, .slice none 0 0, .string ByteArray.empty, .int .i64 0, .slice none 0 0, .int .i64 0, .int .i64 0, .string ByteArray.empty, .string ByteArray.empty, .string ByteArray.empty, .int .i64 0, .bool false, .int .i64 0, .int .i64 0, .int .i64 0], .agg #[.int .i64 0, .int .i64 0, .int .i64 0, .int .i64 0, .int .i64 0, .int .i64 0, .slice none 0 0, .slice none 0 0, .string ByteArray.empty, .int .i64 0, .int .i64 0, .int .i64 0, .slice none 0 0, .slice none 0 0, .string ByteArray.empty], .agg #[.int .i64 0, .int .i64 0, .slice none 0 0, .slice none 0 0, .slice none 0 0, .slice none 0 0, .slice none 0 0]], []⟩ 12 (by kernel_rfl) (by kernel_rfl) (by kernel_rfl)
      (x := ([.agg [.lit (.int .i64 0), .lit (.int .i64 0), .lit (.int .i64 0), .agg [.lit (.int .i64 0), .lit (.string []), .lit (.string []), .lit (.string []), .lit (.string []), .lit (.string []), .nil, .agg [.lit (.string []), .lit (.int .i64 0), .nil, .lit (.int .i64 0), .lit (.int .i64 0), .lit (.string []), .lit (.string []), .lit (.string [])], .lit (.int .i64 0), .lit (.bool false)], .lit (.int .i64 0), .lit (.int .i64 0), .lit (.int .i64 0)], .agg [.lit (.int .i64 0), .lit (.int .i64 0), .lit (.int .i64 0), .agg [.lit (.int .i64 0), .lit (.int .i64 0), .lit (.int .i64 0), .agg [.nil, .nil], .lit (.string [])], .lit (.int .i64 0), .agg [.lit (.int .i64 0), .lit (.int .i64 0), .agg [.nil, .nil], .lit (.string [])]], .agg [.lit (.int .i64 0), .lit (.int .i64 0), .agg [.nil, .nil], .agg [.nil, .nil], .nil]], [], [])) (by kernel_rfl) rfl (by kernel_rfl)) ?_
  intro W base args ds gs before hval hW _ hk _
  exact contract H enc W base args ds gs before hval hW hk

theorem proved : Rows.WireRoundUptoSaid :=
  OpenClaim.holds_of_cond 12 Try.f12 rfl rfl rfl rfl rfl rfl rfl ⟨rfl, rfl, rfl, rfl, rfl⟩ rfl rfl rfl rfl rfl (by kernel_rfl) Try.func12 (by kernel_rfl)
    (of_decide_eq_true (by kernel_rfl)) (by unfold Func.isWrapper; first | (rw [if_pos (by decide +kernel)]; kernel_rfl) | (rw [if_neg (by decide +kernel)]; exact ⟨rfl, rfl⟩))
    (fun os started H enc _ F => lifted os started H enc F)
#print axioms proved
end Go.Proofs.Yteohhgkehkmgcaa.wireRound
