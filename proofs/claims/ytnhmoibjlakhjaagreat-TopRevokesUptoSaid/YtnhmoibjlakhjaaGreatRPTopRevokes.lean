/-
  The statement TopRevokes of folkmoottop is proved: for every input the law returns true, and its arguments read as before. Condition: what comes in is of bulk at most 1048576 (the statement's second form). The frame is turned from the kit's proof-skeleton; the walks lie in the texts that are imported.
-/
import Derived.Test.YtnhmoibjlakhjaaGreatRows
import Derived.Test.YtnhmoibjlakhjaaGreatR02
import Derived.Test.YtnhmoibjlakhjaaGreatR47
import Derived.Test.YtnhmoibjlakhjaaGreatR44
import Derived.Test.YtnhmoibjlakhjaaGreatR46
import Derived.WalkKit
import Derived.ProofKit
import Derived.OpenShut
import Derived.ShutString
import Derived.ChangeOld
import Derived.Below
import Derived.JoinedCond
namespace Go.Proofs.YtnhmoibjlakhjaaGreat.topRevokes
open Go.ChangeShapes Go.WideShapes Go.ChangeAt Go.RowKit
open Go.ChangeMaps (open_string shut_string)
set_option linter.unusedVariables false

theorem own : ownKnob Tryz.prog.godebug = none := by kernel_rfl
theorem laidOut : laidOutB Tryz.prog = true := by kernel_rfl

theorem walk (a0 : Option Addr) (len0 cap0 : Nat) (z0 : List Da) (a1 : ByteArray) (a2 : ByteArray) (a3 : ByteArray) (a4 : Int) (a5 : ByteArray) (a6 : ByteArray) (w : World) (w0 : ZH w (· < w.heap.size) [.rows Xt] z0 [.slice a0 len0 cap0]) (s0 : Tj z0 ≤ 1048576) (s1 : a1.data.toList.length ≤ 1048576) (s2 : a2.data.toList.length ≤ 1048576) (s3 : a3.data.toList.length ≤ 1048576) (w4 : (Lit.int .i64 a4).wf = true) (s5 : a5.data.toList.length ≤ 1048576) (s6 : a6.data.toList.length ≤ 1048576) :
    Calls Tryz.prog 4 #[.slice a0 len0 cap0, .string a1, .string a2, .string a3, .int .i64 a4, .string a5, .string a6] w fun e w' => e = .returned (.bool true) ∧ Below w.heap.size w w' := by
  obtain ⟨l, rfl, hL, hx⟩ := KF w0 s0
  have tx : ∀ a : ByteArray, ∃ b, a = Z9 b ∧ b.length = a.data.toList.length := fun a => ⟨a.data.toList, by cases a; simp [Z9], rfl⟩
  obtain ⟨b1, rfl, e1⟩ := tx a1
  obtain ⟨b2, rfl, e2⟩ := tx a2
  obtain ⟨b3, rfl, e3⟩ := tx a3
  obtain ⟨b5, rfl, e5⟩ := tx a5
  obtain ⟨b6, rfl, e6⟩ := tx a6
  exact Rj l a0 cap0 b1 b2 b3 b5 b6 a4 w hL (fun x hm => (hx x hm).up (by omega)) (by omega) (by omega) (by omega) (by omega)

set_option maxRecDepth 100000 in
theorem contract (H : Type) (enc : TypeId × Value → H) (W : World) (base : Nat) (args : Array Value) (ds gs : List (DataW H)) (before : List MemPlace)
    (hval : ∀ (j : Nat) t v, Tryz.f4.params[j]? = some t → args[j]? = some v → Value.okWide Tryz.prog W .any base t v)
    (hW : DataW.Whole enc Tryz.prog Tryz.f4.params.toList Rows.topRevokesSpec.vars false W args.toList ds gs before) (hk : Rows.uptoSmall H (ds ++ gs) = true) :
    Calls Tryz.prog 4 args W fun e W' => ∃ v, e = .returned v ∧ Rows.topRevokesSpec.post enc Tryz.prog Tryz.f4 false true false false W args v W' := by
  have hW' := hW
  obtain ⟨p, q, hA0, hV, rfl, hfz, hnd⟩ := hW
  have hA : DataW.TrodAll enc Tryz.prog W 0 (fun _ => true) true Tryz.f4.params.toList args.toList ds p := hA0
  rw [Tryz.params4] at hA hval
  obtain ⟨v0, vs0, d0, ds0, p0, q0, hargs, rfl, rfl, h0, r0⟩ := trodAll_cons hA
  obtain ⟨v1, vs1, d1, ds1, p1, q1, rfl, rfl, rfl, h1, r1⟩ := trodAll_cons r0
  obtain ⟨v2, vs2, d2, ds2, p2, q2, rfl, rfl, rfl, h2, r2⟩ := trodAll_cons r1
  obtain ⟨v3, vs3, d3, ds3, p3, q3, rfl, rfl, rfl, h3, r3⟩ := trodAll_cons r2
  obtain ⟨v4, vs4, d4, ds4, p4, q4, rfl, rfl, rfl, h4, r4⟩ := trodAll_cons r3
  obtain ⟨v5, vs5, d5, ds5, p5, q5, rfl, rfl, rfl, h5, r5⟩ := trodAll_cons r4
  obtain ⟨v6, vs6, d6, ds6, p6, q6, rfl, rfl, rfl, h6, r6⟩ := trodAll_cons r5
  obtain ⟨rfl, rfl, rfl⟩ := trodAll_nil r6
  obtain rfl : args = #[v0, v1, v2, v3, v4, v5, v6] := by cases args; simp_all
  obtain ⟨rfl, rfl⟩ := trodVars_none hV
  have hkb : Rows.uptoBulkAll ([d0, d1, d2, d3, d4, d5, d6] : List (DataW H)) ≤ 1048576 := by
    simp only [List.append_nil] at hk
    exact of_decide_eq_true hk
  obtain ⟨a0, len0, cap0, rfl⟩ := okWide_slice Tryz.underlying22 (hval 0 22 v0 rfl rfl)
  have k0 := h0
  have lt0 : ∀ x ∈ p0, x.block < W.heap.size := by obtain ⟨m, hm⟩ := k0; exact DataW.trod_lt m _ _ _ hm
  obtain ⟨z0, w0, hw0⟩ : ∃ ds, ZH W (· < W.heap.size) [.rows Xt] ds [.slice a0 len0 cap0] ∧ Tj ds ≤ Rows.uptoBulk d0 := by
    obtain ⟨fuel, hf⟩ := h0
    exact NE 60 60 22 [.rows Xt] fuel [.slice a0 len0 cap0] _ (Nat.le_refl _) (by kernel_rfl) (by simpa [Value.cells] using hf)
  obtain ⟨a1, rfl, rfl, rfl, w1⟩ := open_string Tryz.underlying9 (hval 1 9 v1 rfl rfl) h1
  obtain ⟨a2, rfl, rfl, rfl, w2⟩ := open_string Tryz.underlying9 (hval 2 9 v2 rfl rfl) h2
  obtain ⟨a3, rfl, rfl, rfl, w3⟩ := open_string Tryz.underlying9 (hval 3 9 v3 rfl rfl) h3
  obtain ⟨a4, rfl, rfl, rfl, w4⟩ := open_int Tryz.underlying41 (hval 4 41 v4 rfl rfl) h4
  obtain ⟨a5, rfl, rfl, rfl, w5⟩ := open_string Tryz.underlying9 (hval 5 9 v5 rfl rfl) h5
  obtain ⟨a6, rfl, rfl, rfl, w6⟩ := open_string Tryz.underlying9 (hval 6 9 v6 rfl rfl) h6
  clear hA0
  simp only [Rows.uptoBulkAll, Rows.uptoBulk] at hkb
  refine (walk a0 len0 cap0 z0 a1 a2 a3 a4 a5 a6 W w0 (by omega) (by omega) (by omega) (by omega) w4 (by omega) (by omega)).mono fun e W' ⟨he, SR⟩ => ?_
  subst he
  exact ⟨_, rfl, _, _, _, [], _, [], hW', trodAll_mk1 (shut_bool Tryz.underlying4 _), (trodAll_cons_mk (Below.trod laidOut (by kernel_rfl) (of_decide_eq_true (by kernel_rfl)) k0 SR lt0) (trodAll_cons_mk (shut_string Tryz.underlying9 w1) (trodAll_cons_mk (shut_string Tryz.underlying9 w2) (trodAll_cons_mk (shut_string Tryz.underlying9 w3) (trodAll_cons_mk (shut_int Tryz.underlying41 w4) (trodAll_cons_mk (shut_string Tryz.underlying9 w5) (trodAll_cons_mk (shut_string Tryz.underlying9 w6) trodAll_mk0))))))), rfl, SR.frame _, fun h => by cases h⟩

set_option maxRecDepth 100000 in
theorem lifted (os : Os) (started : os.Started) (H : Type) (enc : TypeId × Value → H) (F : Stop.Interp) :
    ReturnsInHanded {} Tryz.checked os 4 .any ((Rows.OpenSpec.upto Rows.topRevokesSpec).pre6 enc Tryz.prog Tryz.f4 Rows.topRevokesUptoRow.domain false) (((Rows.OpenSpec.upto Rows.topRevokesSpec).at F).post enc Tryz.prog Tryz.f4 false true false false) := by
  refine returnsInHanded_of_cond (C := Tryz.checked) (s := Rows.OpenSpec.upto Rows.topRevokesSpec) (k := Rows.uptoSmall) rfl own started (by kernel_rfl) Tryz.func4
    (OpenSpec.witness (enc := enc) (C := Tryz.checked) (s := Rows.OpenSpec.upto Rows.topRevokesSpec) (k := Rows.uptoSmall) rfl false ⟨#[], #[.slice none 0 0, .string ByteArray.empty, .string ByteArray.empty, .string ByteArray.empty, .int .i64 0, .string ByteArray.empty, .string ByteArray.empty], []⟩ 12 (by kernel_rfl) (by kernel_rfl) (by kernel_rfl)
      (x := ([.nil, .lit (.string []), .lit (.string []), .lit (.string []), .lit (.int .i64 0), .lit (.string []), .lit (.string [])], [], [])) (by kernel_rfl) rfl (by kernel_rfl)) ?_
  intro W base args ds gs before hval hW _ hk _
  exact contract H enc W base args ds gs before hval hW hk

theorem proved : Rows.TopRevokesUptoSaid :=
  OpenClaim.holds_of_cond 4 Tryz.f4 rfl rfl rfl rfl rfl rfl rfl ⟨rfl, rfl, rfl, rfl, rfl⟩ rfl rfl rfl rfl rfl (by kernel_rfl) Tryz.func4 (by kernel_rfl)
    (of_decide_eq_true (by kernel_rfl)) (by unfold Func.isWrapper; first | (rw [if_pos (by decide +kernel)]; kernel_rfl) | (rw [if_neg (by decide +kernel)]; exact ⟨rfl, rfl⟩))
    (fun os started H enc _ F => lifted os started H enc F)
#print axioms proved
end Go.Proofs.YtnhmoibjlakhjaaGreat.topRevokes
