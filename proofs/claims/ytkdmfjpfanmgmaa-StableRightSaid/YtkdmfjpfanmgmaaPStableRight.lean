/-
  The statement StableRight of folkmootlaw15 is proved: for every input the law returns true, and its arguments read as before. Condition: none. The frame is turned from the kit's proof-skeleton; the walks lie in the texts that are imported.
-/
import Derived.Test.YtkdmfjpfanmgmaaRows
import Derived.Test.YtkdmfjpfanmgmaaFrame
import Derived.Test.YtkdmfjpfanmgmaaFold28
import Derived.WalkKit
import Derived.ProofKit
import Derived.OpenShut
import Derived.ChangeOld
import Derived.SizedLaws
import Derived.Test.YtkdmfjpfanmgmaaOpen4
import Derived.Below
namespace Go.Proofs.Ytkdmfjpfanmgmaa.stableRight
open Go.ChangeShapes Go.WideShapes Go.ChangeAt Go.RowKit
set_option linter.unusedVariables false

theorem own : ownKnob Try.prog.godebug = none := by kernel_rfl
theorem laidOut : laidOutB Try.prog = true := by kernel_rfl

theorem walk (cs0 : Array Value) (z0 : List Da) (cs1 : Array Value) (z1 : List Da) (w : World) (w0 : Cels w (· < w.heap.size) shKept z0 cs0.toList) (t0 : tames z0) (w1 : Cels w (· < w.heap.size) shRecord z1 cs1.toList) (t1 : tames z1) :
    Calls Try.prog 4 #[.agg cs0, .agg cs1] w fun e w' => e = .returned (.bool true) ∧ Below w.heap.size w w' := by
  obtain ⟨k, A, c, B, d, E, n, rfl, hk, h1, h2, h3⟩ := Kep.open_ w0
  obtain ⟨r, A1, c1, B1, d1, A2, c2, B2, d2, rfl, hr, g1, g2, g3, g4⟩ := Rcd.open_ w1
  have h := stableRight_any k r A c B d E n A1 c1 B1 d1 A2 c2 B2 d2 w ⟨h1, h2, h3⟩ ⟨g1, g2, g3, g4⟩ (kep_tame t0) (rcd_tame t1)
  have e0 : cs0 = (k.cs A c B d E n).toArray := by
    rw [← Array.toArray_toList (xs := cs0), hk]
    rfl
  have e1 : cs1 = (r.cs A1 c1 B1 d1 A2 c2 B2 d2).toArray := by
    rw [← Array.toArray_toList (xs := cs1), hr]
    rfl
  rw [e0, e1]
  exact h

set_option maxRecDepth 100000 in
theorem lifted (os : Os) (started : os.Started) (H : Type) (enc : TypeId × Value → H) :
    ReturnsInHanded {} Try.checked os 4 .any (Rows.stableRightSpec.pre6 enc Try.prog Try.f4 Rows.stableRightRow.domain false) (Rows.stableRightSpec.post enc Try.prog Try.f4 false true false false) := by
  refine returnsInHanded_of_change_sized (C := Try.checked) own started (by kernel_rfl) Try.func4
    (ChangeSpec.witness6 (enc := enc) (C := Try.checked) false ⟨#[], #[.agg #[.int .i64 0, .int .i64 0, .int .i64 0, .int .i64 0, .slice none 0 0, .slice none 0 0, .string ByteArray.empty, .slice none 0 0], .agg #[.int .i64 0, .int .i64 0, .int .i64 0, .int .i64 0, .int .i64 0, .int .i64 0, .slice none 0 0, .slice none 0 0, .string ByteArray.empty, .int .i64 0, .int .i64 0, .int .i64 0, .slice none 0 0, .slice none 0 0, .string ByteArray.empty]], []⟩ 12 (by kernel_rfl) (by kernel_rfl) (by kernel_rfl) (by kernel_rfl)) ?_
  intro W base args ds gs before hval0 hW hcnd hsz0 _
  have hval : ∀ (j : Nat) t v, Try.f4.params[j]? = some t → args[j]? = some v → Value.okWide Try.prog W .any base t v := hval0
  have hW' := hW
  obtain ⟨p, q, hA0, hV, rfl, hfz, hnd⟩ := hW
  have hA : DataW.TrodAll enc Try.prog W 0 (fun _ => true) true Try.f4.params.toList args.toList ds p := hA0
  have hsz : (DataW.weightsEach Try.prog (Try.f4.params.toList ++ Rows.stableRightSpec.plain.varTypes Try.prog) (ds ++ gs)).all (· ≤ reachBytes) = true := hsz0
  rw [Try.params4] at hA hval hsz
  obtain ⟨v0, vs0, d0, ds0, p0, q0, hargs, rfl, rfl, h0, r0⟩ := trodAll_cons hA
  obtain ⟨v1, vs1, d1, ds1, p1, q1, rfl, rfl, rfl, h1, r1⟩ := trodAll_cons r0
  obtain ⟨rfl, rfl, rfl⟩ := trodAll_nil r1
  obtain rfl : args = #[v0, v1] := by cases args; simp_all
  obtain ⟨rfl, rfl⟩ := trodVars_none hV
  obtain ⟨cs0, rfl, _⟩ : ∃ cs, v0 = .agg cs ∧ cs.size = Try.prog.cellsOf 30 := by
    have h := hval 0 30 v0 rfl rfl
    simp only [Value.okWide, Try.underlying30] at h
    obtain ⟨cs, h1, h2, _⟩ := h
    exact ⟨cs, h1, h2⟩
  have k0 := h0
  have lt0 : ∀ x ∈ p0, x.block < W.heap.size := by obtain ⟨m, hm⟩ := k0; exact DataW.trod_lt m _ _ _ hm
  obtain ⟨z0, w0, t0⟩ : ∃ ds, Cels W (· < W.heap.size) shKept ds cs0.toList ∧ tames ds := by
    obtain ⟨fuel, hf⟩ := h0
    exact open_fits3 60 60 30 shKept fuel cs0.toList _ (Nat.le_refl _) (by kernel_rfl) (by simpa [Value.cells] using hf) (fun n hn => by simpa using List.all_eq_true.1 hsz n (DataW.weights_mem_each (j := 0) (t := 30) (d := d0) rfl rfl n hn))
  obtain ⟨cs1, rfl, _⟩ : ∃ cs, v1 = .agg cs ∧ cs.size = Try.prog.cellsOf 36 := by
    have h := hval 1 36 v1 rfl rfl
    simp only [Value.okWide, Try.underlying36] at h
    obtain ⟨cs, h1, h2, _⟩ := h
    exact ⟨cs, h1, h2⟩
  have k1 := h1
  have lt1 : ∀ x ∈ p1, x.block < W.heap.size := by obtain ⟨m, hm⟩ := k1; exact DataW.trod_lt m _ _ _ hm
  obtain ⟨z1, w1, t1⟩ : ∃ ds, Cels W (· < W.heap.size) shRecord ds cs1.toList ∧ tames ds := by
    obtain ⟨fuel, hf⟩ := h1
    exact open_fits3 60 60 36 shRecord fuel cs1.toList _ (Nat.le_refl _) (by kernel_rfl) (by simpa [Value.cells] using hf) (fun n hn => by simpa using List.all_eq_true.1 hsz n (DataW.weights_mem_each (j := 1) (t := 36) (d := d1) rfl rfl n hn))
  clear hA0 hval0 hsz0 hsz
  refine (walk cs0 z0 cs1 z1 W w0 t0 w1 t1).mono fun e W' ⟨he, bel⟩ => ?_
  subst he
  exact ⟨_, rfl, _, _, _, [], _, [], hW', trodAll_mk1 (shut_bool Try.underlying4 _), (trodAll_cons_mk (Below.trod laidOut (by kernel_rfl) (of_decide_eq_true (by kernel_rfl)) k0 bel lt0) (trodAll_cons_mk (Below.trod laidOut (by kernel_rfl) (of_decide_eq_true (by kernel_rfl)) k1 bel lt1) trodAll_mk0)), rfl, bel.frame _, fun h => by cases h⟩

theorem over : Rows.stableRightRow.holds Try.pinned (OpenSpec.ofChange Rows.stableRightSpec) :=
  OpenClaim.holds_of_wide 4 Try.f4 rfl rfl rfl rfl rfl rfl rfl ⟨rfl, rfl, rfl, rfl, rfl⟩ rfl rfl rfl rfl rfl (by kernel_rfl) Try.func4 (by kernel_rfl)
    (of_decide_eq_true (by kernel_rfl)) (by unfold Func.isWrapper; first | (rw [if_pos (by decide +kernel)]; kernel_rfl) | (rw [if_neg (by decide +kernel)]; exact ⟨rfl, rfl⟩))
    (fun os started H enc _ => lifted os started H enc)

theorem proved : Rows.StableRightSaid := over
#print axioms proved
end Go.Proofs.Ytkdmfjpfanmgmaa.stableRight
