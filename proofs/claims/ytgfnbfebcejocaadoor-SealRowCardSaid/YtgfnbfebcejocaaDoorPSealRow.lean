/-
  The card of SealRow (folkmootlaw02) is proved: for every input the law returns true, and its arguments read as before. Condition: the table folkmoot/seal.steps holds what the program's text lays there (the card ties it); the seat's translation is of a pruned copy: the packages that its roots load. The frame is turned from the seat's worked page UptoLaidToy and the kit's proof-skeleton; the walks lie in the texts that are imported.
-/
import Derived.Test.YtgfnbfebcejocaaDoorCards
import Derived.Test.YtgfnbfebcejocaaDoorTie
import Derived.Test.YtgfnbfebcejocaaDoorFrame
import Derived.Test.YtgfnbfebcejocaaDoorRows2
import Derived.WalkKit
import Derived.ProofKit
import Derived.OpenShut
import Derived.Deep.DeepHandedRow
import Derived.Lib.LaidTab
namespace Go.Proofs.YtgfnbfebcejocaaDoor.sealRow
open Go.ChangeShapes Go.WideShapes Go.ChangeAt Go.RowKit
set_option linter.unusedVariables false

theorem own : ownKnob Tryd.prog.godebug = none := by kernel_rfl
theorem laidOut : laidOutB Tryd.prog = true := by kernel_rfl
theorem gTab : Tryd.prog.globalNamed "folkmoot/seal.steps" = some 0 := by kernel_rfl
theorem gTabType : (Tryd.prog.globals[0]?).map (·.type) = some 41 := by kernel_rfl
theorem cellsArr : Tryd.prog.cellsOf 41 = 16 := by kernel_rfl
theorem cellsOne : Tryd.prog.cellsOf 24 = 1 := by kernel_rfl

theorem table {W : World} (h : laidMetH Tryd.prog Rows.sealRowRow.laid W) : Lib.TabIs Tryd.prog W "folkmoot/seal.steps" .u32 [0, 498536548, 997073096, 651767980, 1994146192, 1802195444, 1303535960, 1342533948, 3988292384, 4027552580, 3604390888, 3412177804, 2607071920, 2262029012, 2685067896, 3183342108] :=
  Lib.tabIs_of_head (rest := []) gTab gTabType Tryd.underlying41 Tryd.underlying24 cellsOne cellsArr h
theorem tab {W : World} (h : laidMetH Tryd.prog Rows.sealRowRow.laid W) : Tab W := by
  intro i hi
  have ht := table h
  match i, hi with
  | 0, _ => exact ht.cell gTab 0 (by decide)
  | 1, _ => exact ht.cell gTab 1 (by decide)
  | 2, _ => exact ht.cell gTab 2 (by decide)
  | 3, _ => exact ht.cell gTab 3 (by decide)
  | 4, _ => exact ht.cell gTab 4 (by decide)
  | 5, _ => exact ht.cell gTab 5 (by decide)
  | 6, _ => exact ht.cell gTab 6 (by decide)
  | 7, _ => exact ht.cell gTab 7 (by decide)
  | 8, _ => exact ht.cell gTab 8 (by decide)
  | 9, _ => exact ht.cell gTab 9 (by decide)
  | 10, _ => exact ht.cell gTab 10 (by decide)
  | 11, _ => exact ht.cell gTab 11 (by decide)
  | 12, _ => exact ht.cell gTab 12 (by decide)
  | 13, _ => exact ht.cell gTab 13 (by decide)
  | 14, _ => exact ht.cell gTab 14 (by decide)
  | 15, _ => exact ht.cell gTab 15 (by decide)
  | (n + 16), h => omega

theorem walk (a0 : Option Addr) (len0 cap0 : Nat) (z0 : List (List UInt8)) (a1 : Int) (w : World) (hT : Tab w) (w0 : Rows2 w a0 len0 cap0 z0) (w1 : (Lit.int .i64 a1).wf = true) :
    Calls Tryd.prog 9 #[.slice a0 len0 cap0, .int .i64 a1] w fun e w' => e = .returned (.bool true) ∧ Below w.heap.size w w' := by
  have hb : -9223372036854775808 ≤ a1 ∧ a1 ≤ 9223372036854775807 := by simpa [Lit.wf, IntKind.min, IntKind.max, IntKind.signed, IntKind.bits] using w1
  by_cases h : len0 ≤ 50
  · exact sealRow_small a0 len0 cap0 a1 z0 w hT w0.1 w0.2 h hb
  · exact sealRow_big a0 len0 cap0 a1 w (by omega)

theorem contract (H : Type) (enc : TypeId × Value → H) (W : World) (base : Nat) (args : Array Value) (ds gs : List (DataW H)) (before : List MemPlace)
    (hval : ∀ (j : Nat) t v, Tryd.f9.params[j]? = some t → args[j]? = some v → Value.okWide Tryd.prog W .any base t v)
    (hW : DataW.Whole enc Tryd.prog Tryd.f9.params.toList Rows.sealRowSpec.vars false W args.toList ds gs before) (hL : laidMetH Tryd.prog Rows.sealRowRow.laid W) :
    Calls Tryd.prog 9 args W fun e W' => ∃ v, e = .returned v ∧ Rows.sealRowSpec.post enc Tryd.prog Tryd.f9 false true false false W args v W' := by
  have hW' := hW
  obtain ⟨p, q, hA0, hV, rfl, hfz, hnd⟩ := hW
  have hA : DataW.TrodAll enc Tryd.prog W 0 (fun _ => true) true Tryd.f9.params.toList args.toList ds p := hA0
  rw [Tryd.params9] at hA hval
  obtain ⟨v0, vs0, d0, ds0, p0, q0, hargs, rfl, rfl, h0, r0⟩ := trodAll_cons hA
  obtain ⟨v1, vs1, d1, ds1, p1, q1, rfl, rfl, rfl, h1, r1⟩ := trodAll_cons r0
  obtain ⟨rfl, rfl, rfl⟩ := trodAll_nil r1
  obtain rfl : args = #[v0, v1] := by cases args; simp_all
  obtain ⟨rfl, rfl⟩ := trodVars_none hV
  obtain ⟨a0, len0, cap0, rfl⟩ := okWide_slice Tryd.underlying35 (hval 0 35 v0 rfl rfl)
  have k0 := h0
  have lt0 : ∀ x ∈ p0, x.block < W.heap.size := by obtain ⟨m, hm⟩ := k0; exact DataW.trod_lt m _ _ _ hm
  obtain ⟨z0, w0⟩ : ∃ ls, Rows2 W a0 len0 cap0 ls := by
    obtain ⟨fuel, hf⟩ := h0
    exact rows2_open (by simpa [Value.cells] using hf)
  obtain ⟨a1, rfl, rfl, rfl, w1⟩ := open_int Tryd.underlying3 (hval 1 3 v1 rfl rfl) h1
  clear hA0
  refine (walk a0 len0 cap0 z0 a1 W (tab hL) w0 w1).mono fun e W' ⟨he, bel⟩ => ?_
  subst he
  exact ⟨_, rfl, _, _, _, [], _, [], hW', trodAll_mk1 (shut_bool Tryd.underlying4 _), (trodAll_cons_mk (Below.trod laidOut (by kernel_rfl) (of_decide_eq_true (by kernel_rfl)) k0 bel lt0) (trodAll_cons_mk (shut_int Tryd.underlying3 w1) trodAll_mk0)), rfl, bel.frame _, fun h => by cases h⟩

noncomputable def laidWorld (os : Os) : World :=
  { World.holding Tryd.prog os ⟨#[], #[], []⟩ with heap := (World.holding Tryd.prog os ⟨#[], #[], []⟩).heap.modify 0 fun
      | .cells _ t frozen => .cells #[.int .u32 0, .int .u32 498536548, .int .u32 997073096, .int .u32 651767980, .int .u32 1994146192, .int .u32 1802195444, .int .u32 1303535960, .int .u32 1342533948, .int .u32 3988292384, .int .u32 4027552580, .int .u32 3604390888, .int .u32 3412177804, .int .u32 2607071920, .int .u32 2262029012, .int .u32 2685067896, .int .u32 3183342108] t frozen
      | o => o }
theorem laid_met (os : Os) : laidMet Tryd.prog Rows.sealRowRow.laid ((laidWorld os).forCall (fun _ _ => 0) ⟨#[], #[.slice none 0 0, .int .i64 0], []⟩).memory :=
  laidMet_of_run' 20 (by kernel_rfl) (by kernel_rfl)
theorem reads (os : Os) {H : Type} (enc : TypeId × Value → H) : ∃ places, DataW.whole enc Tryd.prog ((laidWorld os).forCall (fun _ _ => 0) ⟨#[], #[.slice none 0 0, .int .i64 0], []⟩).memory Tryd.f9.params.toList Rows.sealRowSpec.vars false (#[.slice none 0 0, .int .i64 0] : Array Value).toList 8 = some ([.nil, .lit (.int .i64 0)], [], places) :=
  ⟨[], by kernel_rfl⟩

set_option maxRecDepth 100000 in
theorem lifted (os : Os) (started : os.Started) (H : Type) (enc : TypeId × Value → H) (F : Stop.Interp) :
    ReturnsInHanded {} Tryd.checked os 9 .any ((OpenSpec.ofChange Rows.sealRowSpec).preRow enc Tryd.prog Tryd.f9 Rows.sealRowRow.domain false Rows.sealRowRow.laid) (((OpenSpec.ofChange Rows.sealRowSpec).at F).post enc Tryd.prog Tryd.f9 false true false false) := by
  obtain ⟨places, hx⟩ := reads os enc
  refine returnsInHanded_of_row (C := Tryd.checked) (s := OpenSpec.ofChange Rows.sealRowSpec) own started (by kernel_rfl) Tryd.func9
    (witness_row_at (enc := enc) (C := Tryd.checked) false (laidWorld os) #[.slice none 0 0, .int .i64 0] rfl (by kernel_rfl) (by kernel_rfl) (by kernel_rfl)
      (OpenSpec.preRow_of_cond 8 hx (by kernel_rfl) (fun k hk => by cases hk) (by kernel_rfl) (laid_met os))) ?_
  intro W base args ds gs before hval hW _ _ _ hL _ _
  exact contract H enc W base args ds gs before hval hW hL

theorem said : Rows.SealRowSaid :=
  OpenClaim.holds_of_cond 9 Tryd.f9 rfl rfl rfl rfl rfl rfl rfl ⟨rfl, rfl, rfl, rfl, rfl⟩ rfl rfl rfl rfl rfl (by kernel_rfl) Tryd.func9 (by kernel_rfl)
    (of_decide_eq_true (by kernel_rfl)) (by unfold Func.isWrapper; first | (rw [if_pos (by decide +kernel)]; kernel_rfl) | (rw [if_neg (by decide +kernel)]; exact ⟨rfl, rfl⟩))
    (fun os started H enc _ F => by rw [OpenClaim.pre_eq_preRow]; exact lifted os started H enc F)

theorem wants3 : Tryd.prog.wantsStandIn 3 = false := by kernel_rfl
theorem wants35 : Tryd.prog.wantsStandIn 35 = false := by kernel_rfl
theorem plain (f : FuncId) (fn : Func) (hf : Tryd.pinned.checked.prog.funcNamed "folkmoot/folkmootlaw02.SealRow" = some f) (hfn : Tryd.pinned.checked.prog.funcs[f]? = some fn) :
    false = Tryd.pinned.checked.prog.looks [] ∧ ∀ (j : Nat) t, fn.params[j]? = some t → Tryd.pinned.checked.prog.wantsStandIn t = false := by
  obtain rfl : f = 9 := Option.some.inj ((show Tryd.prog.funcNamed "folkmoot/folkmootlaw02.SealRow" = some 9 by kernel_rfl).symm.trans hf) |>.symm
  obtain rfl : fn = Tryd.f9 := (Option.some.inj (Tryd.func9.symm.trans hfn)).symm
  refine ⟨by kernel_rfl, fun j t ht => ?_⟩
  rw [Tryd.params9] at ht
  have hm := Array.mem_of_getElem? ht
  simp at hm
  rcases hm with rfl | rfl
  · exact wants35
  · exact wants3

theorem proved : Rows.SealRowCardSaid :=
  Claim7.holds_tied_plain_at .later [] _ _ _ _ said (fun _ h => by cases h) (by kernel_rfl) (fun _ h => by cases h) sealRow_row_tie rfl ⟨rfl, rfl⟩ (by kernel_rfl) rfl plain (by kernel_rfl)
#print axioms proved
end Go.Proofs.YtgfnbfebcejocaaDoor.sealRow
