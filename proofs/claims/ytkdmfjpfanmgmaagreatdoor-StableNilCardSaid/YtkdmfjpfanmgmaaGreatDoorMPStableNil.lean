/-
  The card of StableNil (folkmootlaw15) is proved: for every input the law returns true, and its argument reads as before. Condition: the listed package-level variables hold what the program's text lays there (the card ties them); the seat's translation is of a pruned copy: the packages that its roots load. The frame is turned from the seat's worked page UptoLaidToy and the kit's proof-skeleton; the walks lie in the texts that are imported.
-/
import Derived.Test.YtkdmfjpfanmgmaaGreatDoorCards
import Derived.Test.YtkdmfjpfanmgmaaGreatDoorTie
import Derived.Test.YtkdmfjpfanmgmaaGreatDoorM02
import Derived.Test.YtkdmfjpfanmgmaaGreatDoorM50
import Derived.Test.YtkdmfjpfanmgmaaGreatDoorM51
import Derived.WalkKit
import Derived.ProofKit
import Derived.OpenShut
import Derived.Deep.DeepHandedRow
import Derived.Lib.LaidTab
import Derived.Stop.LaidErr
namespace Go.Proofs.YtkdmfjpfanmgmaaGreatDoor.stableNil
open Go.ChangeShapes Go.WideShapes Go.ChangeAt Go.RowKit
set_option linter.unusedVariables false
set_option maxRecDepth 100000

theorem own : ownKnob Tryz.prog.godebug = none := by kernel_rfl
theorem laidOut : laidOutB Tryz.prog = true := by kernel_rfl
theorem gTab : Tryz.prog.globalNamed "folkmoot/seal.steps" = some 3 := by kernel_rfl
theorem gTabType : (Tryz.prog.globals[3]?).map (·.type) = some 205 := by kernel_rfl
theorem gNam : Tryz.prog.globalNamed "folkmoot/stable.names" = some 0 := by kernel_rfl
theorem gNamType : (Tryz.prog.globals[0]?).map (·.type) = some 57 := by kernel_rfl
theorem cellsArr : Tryz.prog.cellsOf 205 = 16 := by kernel_rfl
theorem cellsOne : Tryz.prog.cellsOf 182 = 1 := by kernel_rfl
theorem cellsArr2 : Tryz.prog.cellsOf 57 = 2 := by kernel_rfl
theorem cellsStr : Tryz.prog.cellsOf 9 = 1 := by kernel_rfl

/-- An array of two strings that reads as these. -/
theorem two_strings {H : Type} {enc : TypeId × Value → H} {w : World} {base : Nat} {sp : Nat → Bool} {held : Bool} {fuel : Nat} {cs : List Value} {a b : List UInt8} {p : List MemPlace}
    (h : DataW.trod enc Tryz.prog w base sp held fuel 57 cs = some (.agg [.lit (.string a), .lit (.string b)], p)) : cs = [.string (text a), .string (text b)] := by
  cases fuel with
  | zero => simp [DataW.trod] at h
  | succ fuel =>
    simp only [DataW.trod, Tryz.underlying57, cellsStr, cellsArr2, Nat.mul_one] at h
    split at h
    · rename_i hl
      obtain ⟨xs, hm, hx⟩ := Option.map_eq_some_iff.1 h
      have hxs : xs.map (·.1) = [(.lit (.string a) : DataW H), .lit (.string b)] := by
        have := congrArg Prod.fst hx
        simpa using this
      have at_ : ∀ (i : Nat) (s : List UInt8), i < 2 → ([(.lit (.string a) : DataW H), .lit (.string b)])[i]? = some (.lit (.string s)) → cs[i]? = some (.string (text s)) := fun i s hi hs => by
        obtain ⟨y, hy, hf⟩ := Lib.mapM_at hm i i (by simp [hi])
        obtain ⟨z, hc, rfl, _⟩ := DataW.trod_string Tryz.underlying9 hf
        have h1 : cs[i]? = some (.string z) := by
          have := congrArg (·[0]?) hc
          simpa [List.getElem?_take, List.getElem?_drop] using this
        have h2 : (xs.map (·.1))[i]? = some (DataW.lit (.string z.data.toList) : DataW H) := by simp [hy]
        rw [hxs, hs] at h2
        simp only [Option.some.injEq, DataW.lit.injEq, Lit.string.injEq] at h2
        rw [h1, h2]
        rfl
      have h0 := at_ 0 a (by decide) rfl
      have h1 := at_ 1 b (by decide) rfl
      apply List.ext_getElem?
      intro i
      match i with
      | 0 => exact h0
      | 1 => exact h1
      | i + 2 =>
        have hlen : cs.length = 2 := by simpa using hl
        rw [List.getElem?_eq_none (by omega)]
        rfl
    · cases h
theorem names_of_head {W : World} {rest : List (String × DataW Unit)} (h : laidMet Tryz.prog (("folkmoot/stable.names", .agg [.lit (.string [97]), .lit (.string [98])]) :: rest) W) : NmAt W := by
  obtain ⟨ps, ⟨g', t', cs, fuel, p, q, hg', ht', hvar, hd, _, _⟩, _⟩ := h
  obtain rfl := Option.some.inj (gNam.symm.trans hg')
  obtain rfl := Option.some.inj (gNamType.symm.trans ht')
  have hc := two_strings hd
  have c0 : cs[0]? = some (.string (text [97])) := by
    rw [← Array.getElem?_toList, hc]
    rfl
  have c1 : cs[1]? = some (.string (text [98])) := by
    rw [← Array.getElem?_toList, hc]
    rfl
  have h0 := World.var?_cell gNam hvar 0
  have h1 := World.var?_cell gNam hvar 1
  exact ⟨h0.trans c0, h1.trans c1⟩

theorem table {W : World} (h : laidMetH Tryz.prog Rows.stableNilRow.laid W) : Lib.TabIs Tryz.prog W "folkmoot/seal.steps" .u32 [0, 498536548, 997073096, 651767980, 1994146192, 1802195444, 1303535960, 1342533948, 3988292384, 4027552580, 3604390888, 3412177804, 2607071920, 2262029012, 2685067896, 3183342108] := by
  have h0 : laidMet Tryz.prog Rows.stableNilRow.laid W := h
  exact Lib.tabIs_of_head gTab gTabType Tryz.underlying205 Tryz.underlying182 cellsOne cellsArr h0.tail.tail.tail.tail.tail
theorem nam {W : World} (h : laidMetH Tryz.prog Rows.stableNilRow.laid W) : NmAt W := by
  have h0 : laidMet Tryz.prog Rows.stableNilRow.laid W := h
  exact names_of_head h0.tail.tail.tail.tail.tail.tail
theorem tab {W : World} (h : laidMetH Tryz.prog Rows.stableNilRow.laid W) : Tab W := by
  intro i hi
  have ht := table h
  match i, hi with
  | 0, _ => exact ht.cell gTab 0 (by decide)
  | 1, _ => exact ht.cell gTab 1 (by decide)
  | 2, _ => exact ht.cell gTab 2 (by decide)
  | 3, _ => exact ht.cell gTab 3 (by decide)
  | 4, _ => exact ht.cell gTab 4 (by decide)
  | 5, _ => exact ht.cell gTab 5 (by decide)
  | 6, _ => exact ht.cell gTab 6 (by decide)
  | 7, _ => exact ht.cell gTab 7 (by decide)
  | 8, _ => exact ht.cell gTab 8 (by decide)
  | 9, _ => exact ht.cell gTab 9 (by decide)
  | 10, _ => exact ht.cell gTab 10 (by decide)
  | 11, _ => exact ht.cell gTab 11 (by decide)
  | 12, _ => exact ht.cell gTab 12 (by decide)
  | 13, _ => exact ht.cell gTab 13 (by decide)
  | 14, _ => exact ht.cell gTab 14 (by decide)
  | 15, _ => exact ht.cell gTab 15 (by decide)
  | (n + 16), h => omega

theorem walk (cs0 : Array Value) (z0 : List Da) (w : World) (hT : Tab w) (hN : NmAt w) (w0 : Cels w (· < w.heap.size) shRecord z0 cs0.toList) :
    Calls Tryz.prog 3 #[.agg cs0] w fun e w' => e = .returned (.bool true) ∧ Below w.heap.size w w' := by
  obtain ⟨r, A1, c1, B1, d1, A2, c2, B2, d2, rfl, hr, _⟩ := Rcd.open_ w0
  have h := stableNil_any r A1 c1 B1 d1 A2 c2 B2 d2 w hT hN
  have e0 : cs0 = (r.cs A1 c1 B1 d1 A2 c2 B2 d2).toArray := by
    rw [← Array.toArray_toList (xs := cs0), hr]
    rfl
  rw [e0]
  exact h

theorem contract (H : Type) (enc : TypeId × Value → H) (W : World) (base : Nat) (args : Array Value) (ds gs : List (DataW H)) (before : List MemPlace)
    (hval : ∀ (j : Nat) t v, Tryz.f3.params[j]? = some t → args[j]? = some v → Value.okWide Tryz.prog W .any base t v)
    (hW : DataW.Whole enc Tryz.prog Tryz.f3.params.toList Rows.stableNilSpec.vars false W args.toList ds gs before) (hL : laidMetH Tryz.prog Rows.stableNilRow.laid W) :
    Calls Tryz.prog 3 args W fun e W' => ∃ v, e = .returned v ∧ Rows.stableNilSpec.post enc Tryz.prog Tryz.f3 false true false false W args v W' := by
  have hW' := hW
  obtain ⟨p, q, hA0, hV, rfl, hfz, hnd⟩ := hW
  have hA : DataW.TrodAll enc Tryz.prog W 0 (fun _ => true) true Tryz.f3.params.toList args.toList ds p := hA0
  rw [Tryz.params3] at hA hval
  obtain ⟨v0, vs0, d0, ds0, p0, q0, hargs, rfl, rfl, h0, r0⟩ := trodAll_cons hA
  obtain ⟨rfl, rfl, rfl⟩ := trodAll_nil r0
  obtain rfl : args = #[v0] := by cases args; simp_all
  obtain ⟨rfl, rfl⟩ := trodVars_none hV
  obtain ⟨cs0, rfl, _⟩ : ∃ cs, v0 = .agg cs ∧ cs.size = Tryz.prog.cellsOf 33 := by
    have h := hval 0 33 v0 rfl rfl
    simp only [Value.okWide, Tryz.underlying33] at h
    obtain ⟨cs, h1, h2, _⟩ := h
    exact ⟨cs, h1, h2⟩
  have k0 := h0
  have lt0 : ∀ x ∈ p0, x.block < W.heap.size := by obtain ⟨m, hm⟩ := k0; exact DataW.trod_lt m _ _ _ hm
  obtain ⟨z0, w0⟩ : ∃ ds, Cels W (· < W.heap.size) shRecord ds cs0.toList := by
    obtain ⟨fuel, hf⟩ := h0
    exact open_fits 60 60 33 shRecord fuel cs0.toList _ (Nat.le_refl _) (by kernel_rfl) (by simpa [Value.cells] using hf)
  clear hA0
  refine (walk cs0 z0 W (tab hL) (nam hL) w0).mono fun e W' ⟨he, bel⟩ => ?_
  subst he
  exact ⟨_, rfl, _, _, _, [], _, [], hW', trodAll_mk1 (shut_bool Tryz.underlying4 _), (trodAll_cons_mk (Below.trod laidOut (by kernel_rfl) (of_decide_eq_true (by kernel_rfl)) k0 bel lt0) trodAll_mk0), rfl, bel.frame _, fun h => by cases h⟩

noncomputable def setVar (g : Nat) (cs : Array Value) (h : Array Obj) : Array Obj := h.modify g fun
  | .cells _ t frozen => .cells cs t frozen
  | o => o
noncomputable def laidHeap (h : Array Obj) : Array Obj :=
  setVar 6 #[.int .u8 0, .int .u8 1, .int .u8 28, .int .u8 2, .int .u8 29, .int .u8 14, .int .u8 24, .int .u8 3, .int .u8 30, .int .u8 22, .int .u8 20, .int .u8 15, .int .u8 25, .int .u8 17, .int .u8 4, .int .u8 8, .int .u8 31, .int .u8 27, .int .u8 13, .int .u8 23, .int .u8 21, .int .u8 19, .int .u8 16, .int .u8 7, .int .u8 26, .int .u8 12, .int .u8 18, .int .u8 6, .int .u8 11, .int .u8 5, .int .u8 10, .int .u8 9]
  (setVar 7 #[.int .u8 0, .int .u8 1, .int .u8 56, .int .u8 2, .int .u8 57, .int .u8 49, .int .u8 28, .int .u8 3, .int .u8 61, .int .u8 58, .int .u8 42, .int .u8 50, .int .u8 38, .int .u8 29, .int .u8 17, .int .u8 4, .int .u8 62, .int .u8 47, .int .u8 59, .int .u8 36, .int .u8 45, .int .u8 43, .int .u8 51, .int .u8 22, .int .u8 53, .int .u8 39, .int .u8 33, .int .u8 30, .int .u8 24, .int .u8 18, .int .u8 12, .int .u8 5, .int .u8 63, .int .u8 55, .int .u8 48, .int .u8 27, .int .u8 60, .int .u8 41, .int .u8 37, .int .u8 16, .int .u8 46, .int .u8 35, .int .u8 44, .int .u8 21, .int .u8 52, .int .u8 32, .int .u8 23, .int .u8 11, .int .u8 54, .int .u8 26, .int .u8 40, .int .u8 15, .int .u8 34, .int .u8 20, .int .u8 31, .int .u8 10, .int .u8 25, .int .u8 14, .int .u8 19, .int .u8 9, .int .u8 13, .int .u8 8, .int .u8 7, .int .u8 6]
  (setVar 4 #[.int .u64 1, .int .u64 10, .int .u64 100, .int .u64 1000, .int .u64 10000, .int .u64 100000, .int .u64 1000000, .int .u64 10000000, .int .u64 100000000, .int .u64 1000000000, .int .u64 10000000000, .int .u64 100000000000, .int .u64 1000000000000, .int .u64 10000000000000, .int .u64 100000000000000, .int .u64 1000000000000000, .int .u64 10000000000000000, .int .u64 100000000000000000, .int .u64 1000000000000000000, .int .u64 10000000000000000000]
  (setVar 3 #[.int .u32 0, .int .u32 498536548, .int .u32 997073096, .int .u32 651767980, .int .u32 1994146192, .int .u32 1802195444, .int .u32 1303535960, .int .u32 1342533948, .int .u32 3988292384, .int .u32 4027552580, .int .u32 3604390888, .int .u32 3412177804, .int .u32 2607071920, .int .u32 2262029012, .int .u32 2685067896, .int .u32 3183342108]
  (setVar 0 #[.string ⟨#[97]⟩, .string ⟨#[98]⟩]
  (setVar 2 #[.iface 210 (.pointer (some ⟨h.size, 0, none⟩))]
  (setVar 1 #[.iface 210 (.pointer (some ⟨h.size + 1, 0, none⟩))]
  ((h.push (.cells #[.string ⟨#[118, 97, 108, 117, 101, 32, 111, 117, 116, 32, 111, 102, 32, 114, 97, 110, 103, 101]⟩] 212 (0, 0))).push (.cells #[.string ⟨#[105, 110, 118, 97, 108, 105, 100, 32, 115, 121, 110, 116, 97, 120]⟩] 212 (0, 0)))))))))
noncomputable def laidWorld (os : Os) : World :=
  { World.holding Tryz.prog os ⟨#[], #[], []⟩ with heap := laidHeap (World.holding Tryz.prog os ⟨#[], #[], []⟩).heap }
theorem laid_met (os : Os) : laidMet Tryz.prog Rows.stableNilRow.laid ((laidWorld os).forCall (fun _ _ => 0) ⟨#[], #[.agg #[.int .i64 0, .int .i64 0, .int .i64 0, .int .i64 0, .int .i64 0, .int .i64 0, .slice none 0 0, .slice none 0 0, .string ByteArray.empty, .int .i64 0, .int .i64 0, .int .i64 0, .slice none 0 0, .slice none 0 0, .string ByteArray.empty]], []⟩).memory :=
  laidMet_of_run' 20 (by kernel_rfl) (by kernel_rfl)
theorem reads (os : Os) {H : Type} (enc : TypeId × Value → H) : ∃ places, DataW.whole enc Tryz.prog ((laidWorld os).forCall (fun _ _ => 0) ⟨#[], #[.agg #[.int .i64 0, .int .i64 0, .int .i64 0, .int .i64 0, .int .i64 0, .int .i64 0, .slice none 0 0, .slice none 0 0, .string ByteArray.empty, .int .i64 0, .int .i64 0, .int .i64 0, .slice none 0 0, .slice none 0 0, .string ByteArray.empty]], []⟩).memory Tryz.f3.params.toList Rows.stableNilSpec.vars false (#[.agg #[.int .i64 0, .int .i64 0, .int .i64 0, .int .i64 0, .int .i64 0, .int .i64 0, .slice none 0 0, .slice none 0 0, .string ByteArray.empty, .int .i64 0, .int .i64 0, .int .i64 0, .slice none 0 0, .slice none 0 0, .string ByteArray.empty]] : Array Value).toList 12 = some ([.agg [.lit (.int .i64 0), .lit (.int .i64 0), .lit (.int .i64 0), .agg [.lit (.int .i64 0), .lit (.int .i64 0), .lit (.int .i64 0), .agg [.nil, .nil], .lit (.string [])], .lit (.int .i64 0), .agg [.lit (.int .i64 0), .lit (.int .i64 0), .agg [.nil, .nil], .lit (.string [])]]], [], places) :=
  ⟨[], by kernel_rfl⟩

set_option maxRecDepth 100000 in
theorem lifted (os : Os) (started : os.Started) (H : Type) (enc : TypeId × Value → H) (F : Stop.Interp) :
    ReturnsInHanded {} Tryz.checked os 3 .any ((OpenSpec.ofChange Rows.stableNilSpec).preRow enc Tryz.prog Tryz.f3 Rows.stableNilRow.domain false Rows.stableNilRow.laid) (((OpenSpec.ofChange Rows.stableNilSpec).at F).post enc Tryz.prog Tryz.f3 false true false false) := by
  obtain ⟨places, hx⟩ := reads os enc
  refine returnsInHanded_of_row (C := Tryz.checked) (s := OpenSpec.ofChange Rows.stableNilSpec) own started (by kernel_rfl) Tryz.func3
    (witness_row_at (enc := enc) (C := Tryz.checked) false (laidWorld os) #[.agg #[.int .i64 0, .int .i64 0, .int .i64 0, .int .i64 0, .int .i64 0, .int .i64 0, .slice none 0 0, .slice none 0 0, .string ByteArray.empty, .int .i64 0, .int .i64 0, .int .i64 0, .slice none 0 0, .slice none 0 0, .string ByteArray.empty]] rfl (by kernel_rfl) (by kernel_rfl) (by kernel_rfl)
      (OpenSpec.preRow_of_cond 12 hx (by kernel_rfl) (fun k hk => by cases hk) (by kernel_rfl) (laid_met os))) ?_
  intro W base args ds gs before hval hW _ _ _ hL _ _
  exact contract H enc W base args ds gs before hval hW hL

theorem said : Rows.StableNilSaid :=
  OpenClaim.holds_of_cond 3 Tryz.f3 rfl rfl rfl rfl rfl rfl rfl ⟨rfl, rfl, rfl, rfl, rfl⟩ rfl rfl rfl rfl rfl (by kernel_rfl) Tryz.func3 (by kernel_rfl)
    (of_decide_eq_true (by kernel_rfl)) (by unfold Func.isWrapper; first | (rw [if_pos (by decide +kernel)]; kernel_rfl) | (rw [if_neg (by decide +kernel)]; exact ⟨rfl, rfl⟩))
    (fun os started H enc _ F => by rw [OpenClaim.pre_eq_preRow]; exact lifted os started H enc F)

theorem wants33 : Tryz.prog.wantsStandIn 33 = false := by kernel_rfl
theorem plain (f : FuncId) (fn : Func) (hf : Tryz.pinned.checked.prog.funcNamed "folkmoot/folkmootlaw15.StableNil" = some f) (hfn : Tryz.pinned.checked.prog.funcs[f]? = some fn) :
    true = Tryz.pinned.checked.prog.looks [] ∧ ∀ (j : Nat) t, fn.params[j]? = some t → Tryz.pinned.checked.prog.wantsStandIn t = false := by
  obtain rfl : f = 3 := Option.some.inj ((show Tryz.prog.funcNamed "folkmoot/folkmootlaw15.StableNil" = some 3 by kernel_rfl).symm.trans hf) |>.symm
  obtain rfl : fn = Tryz.f3 := (Option.some.inj (Tryz.func3.symm.trans hfn)).symm
  refine ⟨by kernel_rfl, fun j t ht => ?_⟩
  rw [Tryz.params3] at ht
  have hm := Array.mem_of_getElem? ht
  simp at hm
  rcases hm with rfl
  · exact wants33

theorem proved : Rows.StableNilCardSaid :=
  Claim7.holds_tied_plain_at .later [] _ _ _ _ said (fun _ h => by cases h) (by kernel_rfl) (fun _ h => by cases h) stableNil_row_tie rfl ⟨rfl, rfl⟩ (by kernel_rfl) rfl plain (by kernel_rfl)
#print axioms proved
end Go.Proofs.YtkdmfjpfanmgmaaGreatDoor.stableNil
