/- Joined by mkmerge.py from the proof's texts Get1. Conditions: each theorem's own hypotheses. -/
import Derived.Test.YtkdmfjpfanmgmaaGreatDoorM39
namespace Go.Proofs.YtkdmfjpfanmgmaaGreatDoor
open Go.RowKit Le
set_option maxRecDepth 100000
set_option linter.unusedVariables false
set_option linter.unusedSimpArgs false
/-- How a get ends. -/
def GEnd (sh : List Sh) (zs : List Value) (l : List UInt8) (us : List TypeId) (w' : World) (e : Ending) : Prop :=
  (∃ ds vs, rds sh l = some (ds, []) ∧ e = .returned (.tuple #[.agg vs.toArray, .int .i64 0]) ∧ Cels w' (InT w' us) sh ds vs) ∨
  ((∀ ds, rds sh l ≠ some (ds, [])) ∧ e = .returned (.tuple #[.agg zs.toArray, .int .i64 11]))
theorem results_cell2 {P : Program} {fn : Func} {t t2 : Tmp} {ty ty2 : TypeId} (h : fn.results = #[.cell t ty, .cell t2 ty2]) (tmps : Array Value) (w : World) (b b2 : Nat) (hb : tmps.getD t undef = .pointer (some ⟨b, 0, none⟩)) (hb2 : tmps.getD t2 undef = .pointer (some ⟨b2, 0, none⟩))
    (cs : List Value) (d : TypeDesc) (hc : w.rangeAt b 0 cs) (hu : P.underlying ty = some d) (hd : d.isRow = true) (hi : (P.info? ty).map (·.size) = some cs.length)
    (v : Value) (hv : (loadVar ty2 ⟨b2, 0, none⟩).run P w = .ok v w) : (results fn tmps).run P w = .ok (.tuple #[.agg cs.toArray, v]) w := by
  have hl := run_loadVar_mid w b 0 ty cs d hc hu hd hi
  have hb' : tmps[t]?.getD undef = .pointer (some ⟨b, 0, none⟩) := by simpa using hb
  have hb2' : tmps[t2]?.getD undef = .pointer (some ⟨b2, 0, none⟩) := by simpa using hb2
  simp [results, h, hb', hb2', hl, hv, asAddr]
theorem results_cell_tmp {P : Program} {fn : Func} {t t2 : Tmp} {ty : TypeId} (h : fn.results = #[.cell t ty, .tmp t2]) (tmps : Array Value) (w : World) (b : Nat) (hb : tmps.getD t undef = .pointer (some ⟨b, 0, none⟩))
    (cs : List Value) (d : TypeDesc) (hc : w.rangeAt b 0 cs) (hu : P.underlying ty = some d) (hd : d.isRow = true) (hi : (P.info? ty).map (·.size) = some cs.length) : (results fn tmps).run P w = .ok (.tuple #[.agg cs.toArray, tmps.getD t2 undef]) w := by
  have hl := run_loadVar_mid w b 0 ty cs d hc hu hd hi
  have hb' : tmps[t]?.getD undef = .pointer (some ⟨b, 0, none⟩) := by simpa using hb
  simp [results, h, hb', hl, asAddr]
theorem run_errno (w : World) (g : Nat) (x : Int) (h : w.cell? ⟨g, 0, none⟩ = some (.int .i64 x)) : (loadVar 39 ⟨g, 0, none⟩).run Tryz.prog w = .ok (.int .i64 x) w := by
  have hagg : (isAgg 39).run Tryz.prog w = .ok false w := by kernel_rfl
  simp [loadVar, Sem.run_bind, hagg, h]
set_option maxHeartbeats 800000 in
theorem getD_Record_ok (p q : Addr) (u : FrameMode) (w : World) (hc : w.cell? p = some (.int .i64 0)) :
    CallsD Tryz.prog 107 #[.pointer (some p), .pointer (some q)] u w fun e u' w' => u' = u ∧ (e = .returned (.tuple #[]) ∧ w' = w) := by
  go_enter_d Tryz.func107, Tryz.ntmps107
  go_wp2
  go_end0
  exact ⟨rfl, rfl⟩
set_option maxHeartbeats 1600000 in
theorem getD_Record_bad (p : Addr) (gx : Nat) (cs : List Value) (u : FrameMode) (w : World) (E : Nat) (h0 : E ≠ 0) (hc : w.cell? p = some (.int .i64 E)) (hB : Blk w gx 33 cs) (hl : cs.length = 15) :
    CallsD Tryz.prog 107 #[.pointer (some p), .pointer (some ⟨gx, 0, none⟩)] u w fun e u' w' => u' = u ∧ (e = .returned (.tuple #[]) ∧ w' = (w.alloc (.cells #[.int .i64 0, .int .i64 0, .int .i64 0, .int .i64 0, .int .i64 0, .int .i64 0, .slice none 0 0, .slice none 0 0, .string ⟨#[]⟩, .int .i64 0, .int .i64 0, .int .i64 0, .slice none 0 0, .slice none 0 0, .string ⟨#[]⟩] 33)).setCells gx 0 [.int .i64 0, .int .i64 0, .int .i64 0, .int .i64 0, .int .i64 0, .int .i64 0, .slice none 0 0, .slice none 0 0, .string ⟨#[]⟩, .int .i64 0, .int .i64 0, .int .i64 0, .slice none 0 0, .slice none 0 0, .string ⟨#[]⟩]) := by
  have t1 : ((E : Int) == 0) = false := by simpa using h0
  have t2 : ((E : Int) != 0) = true := by simpa using h0
  have HRG := Lib.hid (Blk.new w 33 [.int .i64 0, .int .i64 0, .int .i64 0, .int .i64 0, .int .i64 0, .int .i64 0, .slice none 0 0, .slice none 0 0, .string ⟨#[]⟩, .int .i64 0, .int .i64 0, .int .i64 0, .slice none 0 0, .slice none 0 0, .string ⟨#[]⟩]).range0
  have HTE : Hid (World.there (w.alloc (.cells #[.int .i64 0, .int .i64 0, .int .i64 0, .int .i64 0, .int .i64 0, .int .i64 0, .slice none 0 0, .slice none 0 0, .string ⟨#[]⟩, .int .i64 0, .int .i64 0, .int .i64 0, .slice none 0 0, .slice none 0 0, .string ⟨#[]⟩] 33)) gx 0 (List.toArray ([.int .i64 0, .int .i64 0, .int .i64 0, .int .i64 0, .int .i64 0, .int .i64 0, .slice none 0 0, .slice none 0 0, .string ⟨#[]⟩, .int .i64 0, .int .i64 0, .int .i64 0, .slice none 0 0, .slice none 0 0, .string ⟨#[]⟩] : List Value)).size) := Lib.hid ((hB.alloc _).there 0 15 (by rw [hl]; decide))
  have hiV : Hid ((Tryz.prog.info? 33).map (·.size) = some (List.length ([.int .i64 0, .int .i64 0, .int .i64 0, .int .i64 0, .int .i64 0, .int .i64 0, .slice none 0 0, .slice none 0 0, .string ⟨#[]⟩, .int .i64 0, .int .i64 0, .int .i64 0, .slice none 0 0, .slice none 0 0, .string ⟨#[]⟩] : List Value))) := Lib.hid (by kernel_rfl)
  have hsV : Hid ((Tryz.prog.info? 33).map (·.size) = some (List.toArray ([.int .i64 0, .int .i64 0, .int .i64 0, .int .i64 0, .int .i64 0, .int .i64 0, .slice none 0 0, .slice none 0 0, .string ⟨#[]⟩, .int .i64 0, .int .i64 0, .int .i64 0, .slice none 0 0, .slice none 0 0, .string ⟨#[]⟩] : List Value)).size) := Lib.hid (by kernel_rfl)
  have h1V : Hid ((List.toArray ([.int .i64 0, .int .i64 0, .int .i64 0, .int .i64 0, .int .i64 0, .int .i64 0, .slice none 0 0, .slice none 0 0, .string ⟨#[]⟩, .int .i64 0, .int .i64 0, .int .i64 0, .slice none 0 0, .slice none 0 0, .string ⟨#[]⟩] : List Value)).all (·.oneCell') = true) := Lib.hid (all_oneCell_toArray (by simp [Value.oneCell']))
  go_enter_d Tryz.func107, Tryz.ntmps107
  go_wp2_with (first | (with_reducible refine wpList_load_mid rfl 33 _ rfl w.heap.size 0 rfl [.int .i64 0, .int .i64 0, .int .i64 0, .int .i64 0, .int .i64 0, .int .i64 0, .slice none 0 0, .slice none 0 0, .string ⟨#[]⟩, .int .i64 0, .int .i64 0, .int .i64 0, .slice none 0 0, .slice none 0 0, .string ⟨#[]⟩] _ HRG.out Tryz.underlying33 rfl hiV.out ?_) | (with_reducible refine wpList_store_mid rfl 33 _ _ rfl gx 0 (List.toArray ([.int .i64 0, .int .i64 0, .int .i64 0, .int .i64 0, .int .i64 0, .int .i64 0, .slice none 0 0, .slice none 0 0, .string ⟨#[]⟩, .int .i64 0, .int .i64 0, .int .i64 0, .slice none 0 0, .slice none 0 0, .string ⟨#[]⟩] : List Value)) rfl rfl HTE.out hsV.out h1V.out ?_))
  go_end0
  exact ⟨rfl, rfl⟩
set_option maxHeartbeats 3200000 in
theorem get_Record (A : Option Addr) (n c : Nat) (l : List UInt8) (w : World) (hb : Reads w w.heap.size A n (u8s l)) (hn : n ≤ c) (hc : n ≤ 1099511627776 ∧ c ≤ 9223372036854775807) :
    Calls Tryz.prog 68 #[.slice A n c, .func (.func 69) #[] #[]] w fun e w' => GEnd shRecord [.int .i64 0, .int .i64 0, .int .i64 0, .int .i64 0, .int .i64 0, .int .i64 0, .slice none 0 0, .slice none 0 0, .string ⟨#[]⟩, .int .i64 0, .int .i64 0, .int .i64 0, .slice none 0 0, .slice none 0 0, .string ⟨#[]⟩] l [3] w' e ∧ Below w.heap.size w w' := by
  have hmf : ∀ (fn : Fn) (first cap : Array Value) (w : World), (Instr.makeFunc fn first cap).run Tryz.prog w = .ok (.func fn first cap) w := fun _ _ _ _ => rfl
  have HR0 := Lib.hid hb
  clear hb
  go_enter_defers Tryz.func68, Tryz.ntmps68
  go_wp2_with fail
  refine at_below w _ (by repeat (first | exact Below.refl _ _ | refine Below.setCell ?_ (Nat.le_refl _) _ | refine Below.alloc ?_ (by simp) _)) fun HBx => ?_
  have HX0 : Hid (Blk ((w.alloc (.cells #[.int .i64 0, .int .i64 0, .int .i64 0, .int .i64 0, .int .i64 0, .int .i64 0, .slice none 0 0, .slice none 0 0, .string ⟨#[]⟩, .int .i64 0, .int .i64 0, .int .i64 0, .slice none 0 0, .slice none 0 0, .string ⟨#[]⟩] 33)).alloc (.cells #[.int .i64 0] 39)) w.heap.size 33 [.int .i64 0, .int .i64 0, .int .i64 0, .int .i64 0, .int .i64 0, .int .i64 0, .slice none 0 0, .slice none 0 0, .string ⟨#[]⟩, .int .i64 0, .int .i64 0, .int .i64 0, .slice none 0 0, .slice none 0 0, .string ⟨#[]⟩]) := Lib.hid ((Blk.new w _ [.int .i64 0, .int .i64 0, .int .i64 0, .int .i64 0, .int .i64 0, .int .i64 0, .slice none 0 0, .slice none 0 0, .string ⟨#[]⟩, .int .i64 0, .int .i64 0, .int .i64 0, .slice none 0 0, .slice none 0 0, .string ⟨#[]⟩]).alloc _)
  have HE0 : Hid (Blk ((w.alloc (.cells #[.int .i64 0, .int .i64 0, .int .i64 0, .int .i64 0, .int .i64 0, .int .i64 0, .slice none 0 0, .slice none 0 0, .string ⟨#[]⟩, .int .i64 0, .int .i64 0, .int .i64 0, .slice none 0 0, .slice none 0 0, .string ⟨#[]⟩] 33)).alloc (.cells #[.int .i64 0] 39)) (w.heap.size + 1) 39 [.int .i64 0]) := Lib.hid (by have := Blk.new (w.alloc (.cells #[.int .i64 0, .int .i64 0, .int .i64 0, .int .i64 0, .int .i64 0, .int .i64 0, .slice none 0 0, .slice none 0 0, .string ⟨#[]⟩, .int .i64 0, .int .i64 0, .int .i64 0, .slice none 0 0, .slice none 0 0, .string ⟨#[]⟩] 33)) 39 [.int .i64 0]; simpa using this)
  refine (new_any A n c l _ ((HR0.out.below HBx).more (by simp; omega)) (by omega)).mono ?_
  rintro e w1 ⟨r, rfl, hr, hRd, hw1⟩
  have hs2 : ((w.alloc (.cells #[.int .i64 0, .int .i64 0, .int .i64 0, .int .i64 0, .int .i64 0, .int .i64 0, .slice none 0 0, .slice none 0 0, .string ⟨#[]⟩, .int .i64 0, .int .i64 0, .int .i64 0, .slice none 0 0, .slice none 0 0, .string ⟨#[]⟩] 33)).alloc (.cells #[.int .i64 0] 39)).heap.size = w.heap.size + 1 + 1 := by simp
  rw [hs2] at hr hw1
  clear hs2
  have HX1 := Lib.hid (HX0.out.below hw1 (by omega))
  have HE1 := Lib.hid (HE0.out.below hw1 (by omega))
  have HB1 := Lib.hid (HBx.trans (hw1.mono (by omega)))
  have hz1 : w.heap.size + 1 + 1 ≤ w1.heap.size := by have := hw1.size; simpa using this
  have HRD := Lib.hid hRd
  have HR1 := Lib.hid (HR0.out.below HB1.out)
  clear HX0 HE0 HBx hw1 hRd
  go_wp2_with fail
  have HX2 := Lib.hid (HX1.out.alloc (.cells #[.pointer (some ⟨r, 0, none⟩), .slice A n c] 171))
  have HE2 := Lib.hid (HE1.out.alloc (.cells #[.pointer (some ⟨r, 0, none⟩), .slice A n c] 171))
  have HB2 := Lib.hid (HB1.out.alloc (by omega) (.cells #[.pointer (some ⟨r, 0, none⟩), .slice A n c] 171))
  have hA : RdAt (w1.alloc (.cells #[.pointer (some ⟨r, 0, none⟩), .slice A n c] 171)) (w.heap.size + 1 + 1) w1.heap.size l :=
    ⟨r, A, n, c, l, Blk.new w1 _ [.pointer (some ⟨r, 0, none⟩), .slice A n c], (HR1.out.below ((Below.refl _ _).alloc (by omega) _)).more (by omega), hn, hc, HRD.out.below ((Below.refl _ _).alloc (Nat.le_refl _) _), Nat.le_refl _, by simp, by omega, hz1⟩
  refine (R_record (w.heap.size + 1 + 1) w1.heap.size l _ hA).mono ?_
  rintro e w2 ⟨hE, hK⟩
  have HX3 := Lib.hid (HX2.out.below hK.below (by omega))
  have HE3 := Lib.hid (HE2.out.below hK.below (by omega))
  have HB3 := Lib.hid (HB2.out.trans (hK.below.mono (by omega)))
  have hz2 : w.heap.size + 1 + 1 ≤ w2.heap.size := by have := hK.below.size; simp at this; omega
  clear hA HX1 HE1 HB1 HX2 HE2 HB2 HRD HR1 HR0 hK
  -- the panic's end
  have HBAD : ∀ (w4 : World) (cs : List Value), Blk w4 w.heap.size 33 cs → cs.length = 15 → Blk w4 (w.heap.size + 1) 39 [.int .i64 0] → Below w.heap.size w w4 → (∀ ds, rds shRecord l ≠ some (ds, [])) →
      ∀ tmps : Array Value, tmps.getD 4 undef = .pointer (some ⟨w.heap.size, 0, none⟩) → tmps.getD 5 undef = .pointer (some ⟨w.heap.size + 1, 0, none⟩) →
      Leaves Tryz.prog Tryz.f68 tmps (fun e w' => GEnd shRecord [.int .i64 0, .int .i64 0, .int .i64 0, .int .i64 0, .int .i64 0, .int .i64 0, .slice none 0 0, .slice none 0 0, .string ⟨#[]⟩, .int .i64 0, .int .i64 0, .int .i64 0, .slice none 0 0, .slice none 0 0, .string ⟨#[]⟩] l [3] w' e ∧ Below w.heap.size w w') [{ target := Target.fn (Fn.func 89) #[], args := #[.pointer (some ⟨w.heap.size + 1, 0, none⟩)] }, { target := Target.fn (Fn.func 107) #[.pointer (some ⟨w.heap.size + 1, 0, none⟩), .pointer (some ⟨w.heap.size, 0, none⟩)], args := #[] }] (.panicking (thrown 11)) w4 := by
    intro w4 cs hX hl hE hB hno tmps ht4 ht5
    refine leaves_cons (f := 89) (args := #[.pointer (some ⟨w.heap.size + 1, 0, none⟩)]) (by simp) (by simp [go_sem]) ?_
    refine (caught_hit _ 11 _ [] _ (hE.cell 0) (hE.frozen 0)).mono ?_
    rintro e u' w'' ⟨rfl, rfl, rfl⟩
    have hX5 : Blk (w4.setCell ⟨w.heap.size + 1, 0, none⟩ (.int .i64 (11 : Nat))) w.heap.size 33 cs := hX.far (by simp) _
    have hE5 : Blk (w4.setCell ⟨w.heap.size + 1, 0, none⟩ (.int .i64 (11 : Nat))) (w.heap.size + 1) 39 [.int .i64 (11 : Nat)] := hE.set_ 0 _
    have hB5 : Below w.heap.size w (w4.setCell ⟨w.heap.size + 1, 0, none⟩ (.int .i64 (11 : Nat))) := hB.setCell (by dsimp only; omega) _
    refine leaves_cons (f := 107) (args := #[.pointer (some ⟨w.heap.size + 1, 0, none⟩), .pointer (some ⟨w.heap.size, 0, none⟩)]) (by simp [settle]) (by simp [go_sem]) ?_
    refine (getD_Record_bad _ _ cs _ _ 11 (by decide) (hE5.cell 0) hX5 hl).mono ?_
    rintro e u' w'' ⟨rfl, rfl, rfl⟩
    have hX6 := (hX5.alloc (.cells #[.int .i64 0, .int .i64 0, .int .i64 0, .int .i64 0, .int .i64 0, .int .i64 0, .slice none 0 0, .slice none 0 0, .string ⟨#[]⟩, .int .i64 0, .int .i64 0, .int .i64 0, .slice none 0 0, .slice none 0 0, .string ⟨#[]⟩] 33)).setCells0 [.int .i64 0, .int .i64 0, .int .i64 0, .int .i64 0, .int .i64 0, .int .i64 0, .slice none 0 0, .slice none 0 0, .string ⟨#[]⟩, .int .i64 0, .int .i64 0, .int .i64 0, .slice none 0 0, .slice none 0 0, .string ⟨#[]⟩] hl
    have hsz5 := hB5.size
    have hB6 := hB5.trans ((Below.refl w.heap.size _).alloc hsz5 (.cells #[.int .i64 0, .int .i64 0, .int .i64 0, .int .i64 0, .int .i64 0, .int .i64 0, .slice none 0 0, .slice none 0 0, .string ⟨#[]⟩, .int .i64 0, .int .i64 0, .int .i64 0, .slice none 0 0, .slice none 0 0, .string ⟨#[]⟩] 33))
    have hB7 := hB6.trans (below_setCells_ (Nat.le_refl w.heap.size) 0 [.int .i64 0, .int .i64 0, .int .i64 0, .int .i64 0, .int .i64 0, .int .i64 0, .slice none 0 0, .slice none 0 0, .string ⟨#[]⟩, .int .i64 0, .int .i64 0, .int .i64 0, .slice none 0 0, .slice none 0 0, .string ⟨#[]⟩])
    have hE7 : (((w4.setCell ⟨w.heap.size + 1, 0, none⟩ (.int .i64 (11 : Nat))).alloc (.cells #[.int .i64 0, .int .i64 0, .int .i64 0, .int .i64 0, .int .i64 0, .int .i64 0, .slice none 0 0, .slice none 0 0, .string ⟨#[]⟩, .int .i64 0, .int .i64 0, .int .i64 0, .slice none 0 0, .slice none 0 0, .string ⟨#[]⟩] 33)).setCells w.heap.size 0 [.int .i64 0, .int .i64 0, .int .i64 0, .int .i64 0, .int .i64 0, .int .i64 0, .slice none 0 0, .slice none 0 0, .string ⟨#[]⟩, .int .i64 0, .int .i64 0, .int .i64 0, .slice none 0 0, .slice none 0 0, .string ⟨#[]⟩]).cell? ⟨w.heap.size + 1, 0, none⟩ = some (.int .i64 (11 : Nat)) :=
      (World.cell?_setCells_out _ _ _ _ _ (fun e _ => by simp at e)).trans ((hE5.alloc _).cell 0)
    refine ⟨_, results_cell2 rfl tmps _ w.heap.size (w.heap.size + 1) ht4 ht5 [.int .i64 0, .int .i64 0, .int .i64 0, .int .i64 0, .int .i64 0, .int .i64 0, .slice none 0 0, .slice none 0 0, .string ⟨#[]⟩, .int .i64 0, .int .i64 0, .int .i64 0, .slice none 0 0, .slice none 0 0, .string ⟨#[]⟩] _ hX6.range0 Tryz.underlying33 rfl (by kernel_rfl) _ (run_errno _ _ _ hE7), .inr ⟨hno, rfl⟩, hB7⟩
  have HBADH := Lib.hid HBAD
  clear HBAD
  rcases hE with ⟨ds, l', vs, hds, rfl, hC, hR⟩ | ⟨hds, rfl⟩
  rotate_left
  · exact (unhide HBADH) w2 _ HX3.out rfl HE3.out HB3.out (fun ds h => by rw [hds] at h; cases h) _ rfl rfl
  have hlen : vs.length = 15 := hC.len.2
  have HS := Lib.hid hds
  have HLN := Lib.hid hlen
  have HTE : Hid (World.there w2 w.heap.size 0 vs.toArray.size) := Lib.hid (HX3.out.there 0 _ (by simp [hlen]))
  have hsV : Hid ((Tryz.prog.info? 33).map (·.size) = some vs.toArray.size) := Lib.hid (by rw [List.size_toArray, hlen]; kernel_rfl)
  have hiV : Hid ((Tryz.prog.info? 33).map (·.size) = some vs.length) := Lib.hid (by rw [hlen]; kernel_rfl)
  have h1V : Hid (vs.toArray.all (·.oneCell') = true) := Lib.hid (all_oneCell_toArray hC.oneCell)
  have HX4 : Hid (Blk (w2.setCells w.heap.size 0 vs) w.heap.size 33 vs) := Lib.hid (HX3.out.setCells0 vs hlen.symm)
  have HKX : Hid (Keeps [33] w2 (w2.setCells w.heap.size 0 vs)) := Lib.hid (Keeps.setCells (t := 33) (by simp) HX3.out.typ 0 vs)
  have HE4 := Lib.hid (HE3.out.keeps HKX.out (by decide))
  have HB4 : Hid (Below w.heap.size w (w2.setCells w.heap.size 0 vs)) := Lib.hid (HB3.out.trans (below_setCells_ (Nat.le_refl _) 0 vs))
  have HC4 := Lib.hid (hC.keeps HKX.out (by decide))
  obtain ⟨r2, A2, n2, c2, lb2, hg2, _, _, _, hr2, _⟩ := hR
  have HG4 := Lib.hid (hg2.keeps HKX.out (by decide))
  have hcg : (w2.setCells w.heap.size 0 vs).cell? ⟨w1.heap.size, 0, none⟩ = some (.pointer (some ⟨r2, 0, none⟩)) := HG4.out.cell 0
  have CL := Lib.hid (left_any r2 l' _ (hr2.keeps HKX.out (by decide) (by decide)))
  clear hC hds hlen hg2 hr2
  have store := @wpList_store_mid
  go_wp2_with (with_reducible refine wpList_store_mid rfl 33 _ _ rfl w.heap.size 0 vs.toArray rfl rfl HTE.out hsV.out h1V.out ?_)
  refine (unhide CL).mono ?_
  rintro e w' ⟨rfl, rfl⟩
  clear CL
  by_cases hl0 : l' = []
  · subst hl0
    go_wp2_with fail
    refine (is_true _).mono ?_
    rintro e w' ⟨rfl, rfl⟩
    have HRG := Lib.hid HX4.out.range0
    have HTE5 : Hid (World.there (w2.setCells w.heap.size 0 vs) w.heap.size 0 vs.toArray.size) := Lib.hid (HX4.out.there 0 _ (by simp))
    have HX5 : Hid (Blk ((w2.setCells w.heap.size 0 vs).setCells w.heap.size 0 vs) w.heap.size 33 vs) := Lib.hid (HX4.out.setCells0 vs rfl)
    have HKX5 : Hid (Keeps [33] _ ((w2.setCells w.heap.size 0 vs).setCells w.heap.size 0 vs)) := Lib.hid (Keeps.setCells (t := 33) (by simp) HX4.out.typ 0 vs)
    have HE5 := Lib.hid (HE4.out.keeps HKX5.out (by decide))
    have HC5 := Lib.hid (HC4.out.keeps HKX5.out (by decide))
    have HB5 : Hid (Below w.heap.size w ((w2.setCells w.heap.size 0 vs).setCells w.heap.size 0 vs)) := Lib.hid (HB4.out.trans (below_setCells_ (Nat.le_refl _) 0 vs))
    have he5 : ((w2.setCells w.heap.size 0 vs).setCells w.heap.size 0 vs).cell? ⟨w.heap.size + 1, 0, none⟩ = some (.int .i64 0) := HE5.out.cell 0
    have hf5 : ((w2.setCells w.heap.size 0 vs).setCells w.heap.size 0 vs).frozen? ⟨w.heap.size + 1, 0, none⟩ = false := HE5.out.frozen 0
    clear HX3 HE3 HB3 HTE HKX HE4 HB4 HC4 HG4 hcg HKX5
    go_wp2_with (first | (with_reducible refine wpList_load_mid rfl 33 _ rfl w.heap.size 0 rfl vs _ HRG.out Tryz.underlying33 rfl hiV.out ?_) | (with_reducible refine wpList_store_mid rfl 33 _ _ rfl w.heap.size 0 vs.toArray rfl rfl HTE5.out hsV.out h1V.out ?_))
    have hX6 := HX5.out.far (p := ⟨w.heap.size + 1, 0, none⟩) (by simp) (.int .i64 0)
    have hE6 := HE5.out.set_ 0 (.int .i64 0)
    refine leaves_cons (f := 89) (args := #[.pointer (some ⟨w.heap.size + 1, 0, none⟩)]) (by simp) (by simp [go_sem]) ?_
    refine (caught_idle _ _).mono ?_
    rintro e u' w'' ⟨rfl, rfl, rfl⟩
    refine leaves_cons (f := 107) (args := #[.pointer (some ⟨w.heap.size + 1, 0, none⟩), .pointer (some ⟨w.heap.size, 0, none⟩)]) (by simp [settle]) (by simp [go_sem]) ?_
    refine (getD_Record_ok _ _ _ _ (hE6.cell 0)).mono ?_
    rintro e u' w'' ⟨rfl, rfl, rfl⟩
    refine ⟨_, results_cell2 rfl _ _ w.heap.size (w.heap.size + 1) rfl rfl vs _ hX6.range0 Tryz.underlying33 rfl hiV.out _ (run_errno _ _ _ (hE6.cell 0)), .inl ⟨ds, vs, HS.out, rfl, ?_⟩, HB5.out.setCell (by dsimp only; omega) _⟩
    exact HC5.out.keeps (Keeps.set_ (ts := [39]) HE5.out.typ (by simp) _) (by decide)
  · have hlp : ¬ (l'.length : Int) = 0 := by
      intro h; exact hl0 (List.eq_nil_of_length_eq_zero (by omega))
    have t1 : ((l'.length : Int) == 0) = false := by simpa using hlp
    go_wp2_with fail
    refine (is_false _).mono ?_
    rintro e w' ⟨rfl, rfl⟩
    exact (unhide HBADH) _ vs HX4.out HLN.out HE4.out HB4.out (fun ds' h => by rw [HS.out] at h; injection h with h; injection h with _ h; exact hl0 h) _ rfl rfl
set_option maxHeartbeats 1600000 in
theorem wget_Record (A : Option Addr) (n c : Nat) (l : List UInt8) (w : World) (hb : Reads w w.heap.size A n (u8s l)) (hn : n ≤ c) (hc : n ≤ 1099511627776 ∧ c ≤ 9223372036854775807) :
    Calls Tryz.prog 33 #[.slice A n c] w fun e w' => GEnd shRecord [.int .i64 0, .int .i64 0, .int .i64 0, .int .i64 0, .int .i64 0, .int .i64 0, .slice none 0 0, .slice none 0 0, .string ⟨#[]⟩, .int .i64 0, .int .i64 0, .int .i64 0, .slice none 0 0, .slice none 0 0, .string ⟨#[]⟩] l [3] w' e ∧ Below w.heap.size w w' := by
  have HX0 := Lib.hid (Blk.new w 33 [.int .i64 0, .int .i64 0, .int .i64 0, .int .i64 0, .int .i64 0, .int .i64 0, .slice none 0 0, .slice none 0 0, .string ⟨#[]⟩, .int .i64 0, .int .i64 0, .int .i64 0, .slice none 0 0, .slice none 0 0, .string ⟨#[]⟩])
  have HB0 : Hid (Below w.heap.size w (w.alloc (.cells #[.int .i64 0, .int .i64 0, .int .i64 0, .int .i64 0, .int .i64 0, .int .i64 0, .slice none 0 0, .slice none 0 0, .string ⟨#[]⟩, .int .i64 0, .int .i64 0, .int .i64 0, .slice none 0 0, .slice none 0 0, .string ⟨#[]⟩] 33))) := Lib.hid ((Below.refl _ _).alloc (Nat.le_refl _) _)
  have C := Lib.hid (get_Record A n c l (w.alloc (.cells #[.int .i64 0, .int .i64 0, .int .i64 0, .int .i64 0, .int .i64 0, .int .i64 0, .slice none 0 0, .slice none 0 0, .string ⟨#[]⟩, .int .i64 0, .int .i64 0, .int .i64 0, .slice none 0 0, .slice none 0 0, .string ⟨#[]⟩] 33)) ((hb.below HB0.out).more (by simp)) hn hc)
  clear hb
  go_enter Tryz.func33, Tryz.ntmps33
  go_wp2_with fail
  refine (unhide C).mono ?_
  rintro e w1 ⟨hG, hB⟩
  have hs0 : (w.alloc (.cells #[.int .i64 0, .int .i64 0, .int .i64 0, .int .i64 0, .int .i64 0, .int .i64 0, .slice none 0 0, .slice none 0 0, .string ⟨#[]⟩, .int .i64 0, .int .i64 0, .int .i64 0, .slice none 0 0, .slice none 0 0, .string ⟨#[]⟩] 33)).heap.size = w.heap.size + 1 := by simp
  rw [hs0] at hB
  clear hs0
  have HX1 := Lib.hid (HX0.out.below hB (by omega))
  have HB1 := Lib.hid (HB0.out.trans (hB.mono (by omega)))
  clear C HX0 HB0 hB
  have HEX : ∃ (cs : List Value) (E : Int), e = .returned (.tuple #[.agg cs.toArray, .int .i64 E]) ∧ cs.length = 15 ∧ (∀ u ∈ cs, u.oneCell' = true) ∧ ∀ w', Keeps [33] w1 w' → GEnd shRecord [.int .i64 0, .int .i64 0, .int .i64 0, .int .i64 0, .int .i64 0, .int .i64 0, .slice none 0 0, .slice none 0 0, .string ⟨#[]⟩, .int .i64 0, .int .i64 0, .int .i64 0, .slice none 0 0, .slice none 0 0, .string ⟨#[]⟩] l [3] w' (.returned (.tuple #[.agg cs.toArray, .int .i64 E])) := by
    rcases hG with ⟨ds, vs, h1, rfl, h2⟩ | ⟨h1, rfl⟩
    · exact ⟨vs, 0, rfl, h2.len.2, h2.oneCell, fun w' hk => .inl ⟨ds, vs, h1, rfl, h2.keeps hk (by decide)⟩⟩
    · exact ⟨[.int .i64 0, .int .i64 0, .int .i64 0, .int .i64 0, .int .i64 0, .int .i64 0, .slice none 0 0, .slice none 0 0, .string ⟨#[]⟩, .int .i64 0, .int .i64 0, .int .i64 0, .slice none 0 0, .slice none 0 0, .string ⟨#[]⟩], 11, rfl, rfl, by simp [Value.oneCell'], fun w' hk => .inr ⟨h1, rfl⟩⟩
  clear hG
  obtain ⟨cs, E, rfl, hl, h1, hend⟩ := HEX
  have HEND := Lib.hid hend
  have HTE : Hid (World.there w1 w.heap.size 0 cs.toArray.size) := Lib.hid (HX1.out.there 0 _ (by simp [hl]))
  have hsV : Hid ((Tryz.prog.info? 33).map (·.size) = some cs.toArray.size) := Lib.hid (by rw [List.size_toArray, hl]; kernel_rfl)
  have hiV : Hid ((Tryz.prog.info? 33).map (·.size) = some cs.length) := Lib.hid (by rw [hl]; kernel_rfl)
  have h1V : Hid (cs.toArray.all (·.oneCell') = true) := Lib.hid (all_oneCell_toArray h1)
  have HX2 : Hid (Blk (w1.setCells w.heap.size 0 cs) w.heap.size 33 cs) := Lib.hid (HX1.out.setCells0 cs hl.symm)
  clear hend hl h1
  go_wp2_with (with_reducible refine wpList_store_mid rfl 33 _ _ rfl w.heap.size 0 cs.toArray rfl rfl HTE.out hsV.out h1V.out ?_)
  refine bodyPost_ret (results_cell_tmp rfl _ _ w.heap.size rfl cs _ HX2.out.range0 Tryz.underlying33 rfl hiV.out) rfl ?_
  exact ⟨HEND.out _ (Keeps.setCells (t := 33) (by simp) HX1.out.typ 0 cs), HB1.out.trans (below_setCells_ (Nat.le_refl _) 0 cs)⟩
end Go.Proofs.YtkdmfjpfanmgmaaGreatDoor
