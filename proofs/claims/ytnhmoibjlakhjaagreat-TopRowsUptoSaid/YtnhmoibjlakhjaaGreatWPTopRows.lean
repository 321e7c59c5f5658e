/-
  The statement TopRows of folkmoottop is proved: for every input the law returns true, and its arguments read as before. Condition: what comes in is of bulk at most 1048576 (the statement's second form). The frame is turned from the kit's proof-skeleton; the walks lie in the texts that are imported.
-/
import Derived.Test.YtnhmoibjlakhjaaGreatW57
import Derived.ProofKit
import Derived.ShutString
namespace Go.Proofs.YtnhmoibjlakhjaaGreat.topRows
open Go.ChangeShapes Go.WideShapes Go.ChangeAt Go.RowKit
open Go.ChangeMaps (open_string shut_string)
set_option linter.unusedVariables false
theorem own:ownKnob Tryz.prog.godebug = none:=by kernel_rfl
theorem laidOut:laidOutB Tryz.prog = true:=by kernel_rfl
theorem walk (a0:Option Addr)(len0 cap0:Nat)(z0:List Da)(a1:Option Addr)(Kj cap1:Nat)(z1:List Da)(w:World)(w0:ZE w (·<w.heap.size) [.rows WU] z0 [.slice a0 len0 cap0])(s0:Sy z0≤1048576)(w1:ZE w (·<w.heap.size) [.rows Vq] z1 [.slice a1 Kj cap1])(s1:Sy z1≤1048576) :
  Calls Tryz.prog 5 #[.slice a0 len0 cap0,.slice a1 Kj cap1] w fun e w'=>e = .returned (.bool true)∧Below w.heap.size w w':=by
 obtain ⟨l,rfl,hL,hx⟩:=F5 w0 s0
 obtain ⟨qs,rfl,hQ⟩:=EQ w1
 exact Li l a0 cap0 qs a1 cap1 w hL hQ fun x hm=>(hx x hm).up (by omega)
set_option maxRecDepth 100000 in
theorem contract (H:Type)(enc:TypeId × Value → H)(W:World)(base:Nat)(args:Array Value)(ds gs:List (DataW H))(before:List MemPlace)
  (hval:∀ (j:Nat) t v,Tryz.f5.params[j]? = some t → args[j]? = some v → Value.okWide Tryz.prog W .any base t v)
  (hW:DataW.Whole enc Tryz.prog Tryz.f5.params.toList Rows.topRowsSpec.vars false W args.toList ds gs before) (hk:Rows.uptoSmall H (ds ++ gs) = true) :
  Calls Tryz.prog 5 args W fun e W'=>∃ v,e = .returned v∧Rows.topRowsSpec.post enc Tryz.prog Tryz.f5 false true false false W args v W':=by
 have hW':=hW
 obtain ⟨p,q,hA0,hV,rfl,hfz,hnd⟩:=hW
 have hA:DataW.TrodAll enc Tryz.prog W 0 (fun _=>true) true Tryz.f5.params.toList args.toList ds p:=hA0
 rw [Tryz.params5] at hA hval
 obtain ⟨v0,vs0,d0,ds0,p0,q0,hargs,rfl,rfl,h0,r0⟩:=trodAll_cons hA
 obtain ⟨v1,vs1,d1,ds1,p1,q1,rfl,rfl,rfl,h1,r1⟩:=trodAll_cons r0
 obtain ⟨rfl,rfl,rfl⟩:=trodAll_nil r1
 obtain rfl:args = #[v0,v1]:=by cases args;simp_all
 obtain ⟨rfl,rfl⟩:=trodVars_none hV
 have hkb:Rows.uptoBulkAll ([d0,d1]:List (DataW H))≤1048576:=by
  simp only [List.append_nil] at hk
  exact of_decide_eq_true hk
 obtain ⟨a0,len0,cap0,rfl⟩:=okWide_slice Tryz.underlying22 (hval 0 22 v0 rfl rfl)
 have k0:=h0
 have lt0:∀ x ∈ p0,x.block<W.heap.size:=by obtain ⟨m,hm⟩:=k0;exact DataW.trod_lt m _ _ _ hm
 obtain ⟨z0,w0,hw0⟩:∃ ds,ZE W (·<W.heap.size) [.rows WU] ds [.slice a0 len0 cap0]∧Sy ds≤Rows.uptoBulk d0:=by
  obtain ⟨fuel,hf⟩:=h0
  exact Pg 60 60 22 [.rows WU] fuel [.slice a0 len0 cap0] _ (Nat.le_refl _) (by kernel_rfl) (by simpa [Value.cells] using hf)
 obtain ⟨a1,Kj,cap1,rfl⟩:=okWide_slice Tryz.underlying56 (hval 1 56 v1 rfl rfl)
 have k1:=h1
 have lt1:∀ x ∈ p1,x.block<W.heap.size:=by obtain ⟨m,hm⟩:=k1;exact DataW.trod_lt m _ _ _ hm
 obtain ⟨z1,w1,hw1⟩:∃ ds,ZE W (·<W.heap.size) [.rows Vq] ds [.slice a1 Kj cap1]∧Sy ds≤Rows.uptoBulk d1:=by
  obtain ⟨fuel,hf⟩:=h1
  exact Pg 60 60 56 [.rows Vq] fuel [.slice a1 Kj cap1] _ (Nat.le_refl _) (by kernel_rfl) (by simpa [Value.cells] using hf)
 clear hA0
 simp only [Rows.uptoBulkAll] at hkb
 refine (walk a0 len0 cap0 z0 a1 Kj cap1 z1 W w0 (by omega) w1 (by omega)).mono fun e W' ⟨he,Rw⟩=>?_
 subst he
 exact ⟨_,rfl,_,_,_,[],_,[],hW',trodAll_mk1 (shut_bool Tryz.underlying4 _),(trodAll_cons_mk (Below.trod laidOut (by kernel_rfl) (of_decide_eq_true (by kernel_rfl)) k0 Rw lt0) (trodAll_cons_mk (Below.trod laidOut (by kernel_rfl) (of_decide_eq_true (by kernel_rfl)) k1 Rw lt1) trodAll_mk0)),rfl,Rw.frame _,fun h=>by cases h⟩
set_option maxRecDepth 100000 in
theorem lifted (os:Os)(started:os.Started)(H:Type)(enc:TypeId × Value → H)(F:Stop.Interp) :
  ReturnsInHanded {} Tryz.checked os 5 .any ((Rows.OpenSpec.upto Rows.topRowsSpec).pre6 enc Tryz.prog Tryz.f5 Rows.topRowsUptoRow.domain false) (((Rows.OpenSpec.upto Rows.topRowsSpec).at F).post enc Tryz.prog Tryz.f5 false true false false):=by
 refine returnsInHanded_of_cond (C:=Tryz.checked) (s:=Rows.OpenSpec.upto Rows.topRowsSpec) (k:=Rows.uptoSmall) rfl own started (by kernel_rfl) Tryz.func5
  (OpenSpec.witness (enc:=enc) (C:=Tryz.checked) (s:=Rows.OpenSpec.upto Rows.topRowsSpec) (k:=Rows.uptoSmall) rfl false ⟨#[],#[.slice none 0 0,.slice none 0 0],[]⟩ 12 (by kernel_rfl) (by kernel_rfl) (by kernel_rfl)
   (x:=([.nil,.nil],[],[])) (by kernel_rfl) rfl (by kernel_rfl)) ?_
 intro W base args ds gs before hval hW _ hk _
 exact contract H enc W base args ds gs before hval hW hk
theorem named:Tryz.prog.funcNamed Rows.topRowsUptoRow.func = some 5:=by kernel_rfl
theorem placed:(Rows.topRowsUptoRow.inPlace == Tryz.prog.inPlace 5) = true:=by kernel_rfl
theorem followed:(Rows.topRowsUptoRow.unfollowed == Tryz.prog.unfollowed 5) = true:=by kernel_rfl
theorem recursing:(Rows.topRowsUptoRow.recurses == Tryz.prog.recurses 5) = true:=by kernel_rfl
theorem naming:(Rows.topRowsUptoRow.named == Tryz.prog.varsNamed 5) = true:=by kernel_rfl
theorem closed:joinedFacts Tryz.prog 5 Tryz.f5 (Rows.OpenSpec.upto Rows.topRowsSpec).bare Rows.topRowsUptoRow = true:=by
 unfold joinedFacts
 rw [placed,followed,recursing,naming]
 kernel_rfl
theorem instanced:Tryz.f5.isInstance Tryz.prog Rows.topRowsUptoRow.origin Rows.topRowsUptoRow.targs:=of_decide_eq_true (by kernel_rfl)
theorem wrapped:Tryz.f5.isWrapper Tryz.prog Rows.topRowsUptoRow.wrapper Rows.topRowsUptoRow.mainSum:=by
 unfold Func.isWrapper
 first | (rw [if_pos (by decide +kernel)];kernel_rfl) | (rw [if_neg (by decide +kernel)];exact ⟨rfl,rfl⟩)
theorem proved:Rows.TopRowsUptoSaid :=
 OpenClaim.holds_of_cond 5 Tryz.f5 rfl rfl rfl rfl rfl rfl rfl ⟨rfl,rfl,rfl,rfl,rfl⟩ rfl rfl rfl rfl rfl named Tryz.func5 closed
  instanced wrapped
  (fun os started H enc _ F=>lifted os started H enc F)
#print axioms proved
end Go.Proofs.YtnhmoibjlakhjaaGreat.topRows
