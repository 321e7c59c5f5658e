/- Lemmas of the proof. No condition but each theorem's own. -/
import Derived.Test.YtnhmoibjlakhjaaGreatR07
import Derived.Test.YtnhmoibjlakhjaaGreatR10
import Derived.Test.YtnhmoibjlakhjaaGreatR11
import Derived.Deep.MidRow
set_option linter.unusedVariables false
set_option linter.unusedSimpArgs false
namespace Go.Proofs.YtnhmoibjlakhjaaGreat
set_option maxRecDepth 100000
set_option maxHeartbeats 16000000
open Go.RowKit
theorem UO {P:Program}(w:World)(ad:Addr)(ty:TypeId)(cs:List Value)(d:TypeDesc)(hc: ∀ j v,cs[j]?=some v→w.cell? (ad.add j)=some v)
  (hu:P.underlying ty=some d) (hd:d.isRow=true) (hi:(P.info? ty).map (·.size)=some cs.length):
  (loadVar ty ad).run P w= .ok (.agg cs.toArray) w:=by
 have hl:(loadCells ad cs.length).run P w= .ok cs.toArray w:=run_loadCells_list (P:=P) w ad cs hc
 cases hq:P.info? ty with
 | none=>simp [hq] at hi
 | some i=>
  have hs:i.size=cs.length:=by simpa [hq] using hi
  have hagg:(isAgg ty).run P w= .ok true w:=by
   unfold isAgg;rw [Sem.run_bind,run_underlying hu w]
   cases d <;> simp_all
  simp [loadVar,Sem.run_bind,hagg,sizeOf,typeInfo,hq,hs,hl]
theorem ZI {P:Program}{ops:Array Oper}{rest:List Oper}{op:Oper}{a:Act}{w:World}{Q:Exit→Act→World→Prop}(hgd:op.guard=none)(ty:TypeId)(x:Operand)(ho:op.op= .load ty x)
  (ad:Addr) (hx:a.eval x= .pointer (some ad)) (cs:List Value) (d:TypeDesc) (hc: ∀ j v,cs[j]?=some v→w.cell? (ad.add j)=some v)
  (hu:P.underlying ty=some d) (hd:d.isRow=true) (hi:(P.info? ty).map (·.size)=some cs.length)
  (h:wpList P ops Q rest (a.put op.dst (.agg cs.toArray)) w):wpList P ops Q (op ::rest) a w:=
 wpList_plain hgd fun _ hK=>by
  unfold Oper.wp execOp;simp only [ho,hx,Instr.loadAt,Instr.sureAddr,Sem.run_bind,Sem.run_pure,Result.andThen_ok,UO w ad ty cs d hc hu hd hi];exact hK _ _ h
def Sq (P:Program)(g:Nat)(lb:Array Value)(sh:List Sh)(ds:List (List Da))(p:List Da→Bool)(w:World):Prop:=
 ∀ (W:World) (d:List Da) (vs:List Value),Below w.heap.size w W→d∈ds→ZH W (· < w.heap.size) sh d vs→Calls P g (#[.agg vs.toArray] ++lb) W fun e w'=>e= .returned (.bool (p d))∧Below W.heap.size W w'
def Zi {α:Type}(p:α→Bool):List α→Nat→Int
 | [],_=> -1
 | c ::r,n=>if p c=true then(n:Int) else Zi p r (n+1)
theorem Xx {α:Type}{p:α→Bool}{cs:List α}{j:Nat}(hj:j<cs.length):Zi p (cs.drop j) j=if p cs[j]=true then(j:Int) else Zi p (cs.drop (j+1)) (j+1):=by
 rw [List.drop_eq_getElem_cons hj];rfl
theorem SL {α:Type}(p:α→Bool): ∀ (l:List α)(n:Nat),decide (0≤Zi p l n)=l.any p
 | [],n=>rfl
 | c ::r,n=>by
  unfold Zi
  cases h:p c
  ·simp [h,SL p r (n+1)]
  ·simp [h]
theorem WZ {α:Type}(p:α→Bool)(l:List α):decide (0≤Zi p l 0)=l.any p:=SL p l 0
theorem Qw {α:Type}(p:α→Bool): ∀ (l:List α)(n:Nat),Zi p l n=match l.findIdx? p with
  | some i=>((n+i:Nat):Int)
  | none=> -1
 | [],n=>rfl
 | c ::r,n=>by
  unfold Zi;rw [List.findIdx?_cons]
  cases h:p c
  ·simp only [Bool.false_eq_true,if_false];rw [Qw p r (n+1)]
   cases r.findIdx? p with
   | none=>rfl
   | some i=>
    show ((n+1+i:Nat):Int)=((n+ (i+1):Nat):Int)
    rw [show n+1+i=n+ (i+1) from by omega]
  ·simp
theorem VO {α:Type}(p:α→Bool)(l:List α):Zi p l 0=Xe (l.findIdx? p):=by
 rw [Qw]
 cases l.findIdx? p with
 | none=>rfl
 | some i=>simp [Xe]
end Go.Proofs.YtnhmoibjlakhjaaGreat
