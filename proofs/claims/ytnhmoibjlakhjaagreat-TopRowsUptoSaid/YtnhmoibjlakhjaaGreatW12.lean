/- Lemmas, each under its own conditions. -/
import Derived.Test.YtnhmoibjlakhjaaGreatW06
import Derived.Lib.Small
import Derived.Test.YtnhmoibjlakhjaaGreatW10
import Derived.Test.YtnhmoibjlakhjaaGreatW11
set_option linter.all false
namespace Go.Proofs.YtnhmoibjlakhjaaGreat
set_option maxRecDepth 100000
set_option maxHeartbeats 16000000
def Yi:List UInt8:= [114,111,111,116]
def XI (a b:Mb):Int:=Pf (YR a.ZQ b.ZQ) (YR a.of b.of)
def X4 (ms:List Mb)(ZQ:List UInt8):List (List UInt8):=(ms.filter fun m=>m.ZQ == ZQ).map (·.of)
def QI:Nat->List Mb->List (List UInt8)->List UInt8->List (List UInt8)
 | 0,_,met,_=>met
 | n+1,ms,met,ZQ=>if ZQ∈met then met else(X4 ms ZQ).foldl (QI n ms) (ZQ ::met)
def SP (ms:List Mb)(ZQ:List UInt8):List (List UInt8):=QI (ms.length+2) ms [] ZQ
def Yc (r:Ro):Bool:=
 decide (r.ZU.length<=16) && decide (r.ZY.length<=256) && Zt YR r.ZU && Zt XI r.ZY && r.ZU.all Zw &&
  r.ZY.all fun m=>r.ZU.contains m.ZQ && r.ZU.contains m.of && !(SP r.ZY m.of).contains m.ZQ
def XN (r:Ro)(ZQ:List UInt8):List (List UInt8):=
 if Yc r && r.ZU.contains ZQ then r.ZU.filter fun n=>(SP r.ZY ZQ).contains n else []
def Jt (r:Ro)(ZQ of:List UInt8):Bool:=(XN r ZQ).contains of
def RZ (a b:Gr):Int:=
 Pf (YR a.Z9 b.Z9) (Pf (YR a.ZZ b.ZZ) (Pf (Lib.compareInt a.right b.right) (Pf (YR a.ZM b.ZM) (YR a.to b.to))))
def Yq (g:Gr):List UInt8×List UInt8×Int×List UInt8×List UInt8:=(g.Z9,g.ZZ,g.right,g.ZM,g.to)
def RR (n:Int):Bool:=n == 1 || n == 2
def Uu (c:Ca)(s n:List UInt8):Option Tb:=c.ob.Z8.find? fun t=>t.Z9 == s && t.name == n
def UQ (c:Ca):Bool:=(c.ob.Z7.all fun s=>c.ro.ZU.contains s.ZN) && c.ob.Z8.all fun t=>c.ro.ZU.contains t.ZN
def Uj (c:Ca)(g:Gr):Bool:=(Uu c g.Z9 g.ZZ).isSome && RR g.right && g.ZM != g.to && c.ro.ZU.contains g.ZM && c.ro.ZU.contains g.to
def Yu (c:Ca):Option Gr->List Gr->Bool
 | _,[]=>true
 | p,g ::l=>Uj c g && (match p with | some q=> !(Yq g == Yq q) && !decide (0<RZ q g) | none=>true) && Yu c (some g) l
def Xz (c:Ca):Bool:=
 decide (c.Z4.length<=64) && Zc c.ob && Yc c.ro && c.ro.ZU.contains Yi && UQ c && Yu c none c.Z4
def QN (c:Ca)(t:Tb):List UInt8:=((c.ob.Z7.find? fun s=>s.name == t.Z9).map (·.ZN)).getD []
def VD (c:Ca)(is:List (List UInt8))(t:Tb):Bool:=is.any fun r=>r == Yi || r == t.ZN || r == QN c t
def TJ (l:List Gr)(is:List (List UInt8))(t:Tb)(right:Int)(Zq:Bool):Bool:=
 l.any fun g=>g.Z9 == t.Z9 && g.ZZ == t.name && g.right == right && (g.Zq || !Zq) && is.contains g.to
def XU (c:Ca)(l:List Gr)(g:Gr):Bool:=
 !(l.any fun x=>Yq x == Yq g) && (match Uu c g.Z9 g.ZZ with
  | some t=>VD c (XN c.ro g.ZM) t || TJ l (XN c.ro g.ZM) t g.right true
  | none=>false)
def XQ (c:Ca):Nat->List Gr->List Gr
 | 0,l=>l
 | n+1,l=>match c.Z4.find? (XU c l) with
  | some g=>XQ c n (l ++ [g])
  | none=>l
def Vd (c:Ca):List Gr:=if Xz c then XQ c c.Z4.length [] else []
def Xf (c:Ca):Bool:=Xz c && (Vd c).length == c.Z4.length
def VK (c:Ca)(ZQ s n:List UInt8):Bool:=
 match Uu c s n with
 | some t=>Xf c && c.ro.ZU.contains ZQ && VD c (XN c.ro ZQ) t
 | none=>false
def Di (c:Ca)(ZQ s n:List UInt8)(right:Int):Bool:=
 match Uu c s n with
 | some t=>RR right && Xf c && c.ro.ZU.contains ZQ && (VD c (XN c.ro ZQ) t || TJ c.Z4 (XN c.ro ZQ) t right false)
 | none=>false
open Go.RowKit
theorem Tv {P:Program}(w:World)(m:Addr)(h:TypeId)(cs:List Value)(d:TypeDesc)(C: ∀ j v,cs[j]?=some v->w.cell? (m.add j)=some v)
  (F:P.underlying h=some d) (hd:d.isRow=true) (s:(P.info? h).map (·.size)=some cs.length):
  (loadVar h m).run P w= .ok (.agg cs.toArray) w:=by
 have D:(loadCells m cs.length).run P w= .ok cs.toArray w:=run_loadCells_list (P:=P) w m cs C
 cases hq:P.info? h with
 | none=>simp [hq] at s
 | some i=>
  have E:i.size=cs.length:=by simpa [hq] using s
  have u:(isAgg h).run P w= .ok true w:=by
   unfold isAgg;rw [Sem.run_bind,run_underlying F w]
   cases d <;> simp_all
  simp [loadVar,Sem.run_bind,u,sizeOf,typeInfo,hq,E,D]
theorem ZK {P:Program}{ops:Array Oper}{rest:List Oper}{op:Oper}{a:Act}{w:World}{Q:Exit->Act->World->Prop}(u:op.guard=none)(m:TypeId)(x:Operand)(F:op.op= .load m x)
  (s:Addr) (I:a.eval x= .pointer (some s)) (cs:List Value) (d:TypeDesc) (D: ∀ j v,cs[j]?=some v->w.cell? (s.add j)=some v)
  (G:P.underlying m=some d) (hd:d.isRow=true) (E:(P.info? m).map (·.size)=some cs.length)
  (h:wpList P ops Q rest (a.put op.dst (.agg cs.toArray)) w):wpList P ops Q (op ::rest) a w:=
 wpList_plain u fun _ C=>by
  unfold Oper.wp execOp;simp only [F,I,Instr.loadAt,Instr.sureAddr,Sem.run_bind,Sem.run_pure,Result.andThen_ok,Tv w s m cs d D G hd E];exact C _ _ h
def QG (P:Program)(g:Nat)(lb:Array Value)(sh:List Sh)(ds:List (List Da))(p:List Da->Bool)(w:World):Prop:=
 ∀ (W:World) (d:List Da) (vs:List Value),Below w.heap.size w W->d∈ds->ZE W (· < w.heap.size) sh d vs->Calls P g (#[.agg vs.toArray] ++lb) W fun e w'=>e= .returned (.bool (p d))/\Below W.heap.size W w'
def Zd {α:Type}(p:α->Bool):List α->Nat->Int
 | [],_=> -1
 | c ::r,n=>if p c=true then(n:Int) else Zd p r (n+1)
theorem WY {α:Type}{p:α->Bool}{cs:List α}{j:Nat}(d:j<cs.length):Zd p (cs.drop j) j=if p cs[j]=true then(j:Int) else Zd p (cs.drop (j+1)) (j+1):=by
 rw [List.drop_eq_getElem_cons d];rfl
theorem QQ {α:Type}(p:α->Bool): ∀ (l:List α)(n:Nat),decide (0<=Zd p l n)=l.any p
 | [],n=>rfl
 | c ::r,n=>by
  unfold Zd
  cases h:p c
  ·simp [h,QQ p r (n+1)]
  ·simp [h]
theorem WN {α:Type}(p:α->Bool)(l:List α):decide (0<=Zd p l 0)=l.any p:=QQ p l 0
theorem NY {α:Type}(p:α->Bool): ∀ (l:List α)(n:Nat),Zd p l n=match l.findIdx? p with
  | some i=>((n+i:Nat):Int)
  | none=> -1
 | [],n=>rfl
 | c ::r,n=>by
  unfold Zd;rw [List.findIdx?_cons]
  cases h:p c
  ·simp only [Bool.false_eq_true,if_false];rw [NY p r (n+1)]
   cases r.findIdx? p with
   | none=>rfl
   | some i=>
    show ((n+1+i:Nat):Int)=((n+ (i+1):Nat):Int)
    rw [show n+1+i=n+ (i+1) from by omega]
  ·simp
theorem US {α:Type}(p:α->Bool)(l:List α):Zd p l 0=WS (l.findIdx? p):=by
 rw [NY]
 cases l.findIdx? p with
 | none=>rfl
 | some i=>simp [WS]
end Go.Proofs.YtnhmoibjlakhjaaGreat
