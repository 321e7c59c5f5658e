/- Lemmas of the proof. No condition but each theorem's own. -/
import Derived.Test.YtnhmoibjlakhjaaGreatM04
import Derived.Test.YtnhmoibjlakhjaaGreatM05
import Derived.Lib.Strings
import Derived.Lib.Bytealg
set_option linter.unusedVariables false
set_option linter.unusedSimpArgs false
namespace Go.Proofs.YtnhmoibjlakhjaaGreat
set_option maxRecDepth 100000
set_option maxHeartbeats 16000000
def Y3 (a b:List UInt8):Int:=Lib.compareBytes a b
def QK (a b:Int):Int:=if a=0 then b else a
def Xn (a b:Tb):Int:=QK (Y3 a.Z8 b.Z8) (Y3 a.name b.name)
def WM (a b:Sc):Int:=Y3 a.name b.name
def WO (a b:Ru):Int:=Y3 a.name b.name
def Zn {α:Type}(c:α→α→Int):List α→Bool
 | a ::b ::l=>decide (c a b<0) && Zn c (b ::l)
 | _=>true
def Xe:Option Nat→Int
 | some i=>i
 | none=> -1
def XJ (l:List Cl)(n:List UInt8):Option Nat:=l.findIdx? fun c=>c.name == n
def Td (l:List Ru)(n:List UInt8):Option Nat:=l.findIdx? fun r=>r.name == n
def WU (l:List Sc)(n:List UInt8):Option Nat:=l.findIdx? fun s=>s.name == n
def Xr (o:Ob)(s t:List UInt8):Option Nat:=o.Z7.findIdx? fun x=>x.Z8 == s && x.name == t
def XC (o:Ob)(s:List UInt8):Nat:=(o.Z7.filter fun t=>t.Z8 == s).length
def Vb (c:Cl):Bool:=Zq c.name && (c.ZQ == 2 || c.ZQ == 3)
def Xk (l:List Cl):Nat→List Cl→Bool
 | _,[]=>true
 | i,c ::r=>Vb c && XJ l c.name == some i && Xk l (i+1) r
def Yb (l:List Cl):Bool:=decide (1≤l.length) && decide (l.length≤8) && Xk l 0 l
def Yo (l:List Cl)(cs:List (List UInt8)):Nat→List (List UInt8)→Bool
 | _,[]=>true
 | i,n ::r=>(XJ l n).isSome && cs.findIdx? (· == n) == some i && Yo l cs (i+1) r
def SZ (r:Ru):Bool:=r.Z8 ++r.ZX ++r.key == []
def VV (l:List Cl)(n:List UInt8):Option Int:=(l.find? fun c=>c.name == n).map (·.ZQ)
def TJ (l:List Cl)(r:Ru):Bool:=
 if r.ZQ=3 then SZ r && r.ZY.length == 1 && VV l (r.ZY.headD []) == some 2 && decide (r.low≤r.ZF)
 else if r.ZQ=4 then Zq r.Z8 && Zq r.ZX && Zq r.key && r.low == 0 && r.ZF == 0
 else if r.ZQ=1∨r.ZQ=2 then SZ r && r.low == 0 && r.ZF == 0
 else false
def Yt (l:List Cl)(r:Ru):Bool:=Zq r.name && decide (1≤r.ZY.length) && decide (r.ZY.length≤l.length) && Yo l r.ZY 0 r.ZY && TJ l r
def YE (l:List Cl)(ns:List (List UInt8)):List Int:=ns.filterMap (VV l)
def Uu (o:Ob)(l:List Cl)(r:Ru):Int:=
 match o.Z7.find? fun x=>x.Z8 == r.Z8 && x.name == r.ZX with
 | none=>61
 | some t=>
  match t.ZT.find? fun x=>x.name == r.key with
  | none=>61
  | some k=>if k.ZQ≠2 then 61 else if k.ZY.length=r.ZY.length∧(YE t.ZY k.ZY).length=k.ZY.length∧YE l r.ZY=YE t.ZY k.ZY then 0 else 63
def U2 (o:Ob)(t:Tb)(r:Ru):Bool:=Yt t.ZY r && (r.ZQ != 4 || Uu o t.ZY r == 0)
def YS (o:Ob)(t:Tb):Bool:=
 Zq t.name && Zq t.ZN && Yb t.ZY && decide (t.ZT.length≤8) && (WU o.Z4 t.Z8).isSome && t.ZT.all (U2 o t) && Zn WO t.ZT
def YR (o:Ob):Bool:=
 decide (o.Z4.length≤8) && decide (o.Z7.length≤64) && Zn Xn o.Z7 && Zn WM o.Z4 && (o.Z4.all fun s=>Zq s.name && Zq s.ZN && decide (XC o s.name≤8)) && o.Z7.all (YS o)
theorem Ur {o:Ob}(h:YR o=true){t:Tb}(ht:t∈o.Z7):(WU o.Z4 t.Z8).isSome=true:=by
 unfold YR at h;simp only [Bool.and_eq_true,List.all_eq_true] at h;have:=h.2 t ht;unfold YS at this;simp only [Bool.and_eq_true] at this;exact this.1.1.2
end Go.Proofs.YtnhmoibjlakhjaaGreat
