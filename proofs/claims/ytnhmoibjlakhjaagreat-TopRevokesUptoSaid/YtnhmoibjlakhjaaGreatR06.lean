/- Lemmas of the proof. No condition but each theorem's own. -/
import Derived.Test.YtnhmoibjlakhjaaGreatR04
import Derived.Test.YtnhmoibjlakhjaaGreatR05
import Derived.Lib.Strings
import Derived.Lib.Bytealg
set_option linter.unusedVariables false
set_option linter.unusedSimpArgs false
namespace Go.Proofs.YtnhmoibjlakhjaaGreat
set_option maxRecDepth 100000
set_option maxHeartbeats 16000000
def Y4 (a b:List UInt8):Int:=Lib.compareBytes a b
def QP (a b:Int):Int:=if a=0 then b else a
def Xm (a b:Tb):Int:=QP (Y4 a.Z8 b.Z8) (Y4 a.name b.name)
def WO (a b:Sc):Int:=Y4 a.name b.name
def WQ (a b:Ru):Int:=Y4 a.name b.name
def Zo {α:Type}(c:α→α→Int):List α→Bool
 | a ::b ::l=>decide (c a b<0) && Zo c (b ::l)
 | _=>true
def Xe:Option Nat→Int
 | some i=>i
 | none=> -1
def XJ (l:List Cl)(n:List UInt8):Option Nat:=l.findIdx? fun c=>c.name == n
def S4 (l:List Ru)(n:List UInt8):Option Nat:=l.findIdx? fun r=>r.name == n
def WY (l:List Sc)(n:List UInt8):Option Nat:=l.findIdx? fun s=>s.name == n
def Xs (o:Ob)(s t:List UInt8):Option Nat:=o.Z7.findIdx? fun x=>x.Z8 == s && x.name == t
def XC (o:Ob)(s:List UInt8):Nat:=(o.Z7.filter fun t=>t.Z8 == s).length
def Vi (c:Cl):Bool:=Zr c.name && (c.ZQ == 2 || c.ZQ == 3)
def Xj (l:List Cl):Nat→List Cl→Bool
 | _,[]=>true
 | i,c ::r=>Vi c && XJ l c.name == some i && Xj l (i+1) r
def Yb (l:List Cl):Bool:=decide (1≤l.length) && decide (l.length≤8) && Xj l 0 l
def Yq (l:List Cl)(cs:List (List UInt8)):Nat→List (List UInt8)→Bool
 | _,[]=>true
 | i,n ::r=>(XJ l n).isSome && cs.findIdx? (· == n) == some i && Yq l cs (i+1) r
def SS (r:Ru):Bool:=r.Z8 ++r.ZY ++r.key == []
def VW (l:List Cl)(n:List UInt8):Option Int:=(l.find? fun c=>c.name == n).map (·.ZQ)
def TG (l:List Cl)(r:Ru):Bool:=
 if r.ZQ=3 then SS r && r.ZX.length == 1 && VW l (r.ZX.headD []) == some 2 && decide (r.low≤r.ZF)
 else if r.ZQ=4 then Zr r.Z8 && Zr r.ZY && Zr r.key && r.low == 0 && r.ZF == 0
 else if r.ZQ=1∨r.ZQ=2 then SS r && r.low == 0 && r.ZF == 0
 else false
def Yy (l:List Cl)(r:Ru):Bool:=Zr r.name && decide (1≤r.ZX.length) && decide (r.ZX.length≤l.length) && Yq l r.ZX 0 r.ZX && TG l r
def YE (l:List Cl)(ns:List (List UInt8)):List Int:=ns.filterMap (VW l)
def Uu (o:Ob)(l:List Cl)(r:Ru):Int:=
 match o.Z7.find? fun x=>x.Z8 == r.Z8 && x.name == r.ZY with
 | none=>61
 | some t=>
  match t.ZS.find? fun x=>x.name == r.key with
  | none=>61
  | some k=>if k.ZQ≠2 then 61 else if k.ZX.length=r.ZX.length∧(YE t.ZX k.ZX).length=k.ZX.length∧YE l r.ZX=YE t.ZX k.ZX then 0 else 63
def U9 (o:Ob)(t:Tb)(r:Ru):Bool:=Yy t.ZX r && (r.ZQ != 4 || Uu o t.ZX r == 0)
def YV (o:Ob)(t:Tb):Bool:=
 Zr t.name && Zr t.ZL && Yb t.ZX && decide (t.ZS.length≤8) && (WY o.Z4 t.Z8).isSome && t.ZS.all (U9 o t) && Zo WQ t.ZS
def YT (o:Ob):Bool:=
 decide (o.Z4.length≤8) && decide (o.Z7.length≤64) && Zo Xm o.Z7 && Zo WO o.Z4 && (o.Z4.all fun s=>Zr s.name && Zr s.ZL && decide (XC o s.name≤8)) && o.Z7.all (YV o)
theorem VG {o:Ob}(h:YT o=true){t:Tb}(ht:t∈o.Z7):(WY o.Z4 t.Z8).isSome=true:=by
 unfold YT at h;simp only [Bool.and_eq_true,List.all_eq_true] at h;have:=h.2 t ht;unfold YV at this;simp only [Bool.and_eq_true] at this;exact this.1.1.2
end Go.Proofs.YtnhmoibjlakhjaaGreat
