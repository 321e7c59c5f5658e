/- Lemmas of the proof. No condition but each theorem's own. -/
import Derived.Test.YtnhmoibjlakhjaaGreatM06
import Derived.Lib.Small
set_option linter.unusedVariables false
set_option linter.unusedSimpArgs false
namespace Go.Proofs.YtnhmoibjlakhjaaGreat
set_option maxRecDepth 100000
set_option maxHeartbeats 16000000
def Yf:List UInt8:= [114,111,111,116]
def X3 (a b:Mb):Int:=QO (Y3 a.ZR b.ZR) (Y3 a.of b.of)
def Yk (ms:List Mb)(ZR:List UInt8):List (List UInt8):=(ms.filter fun m=>m.ZR == ZR).map (·.of)
def SR:Nat→List Mb→List (List UInt8)→List UInt8→List (List UInt8)
 | 0,_,met,_=>met
 | n+1,ms,met,ZR=>if ZR∈met then met else(Yk ms ZR).foldl (SR n ms) (ZR ::met)
def Uj (ms:List Mb)(ZR:List UInt8):List (List UInt8):=SR (ms.length+2) ms [] ZR
def Yr (r:Ro):Bool:=
 decide (r.ZW.length≤16) && decide (r.Z2.length≤256) && Zn Y3 r.ZW && Zn X3 r.Z2 && r.ZW.all Zq &&
  r.Z2.all fun m=>r.ZW.contains m.ZR && r.ZW.contains m.of && !(Uj r.Z2 m.of).contains m.ZR
def X6 (r:Ro)(ZR:List UInt8):List (List UInt8):=
 if Yr r && r.ZW.contains ZR then r.ZW.filter fun n=>(Uj r.Z2 ZR).contains n else []
def ML (r:Ro)(ZR of:List UInt8):Bool:=(X6 r ZR).contains of
def TV (a b:Gr):Int:=
 QO (Y3 a.Z8 b.Z8) (QO (Y3 a.ZX b.ZX) (QO (Lib.compareInt a.right b.right) (QO (Y3 a.ZM b.ZM) (Y3 a.to b.to))))
def YH (g:Gr):List UInt8×List UInt8×Int×List UInt8×List UInt8:=(g.Z8,g.ZX,g.right,g.ZM,g.to)
def Tx (n:Int):Bool:=n == 1 || n == 2
def Vm (c:Ca)(s n:List UInt8):Option Tb:=c.ob.Z7.find? fun t=>t.Z8 == s && t.name == n
def VG (c:Ca):Bool:=(c.ob.Z4.all fun s=>c.ro.ZW.contains s.ZN) && c.ob.Z7.all fun t=>c.ro.ZW.contains t.ZN
def Vj (c:Ca)(g:Gr):Bool:=(Vm c g.Z8 g.ZX).isSome && Tx g.right && g.ZM != g.to && c.ro.ZW.contains g.ZM && c.ro.ZW.contains g.to
def YO (c:Ca):Option Gr→List Gr→Bool
 | _,[]=>true
 | p,g ::l=>Vj c g && (match p with | some q=> !(YH g == YH q) && !decide (0<TV q g) | none=>true) && YO c (some g) l
def XU (c:Ca):Bool:=
 decide (c.Z3.length≤64) && YR c.ob && Yr c.ro && c.ro.ZW.contains Yf && VG c && YO c none c.Z3
def ST (c:Ca)(t:Tb):List UInt8:=((c.ob.Z4.find? fun s=>s.name == t.Z8).map (·.ZN)).getD []
def Wv (c:Ca)(is:List (List UInt8))(t:Tb):Bool:=is.any fun r=>r == Yf || r == t.ZN || r == ST c t
def UU (l:List Gr)(is:List (List UInt8))(t:Tb)(right:Int)(Zy:Bool):Bool:=
 l.any fun g=>g.Z8 == t.Z8 && g.ZX == t.name && g.right == right && (g.Zy || !Zy) && is.contains g.to
def Yb (c:Ca)(l:List Gr)(g:Gr):Bool:=
 !(l.any fun x=>YH x == YH g) && (match Vm c g.Z8 g.ZX with
  | some t=>Wv c (X6 c.ro g.ZM) t || UU l (X6 c.ro g.ZM) t g.right true
  | none=>false)
def X9 (c:Ca):Nat→List Gr→List Gr
 | 0,l=>l
 | n+1,l=>match c.Z3.find? (Yb c l) with
  | some g=>X9 c n (l ++ [g])
  | none=>l
def VY (c:Ca):List Gr:=if XU c then X9 c c.Z3.length [] else []
def XE (c:Ca):Bool:=XU c && (VY c).length == c.Z3.length
def Ww (c:Ca)(ZR s n:List UInt8):Bool:=
 match Vm c s n with
 | some t=>XE c && c.ro.ZW.contains ZR && Wv c (X6 c.ro ZR) t
 | none=>false
def Ic (c:Ca)(ZR s n:List UInt8)(right:Int):Bool:=
 match Vm c s n with
 | some t=>Tx right && XE c && c.ro.ZW.contains ZR && (Wv c (X6 c.ro ZR) t || UU c.Z3 (X6 c.ro ZR) t right false)
 | none=>false
end Go.Proofs.YtnhmoibjlakhjaaGreat
