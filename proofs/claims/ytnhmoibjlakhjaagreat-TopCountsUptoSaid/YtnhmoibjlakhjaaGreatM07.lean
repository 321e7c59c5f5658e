/- Lemmas of the proof. No condition but each theorem's own. -/
import Derived.Test.YtnhmoibjlakhjaaGreatM06
import Derived.Lib.Small
set_option linter.unusedVariables false
set_option linter.unusedSimpArgs false
namespace Go.Proofs.YtnhmoibjlakhjaaGreat
set_option maxRecDepth 100000
set_option maxHeartbeats 16000000
def Yd:List UInt8:= [114,111,111,116]
def X4 (a b:Mb):Int:=QK (Y3 a.ZR b.ZR) (Y3 a.of b.of)
def Yj (ms:List Mb)(ZR:List UInt8):List (List UInt8):=(ms.filter fun m=>m.ZR == ZR).map (·.of)
def SK:Nat→List Mb→List (List UInt8)→List UInt8→List (List UInt8)
 | 0,_,met,_=>met
 | n+1,ms,met,ZR=>if ZR∈met then met else(Yj ms ZR).foldl (SK n ms) (ZR ::met)
def Ui (ms:List Mb)(ZR:List UInt8):List (List UInt8):=SK (ms.length+2) ms [] ZR
def Yr (r:Ro):Bool:=
 decide (r.ZW.length≤16) && decide (r.Z2.length≤256) && Zn Y3 r.ZW && Zn X4 r.Z2 && r.ZW.all Zq &&
  r.Z2.all fun m=>r.ZW.contains m.ZR && r.ZW.contains m.of && !(Ui r.Z2 m.of).contains m.ZR
def X6 (r:Ro)(ZR:List UInt8):List (List UInt8):=
 if Yr r && r.ZW.contains ZR then r.ZW.filter fun n=>(Ui r.Z2 ZR).contains n else []
def MG (r:Ro)(ZR of:List UInt8):Bool:=(X6 r ZR).contains of
def TG (a b:Gr):Int:=
 QK (Y3 a.Z8 b.Z8) (QK (Y3 a.ZX b.ZX) (QK (Lib.compareInt a.right b.right) (QK (Y3 a.ZM b.ZM) (Y3 a.to b.to))))
def YG (g:Gr):List UInt8×List UInt8×Int×List UInt8×List UInt8:=(g.Z8,g.ZX,g.right,g.ZM,g.to)
def TA (n:Int):Bool:=n == 1 || n == 2
def Vo (c:Ca)(s n:List UInt8):Option Tb:=c.ob.Z7.find? fun t=>t.Z8 == s && t.name == n
def VG (c:Ca):Bool:=(c.ob.Z4.all fun s=>c.ro.ZW.contains s.ZN) && c.ob.Z7.all fun t=>c.ro.ZW.contains t.ZN
def Vd (c:Ca)(g:Gr):Bool:=(Vo c g.Z8 g.ZX).isSome && TA g.right && g.ZM != g.to && c.ro.ZW.contains g.ZM && c.ro.ZW.contains g.to
def YO (c:Ca):Option Gr→List Gr→Bool
 | _,[]=>true
 | p,g ::l=>Vd c g && (match p with | some q=> !(YG g == YG q) && !decide (0<TG q g) | none=>true) && YO c (some g) l
def XT (c:Ca):Bool:=
 decide (c.Z3.length≤64) && YR c.ob && Yr c.ro && c.ro.ZW.contains Yd && VG c && YO c none c.Z3
def SO (c:Ca)(t:Tb):List UInt8:=((c.ob.Z4.find? fun s=>s.name == t.Z8).map (·.ZN)).getD []
def Wv (c:Ca)(is:List (List UInt8))(t:Tb):Bool:=is.any fun r=>r == Yd || r == t.ZN || r == SO c t
def UT (l:List Gr)(is:List (List UInt8))(t:Tb)(right:Int)(Zy:Bool):Bool:=
 l.any fun g=>g.Z8 == t.Z8 && g.ZX == t.name && g.right == right && (g.Zy || !Zy) && is.contains g.to
def Ya (c:Ca)(l:List Gr)(g:Gr):Bool:=
 !(l.any fun x=>YG x == YG g) && (match Vo c g.Z8 g.ZX with
  | some t=>Wv c (X6 c.ro g.ZM) t || UT l (X6 c.ro g.ZM) t g.right true
  | none=>false)
def X9 (c:Ca):Nat→List Gr→List Gr
 | 0,l=>l
 | n+1,l=>match c.Z3.find? (Ya c l) with
  | some g=>X9 c n (l ++ [g])
  | none=>l
def VX (c:Ca):List Gr:=if XT c then X9 c c.Z3.length [] else []
def XD (c:Ca):Bool:=XT c && (VX c).length == c.Z3.length
def WC (c:Ca)(ZR s n:List UInt8):Bool:=
 match Vo c s n with
 | some t=>XD c && c.ro.ZW.contains ZR && Wv c (X6 c.ro ZR) t
 | none=>false
def Hu (c:Ca)(ZR s n:List UInt8)(right:Int):Bool:=
 match Vo c s n with
 | some t=>TA right && XD c && c.ro.ZW.contains ZR && (Wv c (X6 c.ro ZR) t || UT c.Z3 (X6 c.ro ZR) t right false)
 | none=>false
end Go.Proofs.YtnhmoibjlakhjaaGreat
