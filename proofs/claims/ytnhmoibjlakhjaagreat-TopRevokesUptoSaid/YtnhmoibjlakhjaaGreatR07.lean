/- Lemmas of the proof. No condition but each theorem's own. -/
import Derived.Test.YtnhmoibjlakhjaaGreatR06
import Derived.Lib.Small
set_option linter.unusedVariables false
set_option linter.unusedSimpArgs false
namespace Go.Proofs.YtnhmoibjlakhjaaGreat
set_option maxRecDepth 100000
set_option maxHeartbeats 16000000
def Yd:List UInt8:= [114,111,111,116]
def X3 (a b:Mb):Int:=QP (Y4 a.ZT b.ZT) (Y4 a.of b.of)
def Yl (ms:List Mb)(ZT:List UInt8):List (List UInt8):=(ms.filter fun m=>m.ZT == ZT).map (·.of)
def SF:Nat→List Mb→List (List UInt8)→List UInt8→List (List UInt8)
 | 0,_,met,_=>met
 | n+1,ms,met,ZT=>if ZT∈met then met else(Yl ms ZT).foldl (SF n ms) (ZT ::met)
def Ui (ms:List Mb)(ZT:List UInt8):List (List UInt8):=SF (ms.length+2) ms [] ZT
def Yu (r:Ro):Bool:=
 decide (r.ZW.length≤16) && decide (r.Z2.length≤256) && Zo Y4 r.ZW && Zo X3 r.Z2 && r.ZW.all Zr &&
  r.Z2.all fun m=>r.ZW.contains m.ZT && r.ZW.contains m.of && !(Ui r.Z2 m.of).contains m.ZT
def Yw (r:Ro)(ZT:List UInt8):List (List UInt8):=
 if Yu r && r.ZW.contains ZT then r.ZW.filter fun n=>(Ui r.Z2 ZT).contains n else []
def MP (r:Ro)(ZT of:List UInt8):Bool:=(Yw r ZT).contains of
def TD (a b:Gr):Int:=
 QP (Y4 a.Z8 b.Z8) (QP (Y4 a.ZY b.ZY) (QP (Lib.compareInt a.right b.right) (QP (Y4 a.ZN b.ZN) (Y4 a.to b.to))))
def YG (g:Gr):List UInt8×List UInt8×Int×List UInt8×List UInt8:=(g.Z8,g.ZY,g.right,g.ZN,g.to)
def Vc (n:Int):Bool:=n == 1 || n == 2
def WA (c:Ca)(s n:List UInt8):Option Tb:=c.ob.Z7.find? fun t=>t.Z8 == s && t.name == n
def VM (c:Ca):Bool:=(c.ob.Z4.all fun s=>c.ro.ZW.contains s.ZL) && c.ob.Z7.all fun t=>c.ro.ZW.contains t.ZL
def Vl (c:Ca)(g:Gr):Bool:=(WA c g.Z8 g.ZY).isSome && Vc g.right && g.ZN != g.to && c.ro.ZW.contains g.ZN && c.ro.ZW.contains g.to
def YP (c:Ca):Option Gr→List Gr→Bool
 | _,[]=>true
 | p,g ::l=>Vl c g && (match p with | some q=> !(YG g == YG q) && !decide (0<TD q g) | none=>true) && YP c (some g) l
def XT (c:Ca):Bool:=
 decide (c.Z3.length≤64) && YT c.ob && Yu c.ro && c.ro.ZW.contains Yd && VM c && YP c none c.Z3
def Tr (c:Ca)(t:Tb):List UInt8:=((c.ob.Z4.find? fun s=>s.name == t.Z8).map (·.ZL)).getD []
def XE (c:Ca)(is:List (List UInt8))(t:Tb):Bool:=is.any fun r=>r == Yd || r == t.ZL || r == Tr c t
def Ww (l:List Gr)(is:List (List UInt8))(t:Tb)(right:Int)(Zz:Bool):Bool:=
 l.any fun g=>g.Z8 == t.Z8 && g.ZY == t.name && g.right == right && (g.Zz || !Zz) && is.contains g.to
def Yo (c:Ca)(l:List Gr)(g:Gr):Bool:=
 !(l.any fun x=>YG x == YG g) && (match WA c g.Z8 g.ZY with
  | some t=>XE c (Yw c.ro g.ZN) t || Ww l (Yw c.ro g.ZN) t g.right true
  | none=>false)
def Yp (c:Ca):Nat→List Gr→List Gr
 | 0,l=>l
 | n+1,l=>match c.Z3.find? (Yo c l) with
  | some g=>Yp c n (l ++ [g])
  | none=>l
def WE (c:Ca):List Gr:=if XT c then Yp c c.Z3.length [] else []
def X6 (c:Ca):Bool:=XT c && (WE c).length == c.Z3.length
def Xp (c:Ca)(ZT s n:List UInt8):Bool:=
 match WA c s n with
 | some t=>X6 c && c.ro.ZW.contains ZT && XE c (Yw c.ro ZT) t
 | none=>false
def Va (c:Ca)(ZT s n:List UInt8)(right:Int):Bool:=
 match WA c s n with
 | some t=>Vc right && X6 c && c.ro.ZW.contains ZT && (XE c (Yw c.ro ZT) t || Ww c.Z3 (Yw c.ro ZT) t right false)
 | none=>false
end Go.Proofs.YtnhmoibjlakhjaaGreat
