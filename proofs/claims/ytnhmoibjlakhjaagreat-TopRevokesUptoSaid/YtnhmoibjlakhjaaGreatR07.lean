/- Lemmas of the proof. No condition but each theorem's own. -/
import Derived.Test.YtnhmoibjlakhjaaGreatR06
import Derived.Lib.Small
set_option linter.unusedVariables false
set_option linter.unusedSimpArgs false
namespace Go.Proofs.YtnhmoibjlakhjaaGreat
set_option maxRecDepth 100000
set_option maxHeartbeats 16000000
def Yd:List UInt8:= [114,111,111,116]
def XY (a b:Mb):Int:=QZ (Y4 a.ZT b.ZT) (Y4 a.of b.of)
def Ym (ms:List Mb)(ZT:List UInt8):List (List UInt8):=(ms.filter fun m=>m.ZT == ZT).map (·.of)
def SM:Nat→List Mb→List (List UInt8)→List UInt8→List (List UInt8)
 | 0,_,met,_=>met
 | n+1,ms,met,ZT=>if ZT∈met then met else(Ym ms ZT).foldl (SM n ms) (ZT ::met)
def Uq (ms:List Mb)(ZT:List UInt8):List (List UInt8):=SM (ms.length+2) ms [] ZT
def Yu (r:Ro):Bool:=
 decide (r.ZW.length≤16) && decide (r.Z2.length≤256) && Zo Y4 r.ZW && Zo XY r.Z2 && r.ZW.all Zr &&
  r.Z2.all fun m=>r.ZW.contains m.ZT && r.ZW.contains m.of && !(Uq r.Z2 m.of).contains m.ZT
def Yw (r:Ro)(ZT:List UInt8):List (List UInt8):=
 if Yu r && r.ZW.contains ZT then r.ZW.filter fun n=>(Uq r.Z2 ZT).contains n else []
def Nb (r:Ro)(ZT of:List UInt8):Bool:=(Yw r ZT).contains of
def Tl (a b:Gr):Int:=
 QZ (Y4 a.Z8 b.Z8) (QZ (Y4 a.ZY b.ZY) (QZ (Lib.compareInt a.right b.right) (QZ (Y4 a.ZN b.ZN) (Y4 a.to b.to))))
def YI (g:Gr):List UInt8×List UInt8×Int×List UInt8×List UInt8:=(g.Z8,g.ZY,g.right,g.ZN,g.to)
def Ve (n:Int):Bool:=n == 1 || n == 2
def WC (c:Ca)(s n:List UInt8):Option Tb:=c.ob.Z7.find? fun t=>t.Z8 == s && t.name == n
def VN (c:Ca):Bool:=(c.ob.Z4.all fun s=>c.ro.ZW.contains s.ZL) && c.ob.Z7.all fun t=>c.ro.ZW.contains t.ZL
def Vg (c:Ca)(g:Gr):Bool:=(WC c g.Z8 g.ZY).isSome && Ve g.right && g.ZN != g.to && c.ro.ZW.contains g.ZN && c.ro.ZW.contains g.to
def YP (c:Ca):Option Gr→List Gr→Bool
 | _,[]=>true
 | p,g ::l=>Vg c g && (match p with | some q=> !(YI g == YI q) && !decide (0<Tl q g) | none=>true) && YP c (some g) l
def XT (c:Ca):Bool:=
 decide (c.Z3.length≤64) && YT c.ob && Yu c.ro && c.ro.ZW.contains Yd && VN c && YP c none c.Z3
def Tx (c:Ca)(t:Tb):List UInt8:=((c.ob.Z4.find? fun s=>s.name == t.Z8).map (·.ZL)).getD []
def XE (c:Ca)(is:List (List UInt8))(t:Tb):Bool:=is.any fun r=>r == Yd || r == t.ZL || r == Tx c t
def Ww (l:List Gr)(is:List (List UInt8))(t:Tb)(right:Int)(Zz:Bool):Bool:=
 l.any fun g=>g.Z8 == t.Z8 && g.ZY == t.name && g.right == right && (g.Zz || !Zz) && is.contains g.to
def Yk (c:Ca)(l:List Gr)(g:Gr):Bool:=
 !(l.any fun x=>YI x == YI g) && (match WC c g.Z8 g.ZY with
  | some t=>XE c (Yw c.ro g.ZN) t || Ww l (Yw c.ro g.ZN) t g.right true
  | none=>false)
def Yp (c:Ca):Nat→List Gr→List Gr
 | 0,l=>l
 | n+1,l=>match c.Z3.find? (Yk c l) with
  | some g=>Yp c n (l ++ [g])
  | none=>l
def WD (c:Ca):List Gr:=if XT c then Yp c c.Z3.length [] else []
def X7 (c:Ca):Bool:=XT c && (WD c).length == c.Z3.length
def Xo (c:Ca)(ZT s n:List UInt8):Bool:=
 match WC c s n with
 | some t=>X7 c && c.ro.ZW.contains ZT && XE c (Yw c.ro ZT) t
 | none=>false
def Vd (c:Ca)(ZT s n:List UInt8)(right:Int):Bool:=
 match WC c s n with
 | some t=>Ve right && X7 c && c.ro.ZW.contains ZT && (XE c (Yw c.ro ZT) t || Ww c.Z3 (Yw c.ro ZT) t right false)
 | none=>false
end Go.Proofs.YtnhmoibjlakhjaaGreat
