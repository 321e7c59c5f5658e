/- Lemmas of the proof. No condition but each theorem's own. -/
import Derived.Test.YtnhmoibjlakhjaaGreatR03
import Derived.Test.YtnhmoibjlakhjaaGreatR01
set_option linter.unusedVariables false
set_option linter.unusedSimpArgs false
namespace Go.Proofs.YtnhmoibjlakhjaaGreat
set_option maxRecDepth 100000
set_option maxHeartbeats 16000000
open Go.RowKit
structure Sc where
 name:List UInt8
 ZL:List UInt8
 deriving DecidableEq,Inhabited
structure Mb where
 ZT:List UInt8
 of:List UInt8
 deriving DecidableEq,Inhabited
structure Gr where
 Z8:List UInt8
 ZY:List UInt8
 right:Int
 ZN:List UInt8
 to:List UInt8
 Zz:Bool
 deriving DecidableEq,Inhabited
structure Cl where
 name:List UInt8
 ZQ:Int
 null:Bool
 deriving DecidableEq,Inhabited
structure Ru where
 name:List UInt8
 ZQ:Int
 ZX:List (List UInt8)
 low:Int
 ZF:Int
 Z8:List UInt8
 ZY:List UInt8
 key:List UInt8
 deriving DecidableEq,Inhabited
structure Tb where
 Z8:List UInt8
 name:List UInt8
 ZL:List UInt8
 ZX:List Cl
 ZS:List Ru
 deriving DecidableEq,Inhabited
structure Ob where
 Z4:List Sc
 Z7:List Tb
 deriving DecidableEq,Inhabited
structure Ro where
 ZW:List (List UInt8)
 Z2:List Mb
 deriving DecidableEq,Inhabited
structure Ca where
 ZO:Int
 ZU:Int
 ob:Ob
 ro:Ro
 Z3:List Gr
 deriving DecidableEq,Inhabited
structure Cm where
 ZQ:Int
 ZM:List UInt8
 Z8:List UInt8
 ZY:List UInt8
 name:List UInt8
 ZT:List UInt8
 ZX:List Cl
 ZZ:Ru
 right:Int
 Zz:Bool
 deriving DecidableEq,Inhabited
def YU (l:List (List UInt8)):List (List Da):=l.map fun b=> [.Z9 b]
def Sc.da (s:Sc):List Da:= [.Z9 s.name,.Z9 s.ZL]
def Mb.da (m:Mb):List Da:= [.Z9 m.ZT,.Z9 m.of]
def Gr.da (g:Gr):List Da:= [.Z9 g.Z8,.Z9 g.ZY,.int g.right,.Z9 g.ZN,.Z9 g.to,.YY g.Zz]
def Cl.da (c:Cl):List Da:= [.Z9 c.name,.int c.ZQ,.YY c.null]
def Ru.da (r:Ru):List Da:= [.Z9 r.name,.int r.ZQ,.rows (YU r.ZX),.int r.low,.int r.ZF,.Z9 r.Z8,.Z9 r.ZY,.Z9 r.key]
def Tb.da (t:Tb):List Da:= [.Z9 t.Z8,.Z9 t.name,.Z9 t.ZL,.rows (t.ZX.map Cl.da),.rows (t.ZS.map Ru.da)]
def Ob.da (o:Ob):List Da:= [.rows (o.Z4.map Sc.da),.rows (o.Z7.map Tb.da)]
def Ro.da (r:Ro):List Da:= [.rows (YU r.ZW),.rows (r.Z2.map Mb.da)]
def Ca.da (c:Ca):List Da:= [.int c.ZO,.int c.ZU,.rows (c.ob.Z4.map Sc.da),.rows (c.ob.Z7.map Tb.da),.rows (YU c.ro.ZW),.rows (c.ro.Z2.map Mb.da),.rows (c.Z3.map Gr.da)]
def Cm.da (x:Cm):List Da:= [.int x.ZQ,.Z9 x.ZM,.Z9 x.Z8,.Z9 x.ZY,.Z9 x.name,.Z9 x.ZT,.rows (x.ZX.map Cl.da),.Z9 x.ZZ.name,.int x.ZZ.ZQ,.rows (YU x.ZZ.ZX),.int x.ZZ.low,.int x.ZZ.ZF,.Z9 x.ZZ.Z8,.Z9 x.ZZ.ZY,.Z9 x.ZZ.key,.int x.right,.YY x.Zz]
def Sc.cs (s:Sc):List Value:= [.string (Z9 s.name),.string (Z9 s.ZL)]
def Mb.cs (m:Mb):List Value:= [.string (Z9 m.ZT),.string (Z9 m.of)]
def Gr.cs (g:Gr):List Value:= [.string (Z9 g.Z8),.string (Z9 g.ZY),.int .i64 g.right,.string (Z9 g.ZN),.string (Z9 g.to),.bool g.Zz]
def Cl.cs (c:Cl):List Value:= [.string (Z9 c.name),.int .i64 c.ZQ,.bool c.null]
def Ru.cs (r:Ru)(A:Option Addr)(n:Nat):List Value:= [.string (Z9 r.name),.int .i64 r.ZQ,.slice A r.ZX.length n,.int .i64 r.low,.int .i64 r.ZF,.string (Z9 r.Z8),.string (Z9 r.ZY),.string (Z9 r.key)]
def Tb.cs (t:Tb)(A:Option Addr)(n:Nat)(B:Option Addr)(m:Nat):List Value:= [.string (Z9 t.Z8),.string (Z9 t.name),.string (Z9 t.ZL),.slice A t.ZX.length n,.slice B t.ZS.length m]
section
variable {w w' : World} {S S' : Nat → Prop}
theorem Wk {α:Type}{f:α→List Da} : ∀ {ds:List (List Da)},(∀ (j:Nat)(d:List Da),ds[j]?=some d→ ∃ x,d=f x)→ ∃ l:List α,ds=l.map f
 | [],_=>⟨[],rfl⟩
 | d ::ds,h=>by
  obtain⟨x,rfl⟩:=h 0 d rfl;obtain⟨l,rfl⟩:=Wk (ds:=ds) fun j d hd=>h (j+1) d hd
  exact⟨x ::l,rfl⟩
theorem ZV.UT {l:List Sh}{ds:List (List Da)}{A:Option Addr}(h:ZV w S l ds A){j:Nat}{d:List Da}(hd:ds[j]?=some d): ∃ vs,ZH w S l d vs:=by
 have hj:j<ds.length:=(List.getElem?_eq_some_iff.1 hd).1;obtain⟨ad,vs,_,h1,_⟩:=h.at_ hj;rw [(List.getElem?_eq_some_iff.1 hd).2] at h1;exact⟨vs,h1⟩
theorem Sc.YN {ds:List Da}{vs:List Value}(h:ZH w S Zh ds vs): ∃ s:Sc,ds=s.da∧vs=s.cs:=by
 obtain⟨d0,ds0,v0,vs0,rfl,rfl,h0,r0⟩:=h.cons;obtain⟨d1,ds1,v1,vs1,rfl,rfl,h1,r1⟩:=r0.cons;obtain⟨rfl,rfl⟩:=r1.nil;obtain⟨a,rfl,rfl⟩:=h0.T0;obtain⟨b,rfl,rfl⟩:=h1.T0;exact⟨⟨a,b⟩,rfl,rfl⟩
theorem Sc.VH (s:Sc):ZH w S Zh s.da s.cs:=ZH.mk (YK.YZ _) (ZH.one (YK.YZ _))
theorem Mb.YN {ds:List Da}{vs:List Value}(h:ZH w S Y5 ds vs): ∃ s:Mb,ds=s.da∧vs=s.cs:=by
 obtain⟨d0,ds0,v0,vs0,rfl,rfl,h0,r0⟩:=h.cons;obtain⟨d1,ds1,v1,vs1,rfl,rfl,h1,r1⟩:=r0.cons;obtain⟨rfl,rfl⟩:=r1.nil;obtain⟨a,rfl,rfl⟩:=h0.T0;obtain⟨b,rfl,rfl⟩:=h1.T0;exact⟨⟨a,b⟩,rfl,rfl⟩
theorem Mb.VH (s:Mb):ZH w S Y5 s.da s.cs:=ZH.mk (YK.YZ _) (ZH.one (YK.YZ _))
theorem Cl.YN {ds:List Da}{vs:List Value}(h:ZH w S Zl ds vs): ∃ s:Cl,ds=s.da∧vs=s.cs:=by
 obtain⟨d0,ds0,v0,vs0,rfl,rfl,h0,r0⟩:=h.cons;obtain⟨d1,ds1,v1,vs1,rfl,rfl,h1,r1⟩:=r0.cons;obtain⟨d2,ds2,v2,vs2,rfl,rfl,h2,r2⟩:=r1.cons;obtain⟨rfl,rfl⟩:=r2.nil;obtain⟨a,rfl,rfl⟩:=h0.T0;obtain⟨b,rfl,rfl⟩:=h1.num;obtain⟨c,rfl,rfl⟩:=h2.YY;exact⟨⟨a,b,c⟩,rfl,rfl⟩
theorem Cl.VH (s:Cl):ZH w S Zl s.da s.cs:=ZH.mk (YK.YZ _) (ZH.mk (YK.Xq _) (ZH.one (YK.Pz _)))
theorem Gr.YN {ds:List Da}{vs:List Value}(h:ZH w S Ys ds vs): ∃ s:Gr,ds=s.da∧vs=s.cs:=by
 obtain⟨d0,ds0,v0,vs0,rfl,rfl,h0,r0⟩:=h.cons;obtain⟨d1,ds1,v1,vs1,rfl,rfl,h1,r1⟩:=r0.cons;obtain⟨d2,ds2,v2,vs2,rfl,rfl,h2,r2⟩:=r1.cons;obtain⟨d3,ds3,v3,vs3,rfl,rfl,h3,r3⟩:=r2.cons;obtain⟨d4,ds4,v4,vs4,rfl,rfl,h4,r4⟩:=r3.cons;obtain⟨d5,ds5,v5,vs5,rfl,rfl,h5,r5⟩:=r4.cons;obtain⟨rfl,rfl⟩:=r5.nil;obtain⟨a,rfl,rfl⟩:=h0.T0;obtain⟨b,rfl,rfl⟩:=h1.T0;obtain⟨c,rfl,rfl⟩:=h2.num;obtain⟨d,rfl,rfl⟩:=h3.T0;obtain⟨e,rfl,rfl⟩:=h4.T0;obtain⟨f,rfl,rfl⟩:=h5.YY;exact⟨⟨a,b,c,d,e,f⟩,rfl,rfl⟩
theorem Gr.VH (s:Gr):ZH w S Ys s.da s.cs:=
 ZH.mk (YK.YZ _) (ZH.mk (YK.YZ _) (ZH.mk (YK.Xq _) (ZH.mk (YK.YZ _) (ZH.mk (YK.YZ _) (ZH.one (YK.Pz _))))))
theorem MH {ds:List (List Da)}{A:Option Addr}(h:ZV w S [.Z9] ds A): ∃ l,ds=YU l:=by
 refine Wk (f:=fun b=> [Da.Z9 b]) fun j d hd=> ?_
 obtain⟨vs,h1⟩:=h.UT hd;obtain⟨d0,ds0,v0,vs0,rfl,rfl,h0,r0⟩:=h1.cons;obtain⟨rfl,rfl⟩:=r0.nil;obtain⟨b,rfl,rfl⟩:=h0.T0;exact⟨b,rfl⟩
theorem Sc.rows {ds:List (List Da)}{A:Option Addr}(h:ZV w S Zh ds A): ∃ l:List Sc,ds=l.map Sc.da:=
 Wk fun j d hd=>by
  obtain⟨vs,h1⟩:=h.UT hd;obtain⟨s,hs,_⟩:=Sc.YN h1;exact⟨s,hs⟩
theorem Mb.rows {ds:List (List Da)}{A:Option Addr}(h:ZV w S Y5 ds A): ∃ l:List Mb,ds=l.map Mb.da:=
 Wk fun j d hd=>by
  obtain⟨vs,h1⟩:=h.UT hd;obtain⟨s,hs,_⟩:=Mb.YN h1;exact⟨s,hs⟩
theorem Cl.rows {ds:List (List Da)}{A:Option Addr}(h:ZV w S Zl ds A): ∃ l:List Cl,ds=l.map Cl.da:=
 Wk fun j d hd=>by
  obtain⟨vs,h1⟩:=h.UT hd;obtain⟨s,hs,_⟩:=Cl.YN h1;exact⟨s,hs⟩
theorem Gr.rows {ds:List (List Da)}{A:Option Addr}(h:ZV w S Ys ds A): ∃ l:List Gr,ds=l.map Gr.da:=
 Wk fun j d hd=>by
  obtain⟨vs,h1⟩:=h.UT hd;obtain⟨s,hs,_⟩:=Gr.YN h1;exact⟨s,hs⟩
theorem Ru.YN {ds:List Da}{vs:List Value}(h:ZH w S Yx ds vs): ∃ (r:Ru)(A:Option Addr)(n:Nat),ds=r.da∧vs=r.cs A n∧ZV w S [.Z9] (YU r.ZX) A∧
  (-9223372036854775808≤r.low∧r.low≤9223372036854775807)∧(-9223372036854775808≤r.ZF∧r.ZF≤9223372036854775807):=by
 obtain⟨d0,ds0,v0,vs0,rfl,rfl,h0,r0⟩:=h.cons;obtain⟨d1,ds1,v1,vs1,rfl,rfl,h1,r1⟩:=r0.cons;obtain⟨d2,ds2,v2,vs2,rfl,rfl,h2,r2⟩:=r1.cons;obtain⟨d3,ds3,v3,vs3,rfl,rfl,h3,r3⟩:=r2.cons;obtain⟨d4,ds4,v4,vs4,rfl,rfl,h4,r4⟩:=r3.cons;obtain⟨d5,ds5,v5,vs5,rfl,rfl,h5,r5⟩:=r4.cons;obtain⟨d6,ds6,v6,vs6,rfl,rfl,h6,r6⟩:=r5.cons;obtain⟨d7,ds7,v7,vs7,rfl,rfl,h7,r7⟩:=r6.cons;obtain⟨rfl,rfl⟩:=r7.nil;obtain⟨a,rfl,rfl⟩:=h0.T0;obtain⟨b,rfl,rfl⟩:=h1.num;obtain⟨cs,A,n,rfl,rfl,hc⟩:=h2.rows;obtain⟨c,rfl⟩:=MH hc;obtain⟨d,rfl,rfl,bd⟩:=h3.YF;obtain⟨e,rfl,rfl,be⟩:=h4.YF;obtain⟨f,rfl,rfl⟩:=h5.T0;obtain⟨g,rfl,rfl⟩:=h6.T0;obtain⟨i,rfl,rfl⟩:=h7.T0;exact⟨⟨a,b,c,d,e,f,g,i⟩,A,n,rfl,by simp [Ru.cs,YU],hc,bd,be⟩
theorem Ru.rows {ds:List (List Da)}{A:Option Addr}(h:ZV w S Yx ds A): ∃ l:List Ru,ds=l.map Ru.da:=
 Wk fun j d hd=>by
  obtain⟨vs,h1⟩:=h.UT hd;obtain⟨r,A,n,hr,_⟩:=Ru.YN h1;exact⟨r,hr⟩
theorem Tb.YN {ds:List Da}{vs:List Value}(h:ZH w S Zt ds vs): ∃ (t:Tb)(A:Option Addr)(n:Nat)(B:Option Addr)(m:Nat),ds=t.da∧vs=t.cs A n B m∧
  ZV w S Zl (t.ZX.map Cl.da) A∧ZV w S Yx (t.ZS.map Ru.da) B:=by
 obtain⟨d0,ds0,v0,vs0,rfl,rfl,h0,r0⟩:=h.cons;obtain⟨d1,ds1,v1,vs1,rfl,rfl,h1,r1⟩:=r0.cons;obtain⟨d2,ds2,v2,vs2,rfl,rfl,h2,r2⟩:=r1.cons;obtain⟨d3,ds3,v3,vs3,rfl,rfl,h3,r3⟩:=r2.cons;obtain⟨d4,ds4,v4,vs4,rfl,rfl,h4,r4⟩:=r3.cons;obtain⟨rfl,rfl⟩:=r4.nil;obtain⟨a,rfl,rfl⟩:=h0.T0;obtain⟨b,rfl,rfl⟩:=h1.T0;obtain⟨c,rfl,rfl⟩:=h2.T0;obtain⟨ds,A,n,rfl,rfl,hd⟩:=h3.rows;obtain⟨d,rfl⟩:=Cl.rows hd;obtain⟨es,B,m,rfl,rfl,he⟩:=h4.rows;obtain⟨e,rfl⟩:=Ru.rows he;exact⟨⟨a,b,c,d,e⟩,A,n,B,m,rfl,by simp [Tb.cs],hd,he⟩
theorem Tb.rows {ds:List (List Da)}{A:Option Addr}(h:ZV w S Zt ds A): ∃ l:List Tb,ds=l.map Tb.da:=
 Wk fun j d hd=>by
  obtain⟨vs,h1⟩:=h.UT hd;obtain⟨t,A,n,B,m,ht,_⟩:=Tb.YN h1;exact⟨t,ht⟩
end
end Go.Proofs.YtnhmoibjlakhjaaGreat
