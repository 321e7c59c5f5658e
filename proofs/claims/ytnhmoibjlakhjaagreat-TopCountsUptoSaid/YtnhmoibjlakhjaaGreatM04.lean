/- Lemmas of the proof. No condition but each theorem's own. -/
import Derived.Test.YtnhmoibjlakhjaaGreatM03
import Derived.Test.YtnhmoibjlakhjaaGreatM01
set_option linter.unusedVariables false
set_option linter.unusedSimpArgs false
namespace Go.Proofs.YtnhmoibjlakhjaaGreat
set_option maxRecDepth 100000
set_option maxHeartbeats 16000000
open Go.RowKit
structure Sc where
 name:List UInt8
 ZN:List UInt8
 deriving DecidableEq,Inhabited
structure Mb where
 ZR:List UInt8
 of:List UInt8
 deriving DecidableEq,Inhabited
structure Gr where
 Z8:List UInt8
 ZX:List UInt8
 right:Int
 ZM:List UInt8
 to:List UInt8
 Zy:Bool
 deriving DecidableEq,Inhabited
structure Cl where
 name:List UInt8
 ZQ:Int
 null:Bool
 deriving DecidableEq,Inhabited
structure Ru where
 name:List UInt8
 ZQ:Int
 ZY:List (List UInt8)
 low:Int
 ZF:Int
 Z8:List UInt8
 ZX:List UInt8
 key:List UInt8
 deriving DecidableEq,Inhabited
structure Tb where
 Z8:List UInt8
 name:List UInt8
 ZN:List UInt8
 ZY:List Cl
 ZT:List Ru
 deriving DecidableEq,Inhabited
structure Ob where
 Z4:List Sc
 Z7:List Tb
 deriving DecidableEq,Inhabited
structure Ro where
 ZW:List (List UInt8)
 Z2:List Mb
 deriving DecidableEq,Inhabited
structure Ca where
 ZO:Int
 ZU:Int
 ob:Ob
 ro:Ro
 Z3:List Gr
 deriving DecidableEq,Inhabited
structure Cm where
 ZQ:Int
 ZK:List UInt8
 Z8:List UInt8
 ZX:List UInt8
 name:List UInt8
 ZR:List UInt8
 ZY:List Cl
 ZZ:Ru
 right:Int
 Zy:Bool
 deriving DecidableEq,Inhabited
def YY (l:List (List UInt8)):List (List Da):=l.map fun b=> [.Z9 b]
def Sc.da (s:Sc):List Da:= [.Z9 s.name,.Z9 s.ZN]
def Mb.da (m:Mb):List Da:= [.Z9 m.ZR,.Z9 m.of]
def Gr.da (g:Gr):List Da:= [.Z9 g.Z8,.Z9 g.ZX,.int g.right,.Z9 g.ZM,.Z9 g.to,.YV g.Zy]
def Cl.da (c:Cl):List Da:= [.Z9 c.name,.int c.ZQ,.YV c.null]
def Ru.da (r:Ru):List Da:= [.Z9 r.name,.int r.ZQ,.rows (YY r.ZY),.int r.low,.int r.ZF,.Z9 r.Z8,.Z9 r.ZX,.Z9 r.key]
def Tb.da (t:Tb):List Da:= [.Z9 t.Z8,.Z9 t.name,.Z9 t.ZN,.rows (t.ZY.map Cl.da),.rows (t.ZT.map Ru.da)]
def Ob.da (o:Ob):List Da:= [.rows (o.Z4.map Sc.da),.rows (o.Z7.map Tb.da)]
def Ro.da (r:Ro):List Da:= [.rows (YY r.ZW),.rows (r.Z2.map Mb.da)]
def Ca.da (c:Ca):List Da:= [.int c.ZO,.int c.ZU,.rows (c.ob.Z4.map Sc.da),.rows (c.ob.Z7.map Tb.da),.rows (YY c.ro.ZW),.rows (c.ro.Z2.map Mb.da),.rows (c.Z3.map Gr.da)]
def Cm.da (x:Cm):List Da:= [.int x.ZQ,.Z9 x.ZK,.Z9 x.Z8,.Z9 x.ZX,.Z9 x.name,.Z9 x.ZR,.rows (x.ZY.map Cl.da),.Z9 x.ZZ.name,.int x.ZZ.ZQ,.rows (YY x.ZZ.ZY),.int x.ZZ.low,.int x.ZZ.ZF,.Z9 x.ZZ.Z8,.Z9 x.ZZ.ZX,.Z9 x.ZZ.key,.int x.right,.YV x.Zy]
def Sc.cs (s:Sc):List Value:= [.string (Z9 s.name),.string (Z9 s.ZN)]
def Mb.cs (m:Mb):List Value:= [.string (Z9 m.ZR),.string (Z9 m.of)]
def Gr.cs (g:Gr):List Value:= [.string (Z9 g.Z8),.string (Z9 g.ZX),.int .i64 g.right,.string (Z9 g.ZM),.string (Z9 g.to),.bool g.Zy]
def Cl.cs (c:Cl):List Value:= [.string (Z9 c.name),.int .i64 c.ZQ,.bool c.null]
def Ru.cs (r:Ru)(A:Option Addr)(n:Nat):List Value:= [.string (Z9 r.name),.int .i64 r.ZQ,.slice A r.ZY.length n,.int .i64 r.low,.int .i64 r.ZF,.string (Z9 r.Z8),.string (Z9 r.ZX),.string (Z9 r.key)]
def Tb.cs (t:Tb)(A:Option Addr)(n:Nat)(B:Option Addr)(m:Nat):List Value:= [.string (Z9 t.Z8),.string (Z9 t.name),.string (Z9 t.ZN),.slice A t.ZY.length n,.slice B t.ZT.length m]
section
variable {w w' : World} {S S' : Nat → Prop}
theorem Wm {α:Type}{f:α→List Da} : ∀ {ds:List (List Da)},(∀ (j:Nat)(d:List Da),ds[j]?=some d→ ∃ x,d=f x)→ ∃ l:List α,ds=l.map f
 | [],_=>⟨[],rfl⟩
 | d ::ds,h=>by
  obtain⟨x,rfl⟩:=h 0 d rfl;obtain⟨l,rfl⟩:=Wm (ds:=ds) fun j d hd=>h (j+1) d hd
  exact⟨x ::l,rfl⟩
theorem ZV.UP {l:List Sh}{ds:List (List Da)}{A:Option Addr}(h:ZV w S l ds A){j:Nat}{d:List Da}(hd:ds[j]?=some d): ∃ vs,ZG w S l d vs:=by
 have hj:j<ds.length:=(List.getElem?_eq_some_iff.1 hd).1;obtain⟨ad,vs,_,h1,_⟩:=h.at_ hj;rw [(List.getElem?_eq_some_iff.1 hd).2] at h1;exact⟨vs,h1⟩
theorem Sc.YM {ds:List Da}{vs:List Value}(h:ZG w S Zm ds vs): ∃ s:Sc,ds=s.da∧vs=s.cs:=by
 obtain⟨d0,ds0,v0,vs0,rfl,rfl,h0,r0⟩:=h.cons;obtain⟨d1,ds1,v1,vs1,rfl,rfl,h1,r1⟩:=r0.cons;obtain⟨rfl,rfl⟩:=r1.nil;obtain⟨a,rfl,rfl⟩:=h0.T0;obtain⟨b,rfl,rfl⟩:=h1.T0;exact⟨⟨a,b⟩,rfl,rfl⟩
theorem Sc.VO (s:Sc):ZG w S Zm s.da s.cs:=ZG.mk (YJ.YW _) (ZG.one (YJ.YW _))
theorem Mb.YM {ds:List Da}{vs:List Value}(h:ZG w S Y9 ds vs): ∃ s:Mb,ds=s.da∧vs=s.cs:=by
 obtain⟨d0,ds0,v0,vs0,rfl,rfl,h0,r0⟩:=h.cons;obtain⟨d1,ds1,v1,vs1,rfl,rfl,h1,r1⟩:=r0.cons;obtain⟨rfl,rfl⟩:=r1.nil;obtain⟨a,rfl,rfl⟩:=h0.T0;obtain⟨b,rfl,rfl⟩:=h1.T0;exact⟨⟨a,b⟩,rfl,rfl⟩
theorem Mb.VO (s:Mb):ZG w S Y9 s.da s.cs:=ZG.mk (YJ.YW _) (ZG.one (YJ.YW _))
theorem Cl.YM {ds:List Da}{vs:List Value}(h:ZG w S Zo ds vs): ∃ s:Cl,ds=s.da∧vs=s.cs:=by
 obtain⟨d0,ds0,v0,vs0,rfl,rfl,h0,r0⟩:=h.cons;obtain⟨d1,ds1,v1,vs1,rfl,rfl,h1,r1⟩:=r0.cons;obtain⟨d2,ds2,v2,vs2,rfl,rfl,h2,r2⟩:=r1.cons;obtain⟨rfl,rfl⟩:=r2.nil;obtain⟨a,rfl,rfl⟩:=h0.T0;obtain⟨b,rfl,rfl⟩:=h1.num;obtain⟨c,rfl,rfl⟩:=h2.YV;exact⟨⟨a,b,c⟩,rfl,rfl⟩
theorem Cl.VO (s:Cl):ZG w S Zo s.da s.cs:=ZG.mk (YJ.YW _) (ZG.mk (YJ.Xp _) (ZG.one (YJ.Ps _)))
theorem Gr.YM {ds:List Da}{vs:List Value}(h:ZG w S YA ds vs): ∃ s:Gr,ds=s.da∧vs=s.cs:=by
 obtain⟨d0,ds0,v0,vs0,rfl,rfl,h0,r0⟩:=h.cons;obtain⟨d1,ds1,v1,vs1,rfl,rfl,h1,r1⟩:=r0.cons;obtain⟨d2,ds2,v2,vs2,rfl,rfl,h2,r2⟩:=r1.cons;obtain⟨d3,ds3,v3,vs3,rfl,rfl,h3,r3⟩:=r2.cons;obtain⟨d4,ds4,v4,vs4,rfl,rfl,h4,r4⟩:=r3.cons;obtain⟨d5,ds5,v5,vs5,rfl,rfl,h5,r5⟩:=r4.cons;obtain⟨rfl,rfl⟩:=r5.nil;obtain⟨a,rfl,rfl⟩:=h0.T0;obtain⟨b,rfl,rfl⟩:=h1.T0;obtain⟨c,rfl,rfl⟩:=h2.num;obtain⟨d,rfl,rfl⟩:=h3.T0;obtain⟨e,rfl,rfl⟩:=h4.T0;obtain⟨f,rfl,rfl⟩:=h5.YV;exact⟨⟨a,b,c,d,e,f⟩,rfl,rfl⟩
theorem Gr.VO (s:Gr):ZG w S YA s.da s.cs:=
 ZG.mk (YJ.YW _) (ZG.mk (YJ.YW _) (ZG.mk (YJ.Xp _) (ZG.mk (YJ.YW _) (ZG.mk (YJ.YW _) (ZG.one (YJ.Ps _))))))
theorem My {ds:List (List Da)}{A:Option Addr}(h:ZV w S [.Z9] ds A): ∃ l,ds=YY l:=by
 refine Wm (f:=fun b=> [Da.Z9 b]) fun j d hd=> ?_
 obtain⟨vs,h1⟩:=h.UP hd;obtain⟨d0,ds0,v0,vs0,rfl,rfl,h0,r0⟩:=h1.cons;obtain⟨rfl,rfl⟩:=r0.nil;obtain⟨b,rfl,rfl⟩:=h0.T0;exact⟨b,rfl⟩
theorem Sc.rows {ds:List (List Da)}{A:Option Addr}(h:ZV w S Zm ds A): ∃ l:List Sc,ds=l.map Sc.da:=
 Wm fun j d hd=>by
  obtain⟨vs,h1⟩:=h.UP hd;obtain⟨s,hs,_⟩:=Sc.YM h1;exact⟨s,hs⟩
theorem Mb.rows {ds:List (List Da)}{A:Option Addr}(h:ZV w S Y9 ds A): ∃ l:List Mb,ds=l.map Mb.da:=
 Wm fun j d hd=>by
  obtain⟨vs,h1⟩:=h.UP hd;obtain⟨s,hs,_⟩:=Mb.YM h1;exact⟨s,hs⟩
theorem Cl.rows {ds:List (List Da)}{A:Option Addr}(h:ZV w S Zo ds A): ∃ l:List Cl,ds=l.map Cl.da:=
 Wm fun j d hd=>by
  obtain⟨vs,h1⟩:=h.UP hd;obtain⟨s,hs,_⟩:=Cl.YM h1;exact⟨s,hs⟩
theorem Gr.rows {ds:List (List Da)}{A:Option Addr}(h:ZV w S YA ds A): ∃ l:List Gr,ds=l.map Gr.da:=
 Wm fun j d hd=>by
  obtain⟨vs,h1⟩:=h.UP hd;obtain⟨s,hs,_⟩:=Gr.YM h1;exact⟨s,hs⟩
theorem Ru.YM {ds:List Da}{vs:List Value}(h:ZG w S YP ds vs): ∃ (r:Ru)(A:Option Addr)(n:Nat),ds=r.da∧vs=r.cs A n∧ZV w S [.Z9] (YY r.ZY) A∧
  (-9223372036854775808≤r.low∧r.low≤9223372036854775807)∧(-9223372036854775808≤r.ZF∧r.ZF≤9223372036854775807):=by
 obtain⟨d0,ds0,v0,vs0,rfl,rfl,h0,r0⟩:=h.cons;obtain⟨d1,ds1,v1,vs1,rfl,rfl,h1,r1⟩:=r0.cons;obtain⟨d2,ds2,v2,vs2,rfl,rfl,h2,r2⟩:=r1.cons;obtain⟨d3,ds3,v3,vs3,rfl,rfl,h3,r3⟩:=r2.cons;obtain⟨d4,ds4,v4,vs4,rfl,rfl,h4,r4⟩:=r3.cons;obtain⟨d5,ds5,v5,vs5,rfl,rfl,h5,r5⟩:=r4.cons;obtain⟨d6,ds6,v6,vs6,rfl,rfl,h6,r6⟩:=r5.cons;obtain⟨d7,ds7,v7,vs7,rfl,rfl,h7,r7⟩:=r6.cons;obtain⟨rfl,rfl⟩:=r7.nil;obtain⟨a,rfl,rfl⟩:=h0.T0;obtain⟨b,rfl,rfl⟩:=h1.num;obtain⟨cs,A,n,rfl,rfl,hc⟩:=h2.rows;obtain⟨c,rfl⟩:=My hc;obtain⟨d,rfl,rfl,bd⟩:=h3.YF;obtain⟨e,rfl,rfl,be⟩:=h4.YF;obtain⟨f,rfl,rfl⟩:=h5.T0;obtain⟨g,rfl,rfl⟩:=h6.T0;obtain⟨i,rfl,rfl⟩:=h7.T0;exact⟨⟨a,b,c,d,e,f,g,i⟩,A,n,rfl,by simp [Ru.cs,YY],hc,bd,be⟩
theorem Ru.rows {ds:List (List Da)}{A:Option Addr}(h:ZV w S YP ds A): ∃ l:List Ru,ds=l.map Ru.da:=
 Wm fun j d hd=>by
  obtain⟨vs,h1⟩:=h.UP hd;obtain⟨r,A,n,hr,_⟩:=Ru.YM h1;exact⟨r,hr⟩
theorem Tb.YM {ds:List Da}{vs:List Value}(h:ZG w S Zv ds vs): ∃ (t:Tb)(A:Option Addr)(n:Nat)(B:Option Addr)(m:Nat),ds=t.da∧vs=t.cs A n B m∧
  ZV w S Zo (t.ZY.map Cl.da) A∧ZV w S YP (t.ZT.map Ru.da) B:=by
 obtain⟨d0,ds0,v0,vs0,rfl,rfl,h0,r0⟩:=h.cons;obtain⟨d1,ds1,v1,vs1,rfl,rfl,h1,r1⟩:=r0.cons;obtain⟨d2,ds2,v2,vs2,rfl,rfl,h2,r2⟩:=r1.cons;obtain⟨d3,ds3,v3,vs3,rfl,rfl,h3,r3⟩:=r2.cons;obtain⟨d4,ds4,v4,vs4,rfl,rfl,h4,r4⟩:=r3.cons;obtain⟨rfl,rfl⟩:=r4.nil;obtain⟨a,rfl,rfl⟩:=h0.T0;obtain⟨b,rfl,rfl⟩:=h1.T0;obtain⟨c,rfl,rfl⟩:=h2.T0;obtain⟨ds,A,n,rfl,rfl,hd⟩:=h3.rows;obtain⟨d,rfl⟩:=Cl.rows hd;obtain⟨es,B,m,rfl,rfl,he⟩:=h4.rows;obtain⟨e,rfl⟩:=Ru.rows he;exact⟨⟨a,b,c,d,e⟩,A,n,B,m,rfl,by simp [Tb.cs],hd,he⟩
theorem Tb.rows {ds:List (List Da)}{A:Option Addr}(h:ZV w S Zv ds A): ∃ l:List Tb,ds=l.map Tb.da:=
 Wm fun j d hd=>by
  obtain⟨vs,h1⟩:=h.UP hd;obtain⟨t,A,n,B,m,ht,_⟩:=Tb.YM h1;exact⟨t,ht⟩
end
end Go.Proofs.YtnhmoibjlakhjaaGreat
