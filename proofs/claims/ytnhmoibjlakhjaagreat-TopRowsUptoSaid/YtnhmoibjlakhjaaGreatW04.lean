/- Lemmas, each under its own conditions. -/
import Derived.Test.YtnhmoibjlakhjaaGreatW03
set_option linter.all false
namespace Go.Proofs.YtnhmoibjlakhjaaGreat
set_option maxRecDepth 100000
set_option maxHeartbeats 16000000
open Go.RowKit
structure Sc where
 name:List UInt8
 ZN:List UInt8
 deriving DecidableEq,Inhabited
structure Mb where
 ZQ:List UInt8
 of:List UInt8
 deriving DecidableEq,Inhabited
structure Gr where
 Z9:List UInt8
 ZZ:List UInt8
 right:Int
 ZM:List UInt8
 to:List UInt8
 Zq:Bool
 deriving DecidableEq,Inhabited
structure Cl where
 name:List UInt8
 ZV:Int
 null:Bool
 deriving DecidableEq,Inhabited
structure Ru where
 name:List UInt8
 ZV:Int
 Z3:List (List UInt8)
 low:Int
 ZB:Int
 Z9:List UInt8
 ZZ:List UInt8
 key:List UInt8
 deriving DecidableEq,Inhabited
structure Tb where
 Z9:List UInt8
 name:List UInt8
 ZN:List UInt8
 Z3:List Cl
 ZW:List Ru
 deriving DecidableEq,Inhabited
structure Ob where
 Z7:List Sc
 Z8:List Tb
 deriving DecidableEq,Inhabited
structure Ro where
 ZU:List (List UInt8)
 ZY:List Mb
 deriving DecidableEq,Inhabited
structure Ca where
 ZO:Int
 ZR:Int
 ob:Ob
 ro:Ro
 Z4:List Gr
 deriving DecidableEq,Inhabited
structure Cm where
 ZV:Int
 ZH:List UInt8
 Z9:List UInt8
 ZZ:List UInt8
 name:List UInt8
 ZQ:List UInt8
 Z3:List Cl
 ZX:Ru
 right:Int
 Zq:Bool
 deriving DecidableEq,Inhabited
def YV (l:List (List UInt8)):List (List Da):=l.map fun b=> [.Z2 b]
def Sc.da (s:Sc):List Da:= [.Z2 s.name,.Z2 s.ZN]
def Mb.da (m:Mb):List Da:= [.Z2 m.ZQ,.Z2 m.of]
def Gr.da (g:Gr):List Da:= [.Z2 g.Z9,.Z2 g.ZZ,.int g.right,.Z2 g.ZM,.Z2 g.to,.YD g.Zq]
def Cl.da (c:Cl):List Da:= [.Z2 c.name,.int c.ZV,.YD c.null]
def Ru.da (r:Ru):List Da:= [.Z2 r.name,.int r.ZV,.rows (YV r.Z3),.int r.low,.int r.ZB,.Z2 r.Z9,.Z2 r.ZZ,.Z2 r.key]
def Tb.da (t:Tb):List Da:= [.Z2 t.Z9,.Z2 t.name,.Z2 t.ZN,.rows (t.Z3.map Cl.da),.rows (t.ZW.map Ru.da)]
def Ob.da (o:Ob):List Da:= [.rows (o.Z7.map Sc.da),.rows (o.Z8.map Tb.da)]
def Ro.da (r:Ro):List Da:= [.rows (YV r.ZU),.rows (r.ZY.map Mb.da)]
def Ca.da (c:Ca):List Da:= [.int c.ZO,.int c.ZR,.rows (c.ob.Z7.map Sc.da),.rows (c.ob.Z8.map Tb.da),.rows (YV c.ro.ZU),.rows (c.ro.ZY.map Mb.da),.rows (c.Z4.map Gr.da)]
def Cm.da (x:Cm):List Da:= [.int x.ZV,.Z2 x.ZH,.Z2 x.Z9,.Z2 x.ZZ,.Z2 x.name,.Z2 x.ZQ,.rows (x.Z3.map Cl.da),.Z2 x.ZX.name,.int x.ZX.ZV,.rows (YV x.ZX.Z3),.int x.ZX.low,.int x.ZX.ZB,.Z2 x.ZX.Z9,.Z2 x.ZX.ZZ,.Z2 x.ZX.key,.int x.right,.YD x.Zq]
def Sc.cs (s:Sc):List Value:= [.string (Z2 s.name),.string (Z2 s.ZN)]
def Mb.cs (m:Mb):List Value:= [.string (Z2 m.ZQ),.string (Z2 m.of)]
def Gr.cs (g:Gr):List Value:= [.string (Z2 g.Z9),.string (Z2 g.ZZ),.int .i64 g.right,.string (Z2 g.ZM),.string (Z2 g.to),.bool g.Zq]
def Cl.cs (c:Cl):List Value:= [.string (Z2 c.name),.int .i64 c.ZV,.bool c.null]
def Ru.cs (r:Ru)(A:Option Addr)(n:Nat):List Value:= [.string (Z2 r.name),.int .i64 r.ZV,.slice A r.Z3.length n,.int .i64 r.low,.int .i64 r.ZB,.string (Z2 r.Z9),.string (Z2 r.ZZ),.string (Z2 r.key)]
def Tb.cs (t:Tb)(A:Option Addr)(n:Nat)(B:Option Addr)(m:Nat):List Value:= [.string (Z2 t.Z9),.string (Z2 t.name),.string (Z2 t.ZN),.slice A t.Z3.length n,.slice B t.ZW.length m]
section
variable {w w' : World} {S S' : Nat -> Prop}
theorem Wm {α:Type}{f:α->List Da} : ∀ {ds:List (List Da)},(∀ (j:Nat)(d:List Da),ds[j]?=some d-> ∃ x,d=f x)-> ∃ l:List α,ds=l.map f
 | [],_=>⟨[],rfl⟩
 | d ::ds,h=>by
  obtain⟨x,rfl⟩:=h 0 d rfl;obtain⟨l,rfl⟩:=Wm (ds:=ds) fun j d hd=>h (j+1) d hd
  exact⟨x ::l,rfl⟩
theorem ZT.UJ {l:List Sh}{ds:List (List Da)}{A:Option Addr}(h:ZT w S l ds A){j:Nat}{d:List Da}(hd:ds[j]?=some d): ∃ m,ZE w S l d m:=by
 have u:j<ds.length:=(List.getElem?_eq_some_iff.1 hd).1;obtain⟨C,m,_,s,_⟩:=h.at_ u;rw [(List.getElem?_eq_some_iff.1 hd).2] at s;exact⟨m,s⟩
theorem Sc.YG {ds:List Da}{d:List Value}(h:ZE w S Ze ds d): ∃ s:Sc,ds=s.da/\d=s.cs:=by
 obtain⟨I,D,v0,F,rfl,rfl,j,u⟩:=h.cons;obtain⟨J,E,v1,G,rfl,rfl,m,C⟩:=u.cons;obtain⟨rfl,rfl⟩:=C.nil;obtain⟨a,rfl,rfl⟩:=j.T0;obtain⟨b,rfl,rfl⟩:=m.T0;exact⟨⟨a,b⟩,rfl,rfl⟩
theorem Sc.VW (s:Sc):ZE w S Ze s.da s.cs:=ZE.mk (Yv.YO _) (ZE.one (Yv.YO _))
theorem Mb.YG {ds:List Da}{d:List Value}(h:ZE w S YM ds d): ∃ s:Mb,ds=s.da/\d=s.cs:=by
 obtain⟨I,D,v0,F,rfl,rfl,j,u⟩:=h.cons;obtain⟨J,E,v1,G,rfl,rfl,m,C⟩:=u.cons;obtain⟨rfl,rfl⟩:=C.nil;obtain⟨a,rfl,rfl⟩:=j.T0;obtain⟨b,rfl,rfl⟩:=m.T0;exact⟨⟨a,b⟩,rfl,rfl⟩
theorem Mb.VW (s:Mb):ZE w S YM s.da s.cs:=ZE.mk (Yv.YO _) (ZE.one (Yv.YO _))
theorem Cl.YG {ds:List Da}{d:List Value}(h:ZE w S Zz ds d): ∃ s:Cl,ds=s.da/\d=s.cs:=by
 obtain⟨M,F,v0,J,rfl,rfl,j,C⟩:=h.cons;obtain⟨N,G,v1,K,rfl,rfl,m,D⟩:=C.cons;obtain⟨O,I,v2,L,rfl,rfl,u,E⟩:=D.cons;obtain⟨rfl,rfl⟩:=E.nil;obtain⟨a,rfl,rfl⟩:=j.T0;obtain⟨b,rfl,rfl⟩:=m.num;obtain⟨c,rfl,rfl⟩:=u.YD;exact⟨⟨a,b,c⟩,rfl,rfl⟩
theorem Cl.VW (s:Cl):ZE w S Zz s.da s.cs:=ZE.mk (Yv.YO _) (ZE.mk (Yv.Xo _) (ZE.one (Yv.M5 _)))
theorem Gr.YG {ds:List Da}{j:List Value}(h:ZE w S Ya ds j): ∃ s:Gr,ds=s.da/\j=s.cs:=by
 obtain⟨d0,N,v0,aa,rfl,rfl,m,G⟩:=h.cons;obtain⟨d1,O,v1,ab,rfl,rfl,u,I⟩:=G.cons;obtain⟨d2,T,v2,ac,rfl,rfl,C,J⟩:=I.cons;obtain⟨d3,U,v3,ad,rfl,rfl,D,K⟩:=J.cons;obtain⟨d4,V,v4,ae,rfl,rfl,E,L⟩:=K.cons;obtain⟨d5,Z,v5,af,rfl,rfl,F,M⟩:=L.cons;obtain⟨rfl,rfl⟩:=M.nil;obtain⟨a,rfl,rfl⟩:=m.T0;obtain⟨b,rfl,rfl⟩:=u.T0;obtain⟨c,rfl,rfl⟩:=C.num;obtain⟨d,rfl,rfl⟩:=D.T0;obtain⟨e,rfl,rfl⟩:=E.T0;obtain⟨f,rfl,rfl⟩:=F.YD;exact⟨⟨a,b,c,d,e,f⟩,rfl,rfl⟩
theorem Gr.VW (s:Gr):ZE w S Ya s.da s.cs:=
 ZE.mk (Yv.YO _) (ZE.mk (Yv.YO _) (ZE.mk (Yv.Xo _) (ZE.mk (Yv.YO _) (ZE.mk (Yv.YO _) (ZE.one (Yv.M5 _))))))
theorem Ji {ds:List (List Da)}{A:Option Addr}(h:ZT w S [.Z2] ds A): ∃ l,ds=YV l:=by
 refine Wm (f:=fun b=> [Da.Z2 b]) fun j d hd=> ?_
 obtain⟨F,s⟩:=h.UJ hd;obtain⟨E,C,v0,D,rfl,rfl,m,u⟩:=s.cons;obtain⟨rfl,rfl⟩:=u.nil;obtain⟨b,rfl,rfl⟩:=m.T0;exact⟨b,rfl⟩
theorem Sc.rows {ds:List (List Da)}{A:Option Addr}(h:ZT w S Ze ds A): ∃ l:List Sc,ds=l.map Sc.da:=
 Wm fun j d hd=>by
  obtain⟨C,m⟩:=h.UJ hd;obtain⟨s,u,_⟩:=Sc.YG m;exact⟨s,u⟩
theorem Mb.rows {ds:List (List Da)}{A:Option Addr}(h:ZT w S YM ds A): ∃ l:List Mb,ds=l.map Mb.da:=
 Wm fun j d hd=>by
  obtain⟨C,m⟩:=h.UJ hd;obtain⟨s,u,_⟩:=Mb.YG m;exact⟨s,u⟩
theorem Cl.rows {ds:List (List Da)}{A:Option Addr}(h:ZT w S Zz ds A): ∃ l:List Cl,ds=l.map Cl.da:=
 Wm fun j d hd=>by
  obtain⟨C,m⟩:=h.UJ hd;obtain⟨s,u,_⟩:=Cl.YG m;exact⟨s,u⟩
theorem Gr.rows {ds:List (List Da)}{A:Option Addr}(h:ZT w S Ya ds A): ∃ l:List Gr,ds=l.map Gr.da:=
 Wm fun j d hd=>by
  obtain⟨C,m⟩:=h.UJ hd;obtain⟨s,u,_⟩:=Gr.YG m;exact⟨s,u⟩
theorem Ru.YG {ds:List Da}{m:List Value}(h:ZE w S YF ds m): ∃ (r:Ru)(A:Option Addr)(n:Nat),ds=r.da/\m=r.cs A n/\ZT w S [.Z2] (YV r.Z3) A/\
  (-9223372036854775808<=r.low/\r.low<=9223372036854775807)/\(-9223372036854775808<=r.ZB/\r.ZB<=9223372036854775807):=by
 obtain⟨d0,aa,v0,ai,rfl,rfl,C,L⟩:=h.cons;obtain⟨d1,ab,v1,aj,rfl,rfl,D,M⟩:=L.cons;obtain⟨d2,ac,v2,ak,rfl,rfl,E,N⟩:=M.cons;obtain⟨d3,ad,v3,am,rfl,rfl,F,O⟩:=N.cons;obtain⟨d4,ae,v4,an,rfl,rfl,G,T⟩:=O.cons;obtain⟨d5,af,v5,ao,rfl,rfl,I,U⟩:=T.cons;obtain⟨d6,ag,v6,ap,rfl,rfl,J,V⟩:=U.cons;obtain⟨d7,ah,v7,aq,rfl,rfl,K,Z⟩:=V.cons;obtain⟨rfl,rfl⟩:=Z.nil;obtain⟨a,rfl,rfl⟩:=C.T0;obtain⟨b,rfl,rfl⟩:=D.num;obtain⟨cs,A,n,rfl,rfl,j⟩:=E.rows;obtain⟨c,rfl⟩:=Ji j;obtain⟨d,rfl,rfl,s⟩:=F.Yo;obtain⟨e,rfl,rfl,u⟩:=G.Yo;obtain⟨f,rfl,rfl⟩:=I.T0;obtain⟨g,rfl,rfl⟩:=J.T0;obtain⟨i,rfl,rfl⟩:=K.T0;exact⟨⟨a,b,c,d,e,f,g,i⟩,A,n,rfl,by simp [Ru.cs,YV],j,s,u⟩
theorem Ru.rows {ds:List (List Da)}{A:Option Addr}(h:ZT w S YF ds A): ∃ l:List Ru,ds=l.map Ru.da:=
 Wm fun j d hd=>by
  obtain⟨u,m⟩:=h.UJ hd;obtain⟨r,A,n,s,_⟩:=Ru.YG m;exact⟨r,s⟩
theorem Tb.YG {ds:List Da}{s:List Value}(h:ZE w S Zn ds s): ∃ (t:Tb)(A:Option Addr)(n:Nat)(B:Option Addr)(m:Nat),ds=t.da/\s=t.cs A n B m/\
  ZT w S Zz (t.Z3.map Cl.da) A/\ZT w S YF (t.ZW.map Ru.da) B:=by
 obtain⟨d0,M,v0,V,rfl,rfl,u,G⟩:=h.cons;obtain⟨d1,N,v1,Z,rfl,rfl,C,I⟩:=G.cons;obtain⟨d2,O,v2,aa,rfl,rfl,D,J⟩:=I.cons;obtain⟨d3,T,v3,ab,rfl,rfl,E,K⟩:=J.cons;obtain⟨d4,U,v4,ac,rfl,rfl,F,L⟩:=K.cons;obtain⟨rfl,rfl⟩:=L.nil;obtain⟨a,rfl,rfl⟩:=u.T0;obtain⟨b,rfl,rfl⟩:=C.T0;obtain⟨c,rfl,rfl⟩:=D.T0;obtain⟨ds,A,n,rfl,rfl,hd⟩:=E.rows;obtain⟨d,rfl⟩:=Cl.rows hd;obtain⟨es,B,m,rfl,rfl,j⟩:=F.rows;obtain⟨e,rfl⟩:=Ru.rows j;exact⟨⟨a,b,c,d,e⟩,A,n,B,m,rfl,by simp [Tb.cs],hd,j⟩
theorem Tb.rows {ds:List (List Da)}{A:Option Addr}(h:ZT w S Zn ds A): ∃ l:List Tb,ds=l.map Tb.da:=
 Wm fun j d hd=>by
  obtain⟨C,s⟩:=h.UJ hd;obtain⟨t,A,n,B,m,u,_⟩:=Tb.YG s;exact⟨t,u⟩
end
end Go.Proofs.YtnhmoibjlakhjaaGreat
