/- Lemmas, each under its own conditions. -/
import Derived.Test.YtnhmoibjlakhjaaGreatW48
set_option linter.all false
namespace Go.Proofs.YtnhmoibjlakhjaaGreat
open Go.Proofs.Tryz
set_option maxRecDepth 100000
set_option maxHeartbeats 16000000
open Go.RowKit
def DP (w:World)(rs:List YH):Prop:= ∀ r∈rs,ZT w (Xs w [9]) [.Z2] (YV r.1.Z3) r.2.1/\Qo r.1
theorem DP.keeps {us:List TypeId}{w w':World}{rs:List YH}(h:DP w rs)(j:ZS us w w')(hd:9∉us):DP w' rs:=fun r d=>⟨ZI (h r d).1 j (by simpa using hd),(h r d).2⟩
theorem Ru.Nl {w:World}{S:Nat->Prop}{r:YH}(h:ZT w S [.Z2] (YV r.1.Z3) r.2.1)(hb:Qo r.1):ZE w S YF r.1.da (YH.cs r):=by
 have j:=Yv.Wn (c:=r.2.2) h;have d:ZE w S YF r.1.da [sT r.1.name,i6 r.1.ZV,.slice r.2.1 (YV r.1.Z3).length r.2.2,i6 r.1.low,i6 r.1.ZB,sT r.1.Z9,sT r.1.ZZ,sT r.1.key]:=
  ZE.mk (Yv.YO _) (ZE.mk (Yv.Xo _) (ZE.mk j (ZE.mk (Yv.U8 hb.1) (ZE.mk (Yv.U8 hb.2) (ZE.mk (Yv.YO _) (ZE.mk (Yv.YO _) (ZE.one (Yv.YO _))))))))
 have e:(YV r.1.Z3).length=r.1.Z3.length:=by simp [YV]
 rw [e] at d;exact d
def DM (w:World)(ts:List YX):Prop:= ∀ t∈ts,ZT w (Xs w Gj) Zz (t.1.Z3.map Cl.da) t.2.1/\ZT w (Xs w Gj) YF (t.1.ZW.map Ru.da) t.2.2.2.1
theorem DM.keeps {us:List TypeId}{w w':World}{ts:List YX}(h:DM w ts)(d:ZS us w w')(hd: ∀ t,t∈Gj->t∉us):DM w' ts:=fun t j=>⟨ZI (h t j).1 d hd,ZI (h t j).2 d hd⟩
open Lib (hid)
section
variable {w : World} {S : Nat -> Prop}
theorem Cm.YG {ds:List Da}{m:List Value}(h:ZE w S WU ds m): ∃ (x:Cm)(X:Option Addr)(k:Nat)(Y:Option Addr)(n:Nat),ds=x.da/\m=x.cs X k Y n/\ZT w S Zz (x.Z3.map Cl.da) X/\ZT w S [.Z2] (YV x.ZX.Z3) Y/\Qo x.ZX:=by
 obtain⟨d0,aC,v0,aU,rfl,rfl,h0,r0⟩:=h.cons;obtain⟨d1,aE,v1,aV,rfl,rfl,h1,r1⟩:=r0.cons;obtain⟨d2,aF,v2,aW,rfl,rfl,h2,r2⟩:=r1.cons;obtain⟨d3,aG,v3,aX,rfl,rfl,h3,r3⟩:=r2.cons;obtain⟨d4,aH,v4,aY,rfl,rfl,h4,r4⟩:=r3.cons;obtain⟨d5,aI,v5,aZ,rfl,rfl,h5,r5⟩:=r4.cons;obtain⟨d6,aJ,v6,a6,rfl,rfl,h6,r6⟩:=r5.cons;obtain⟨d7,aK,v7,a7,rfl,rfl,h7,r7⟩:=r6.cons;obtain⟨d8,aL,v8,a8,rfl,rfl,h8,r8⟩:=r7.cons;obtain⟨d9,aM,v9,ba,rfl,rfl,h9,r9⟩:=r8.cons;obtain⟨av,aa,aO,ah,rfl,rfl,C,K⟩:=r9.cons;obtain⟨aw,ab,aP,ai,rfl,rfl,D,L⟩:=K.cons;obtain⟨ax,ac,v12,aj,rfl,rfl,E,M⟩:=L.cons;obtain⟨ay,ad,aQ,ak,rfl,rfl,F,N⟩:=M.cons;obtain⟨az,ae,aR,am,rfl,rfl,G,O⟩:=N.cons;obtain⟨aA,af,aS,an,rfl,rfl,I,T⟩:=O.cons;obtain⟨aB,ag,aT,ao,rfl,rfl,J,U⟩:=T.cons;obtain⟨rfl,rfl⟩:=U.nil;obtain⟨z0,rfl,rfl⟩:=h0.num;obtain⟨z1,rfl,rfl⟩:=h1.T0;obtain⟨z2,rfl,rfl⟩:=h2.T0;obtain⟨z3,rfl,rfl⟩:=h3.T0;obtain⟨z4,rfl,rfl⟩:=h4.T0;obtain⟨z5,rfl,rfl⟩:=h5.T0;obtain⟨e6,X,k,rfl,rfl,d⟩:=h6.rows;obtain⟨z6,rfl⟩:=Cl.rows d;obtain⟨z7,rfl,rfl⟩:=h7.T0;obtain⟨z8,rfl,rfl⟩:=h8.num;obtain⟨e9,Y,n,rfl,rfl,j⟩:=h9.rows;obtain⟨z9,rfl⟩:=Ji j;obtain⟨V,rfl,rfl,s⟩:=C.Yo;obtain⟨Z,rfl,rfl,u⟩:=D.Yo;obtain⟨z12,rfl,rfl⟩:=E.T0;obtain⟨ap,rfl,rfl⟩:=F.T0;obtain⟨aq,rfl,rfl⟩:=G.T0;obtain⟨ar,rfl,rfl⟩:=I.num;obtain⟨au,rfl,rfl⟩:=J.YD;exact⟨⟨z0,z1,z2,z3,z4,z5,z6,⟨z7,z8,z9,V,Z,z12,ap,aq⟩,ar,au⟩,X,k,Y,n,rfl,by simp [Cm.cs,YV],d,j,s,u⟩
theorem Cm.rows {ds:List (List Da)}{A:Option Addr}(h:ZT w S WU ds A): ∃ l:List Cm,ds=l.map Cm.da:=
 Wm fun j d hd=>by
  obtain⟨u,m⟩:=h.UJ hd;obtain⟨x,X,k,Y,n,s,_⟩:=Cm.YG m;exact⟨x,s⟩
theorem Cm.Wu {a b:Cm}(h:a.da=b.da):a=b:=by
 obtain⟨a1,a2,a3,a4,u,C,D,⟨Z,r2,r3,r4,r5,r6,r7,r8⟩,E,m⟩:=a;obtain⟨F,G,I,J,K,L,M,⟨q1,q2,q3,q4,O,T,U,V⟩,N,s⟩:=b;simp only [Cm.da,List.cons.injEq,Da.Z2.injEq,Da.int.injEq,Da.rows.injEq,Da.YD.injEq,and_true] at h;obtain⟨rfl,rfl,rfl,rfl,rfl,rfl,j,rfl,rfl,d,rfl,rfl,rfl,rfl,rfl,rfl,rfl⟩:=h;rw [(List.map_inj_right fun _ _=>Cl.Wu).1 j,Lf d]
theorem Cm.YY {x:Cm}{d:List Value}(h:ZE w S WU x.da d): ∃ X k Y n,d=x.cs X k Y n/\ZT w S Zz (x.Z3.map Cl.da) X/\ZT w S [.Z2] (YV x.ZX.Z3) Y/\Qo x.ZX:=by
 obtain⟨y,X,k,Y,n,j,m,s⟩:=Cm.YG h;obtain rfl:=Cm.Wu j;exact⟨X,k,Y,n,m,s⟩
end
def EA (e:Ending):Prop:= ∃ b,e= .returned (.bool b)
theorem F7 (x:Cm)(X:Option Addr)(k:Nat)(Y:Option Addr)(n:Nat)(w:World):Calls prog 7 #[.agg (x.cs X k Y n).toArray] w fun e w'=>EA e/\Below w.heap.size w w':=by
 unfold Cm.cs;go_enter func7,ntmps7
 go_upto_region 1 with fail
 generalize e:w.alloc _=W
 have p:=nC e.symm;have q:=bP e.symm;have d:=ce p 6;have j:=ce p 9;by_cases h:(x.Z3.length:Int)>1000
 ·go_wp2;go_ret;exact⟨⟨_,rfl⟩,q.out⟩
 by_cases h2:(x.ZX.Z3.length:Int)>1000 <;> (go_wp2;go_ret;exact⟨⟨_,rfl⟩,q.out⟩)
theorem Ud (w:World):Calls prog 41 #[] w fun e w'=>e= .returned (.agg (Wz.cs none 0 none 0).toArray)/\Below w.heap.size w w':=by
 have d:=iN 43 17;go_enter func41,ntmps41
 go_wp2;refine bodyPost_ret (rS (hid (ZP.new w 43 [.int .i64 1,.string (Z2 Yi),.string (Z2 [115]),.string (Z2 []),.string (Z2 []),.string (Z2 []),.slice none 0 0,.string (Z2 []),.int .i64 0,.slice none 0 0,.int .i64 0,.int .i64 0,.string (Z2 []),.string (Z2 []),.string (Z2 []),.int .i64 0,.bool false])) underlying43 d) rfl ?_
 exact⟨rfl,br.alloc lr _⟩
theorem Uy:Wz.Zo 549755813888:=by
 refine⟨?_,?_,?_,?_,?_,?_,⟨?_,?_,?_,?_⟩,?_⟩ <;> simp [Wz,Yi]
theorem Pj:Ca.new.Zo 1099511627776:=by
 refine⟨⟨?_,?_,?_⟩,⟨?_,?_,?_,?_⟩,?_⟩ <;> simp [Ca.new,Yi]
theorem Tf:UI.Zo 1099511627776:=by
 refine⟨⟨?_,?_,?_⟩,⟨?_,?_,?_,?_⟩,?_⟩ <;> simp [UI,Yi]
theorem It (w:World):cQ 12 #[] w fun e w'=>e= .returned (.bool true)/\Bw w w':=by
 have ae:=iN 33 7;go_enter func12,ntmps12
 go_wp2_with fail;refine(MY w).mono ?_
 rintro e W1 ⟨A,rfl,Z,hb⟩;have ao:=hid Z;have ai:=hid hb;clear Z hb;go_wp2_with fail;refine(Ud W1).mono ?_
 rintro e W2 ⟨rfl,hb⟩;have ap:=hid (ao.o.later hb);have N:=bt ai hb;clear hb ao ai;go_wp2_with fail;refine(WK Ca.new A Wz none 0 none 0 W2 ap.o.VE Pj ZT.nil ZT.nil Uy ⟨⟨by decide,by decide⟩,⟨by decide,by decide⟩⟩).mono ?_
 rintro e W3 ⟨M,c1,d,rfl,T,Z,hb⟩;obtain⟨h0,ar⟩:=Nx T;subst h0;have aq:=hid (Z rfl);have aj:=bt N hb;have aa:=hid ar;clear T Z hb ar ap N;unfold Ca.cs;go_upto_region 2 with fail
 refine Wh _ fun u hW=> ?_
 have ag:=bP hW;have E:=nC hW;clear hW;have af:=hid (aq.o.later ag.o);have ak:=bt aj ag.o;clear aq aj ag;generalize W3.heap.size=g at*;have G:=E.out.lt;refine' Fa (F:=fun p M c2 m V=>Hid (ZP V g 33 (zC c1 d))/\Hid (Bw u V)/\Hid (M=60)) (fun key=>_) _
 rotate_left
 ·have j:Hid (Bw u u.drew):=hid br.drew;refine wp_region_held_drew (S:=fun w'=>w'.rangeAt g 0 (zC c1 d)) (by kernel_rfl) ((E.out.below j.out G).Yz) (fun C=> ?_)
  (try simp only [pp]);refine wpAnyH_take (i:=0) (oi:=⟨some 12,_,_,_,_,_⟩) (v:=_) rfl (by kernel_rfl) (by kernel_rfl) (by kernel_rfl) (fun _ _ _ h=>h) (yieldsIf_load_mid (by rfl) _ _ rfl (g) 0 rfl (zC c1 d) _ (fun _ h=>h) underlying33 rfl ae.o) C ?_
  (try simp only [pp]);refine wpAnyH_ready (rs:= [1,6]) (by kernel_rfl) (by simp) ?_
  refine AllReadyH.cons (o:=⟨some 13,_,_,_,_,_⟩) rfl (fun K s=> ?_) (AllReadyH.cons (o:=⟨some 3,_,_,_,_,_⟩) rfl (fun K s=> ?_) AllReadyH.nil)
  ·go_simp;refine(Ud u.drew).mono ?_
   rintro e D ⟨rfl,hb⟩;have I:=bt j hb;clear hb j;have j:=I;clear I;refine s.out _ _ ((E.out.below (j.out) G).Yz) (fun C=> ?_);clear s K;(try simp only [pp])
   refine wpAnyH_ready (rs:= [2,6]) (by kernel_rfl) (by simp) ?_
   refine AllReadyH.cons (o:=⟨some 14,_,_,_,_,_⟩) rfl (fun K s=> ?_) (AllReadyH.cons (o:=⟨some 3,_,_,_,_,_⟩) rfl (fun K s=> ?_) AllReadyH.nil)
   ·go_simp;refine((by have h:=WK c1 d Wz none 0 none 0 D (af.o.later (show Bw u D from j.out)).VE (by rw [aa.o];exact Tf) ZT.nil ZT.nil Uy ⟨⟨by decide,by decide⟩,⟨by decide,by decide⟩⟩;unfold Ca.cs at h;exact h:cQ 9 #[.agg (zC c1 d).toArray,.agg (Wz.cs none 0 none 0).toArray] D (EI c1 Wz D))).mono ?_
    rintro e L ⟨M,c2,m,rfl,T,Z,hb⟩;have I:=bt j hb;have HE:Hid (M=60):=hid (Q8 (by rw [<-aa.o];exact T));clear T Z;unfold Ca.cs;clear hb j;have j:=I;clear I;refine s.out _ _ ((E.out.below (j.out) G).Yz) (fun C=> ?_);clear s K;(try simp only [pp])
    refine tk 3 11 C ?_;refine tk 4 15 C ?_;refine tk 5 16 C ?_;refine on 6 3 fun K s=> ?_
    go_simp;have N:Hid (Below u.heap.size u (L.alloc (.cells #[.int .i64 0,.int .i64 0,sN,sN,sN,sN,sN] 33))):=hid (j.out.alloc j.out.size _);have J:Hid (ZP (L.alloc (.cells #[.int .i64 0,.int .i64 0,sN,sN,sN,sN,sN] 33)) L.heap.size 33 [.int .i64 0,.int .i64 0,sN,sN,sN,sN,sN]):=hid (ZP.new L _ _);have ac:Hid (u.heap.size<=L.heap.size):=hid j.out.size;have ah:Below L.heap.size L (L.alloc (.cells #[.int .i64 0,.int .i64 0,sN,sN,sN,sN,sN] 33)):=br.alloc lr _;clear ah j;generalize L.alloc (.cells #[.int .i64 0,.int .i64 0,sN,sN,sN,sN,sN] 33)=VA at*;generalize L.heap.size=p at*;have j:=N;clear N;refine s.out _ _ ((E.out.below (j.out) G).Yz) (fun C=> ?_);clear s K;(try simp only [pp])
    refine SR 7 fun K s=> ?_
    refine Zk rfl 33 _ _ rfl p (zC c2 m) rfl rfl J rfl rfl ae (by simp [Value.oneCell']) ?_
    intro w9 U;have O:Hid (Bw u w9):=hid (U.o.below j.out ac.o);refine s.out _ _ ((E.out.below (O.o) G).Yz) (fun C=> ?_);clear s K;(try simp only [pp])
    refine tk 8 4 C ?_;refine wpAnyH_done (by kernel_rfl) ?_ _
    exact key p M c2 m w9 ⟨hid (E.out.below O.o G),O,HE⟩
   ·go_simp;have N:Hid (Below u.heap.size u (D.alloc (.cells #[.int .i64 0,.int .i64 0,sN,sN,sN,sN,sN] 33))):=hid (j.out.alloc j.out.size _);have J:Hid (ZP (D.alloc (.cells #[.int .i64 0,.int .i64 0,sN,sN,sN,sN,sN] 33)) D.heap.size 33 [.int .i64 0,.int .i64 0,sN,sN,sN,sN,sN]):=hid (ZP.new D _ _);have ac:Hid (u.heap.size<=D.heap.size):=hid j.out.size;have ah:Below D.heap.size D (D.alloc (.cells #[.int .i64 0,.int .i64 0,sN,sN,sN,sN,sN] 33)):=br.alloc lr _;clear ah j;generalize D.alloc (.cells #[.int .i64 0,.int .i64 0,sN,sN,sN,sN,sN] 33)=VA at*;generalize D.heap.size=p at*;have j:=N;clear N;refine s.out _ _ ((E.out.below (j.out) G).Yz) (fun C=> ?_);clear s K;(try simp only [pp])
    refine on 2 14 fun K s=> ?_
    go_simp;refine((by have h:=WK c1 d Wz none 0 none 0 VA (af.o.later (show Bw u VA from j.out)).VE (by rw [aa.o];exact Tf) ZT.nil ZT.nil Uy ⟨⟨by decide,by decide⟩,⟨by decide,by decide⟩⟩;unfold Ca.cs at h;exact h:cQ 9 #[.agg (zC c1 d).toArray,.agg (Wz.cs none 0 none 0).toArray] VA (EI c1 Wz VA))).mono ?_
    rintro e L ⟨M,c2,m,rfl,T,Z,hb⟩;have ab:=bl J hb;clear J;have J:=ab;clear ab;have I:=bt j hb;have HE:Hid (M=60):=hid (Q8 (by rw [<-aa.o];exact T));clear T Z;unfold Ca.cs;clear hb j;have j:=I;clear I;refine s.out _ _ ((E.out.below (j.out) G).Yz) (fun C=> ?_);clear s K;(try simp only [pp])
    refine tk 3 11 C ?_;refine tk 4 15 C ?_;refine tk 5 16 C ?_;refine SR 7 fun K s=> ?_
    refine Zk rfl 33 _ _ rfl p (zC c2 m) rfl rfl J rfl rfl ae (by simp [Value.oneCell']) ?_
    intro w9 U;have O:Hid (Bw u w9):=hid (U.o.below j.out ac.o);refine s.out _ _ ((E.out.below (O.o) G).Yz) (fun C=> ?_);clear s K;(try simp only [pp])
    refine tk 8 4 C ?_;refine wpAnyH_done (by kernel_rfl) ?_ _
    exact key p M c2 m w9 ⟨hid (E.out.below O.o G),O,HE⟩
  ·go_simp;have N:Hid (Below u.heap.size u (u.alloc (.cells #[.int .i64 0,.int .i64 0,sN,sN,sN,sN,sN] 33)).drew):=hid (br.alloc lr _).drew;have an:Hid (ZP (u.alloc (.cells #[.int .i64 0,.int .i64 0,sN,sN,sN,sN,sN] 33)).drew u.heap.size 33 [.int .i64 0,.int .i64 0,sN,sN,sN,sN,sN]):=hid (ZP.new u _ _).drew;obtain⟨p,hp⟩: ∃ p,p=u.heap.size:=⟨_,rfl⟩
   have ac:Hid (u.heap.size<=p):=hid (by rw [hp];exact Nat.le_refl _);have J:Hid (ZP (u.alloc (.cells #[.int .i64 0,.int .i64 0,sN,sN,sN,sN,sN] 33)).drew p 33 [.int .i64 0,.int .i64 0,sN,sN,sN,sN,sN]):=hid (by rw [hp];exact an.out);generalize hVA:(u.alloc (.cells #[.int .i64 0,.int .i64 0,sN,sN,sN,sN,sN] 33)).drew=VA at*;rw [<-hp];clear an hp hVA j;have j:=N;clear N;refine s.out _ _ ((E.out.below (j.out) G).Yz) (fun C=> ?_);clear s K;(try simp only [pp])
   refine on 1 13 fun K s=> ?_
   go_simp;refine(Ud VA).mono ?_
   rintro e D ⟨rfl,hb⟩;have ab:=bl J hb;clear J;have J:=ab;clear ab;have I:=bt j hb;clear hb j;have j:=I;clear I;refine s.out _ _ ((E.out.below (j.out) G).Yz) (fun C=> ?_);clear s K;(try simp only [pp])
   refine on 2 14 fun K s=> ?_
   go_simp;refine((by have h:=WK c1 d Wz none 0 none 0 D (af.o.later (show Bw u D from j.out)).VE (by rw [aa.o];exact Tf) ZT.nil ZT.nil Uy ⟨⟨by decide,by decide⟩,⟨by decide,by decide⟩⟩;unfold Ca.cs at h;exact h:cQ 9 #[.agg (zC c1 d).toArray,.agg (Wz.cs none 0 none 0).toArray] D (EI c1 Wz D))).mono ?_
   rintro e L ⟨M,c2,m,rfl,T,Z,hb⟩;have ab:=bl J hb;clear J;have J:=ab;clear ab;have I:=bt j hb;have HE:Hid (M=60):=hid (Q8 (by rw [<-aa.o];exact T));clear T Z;unfold Ca.cs;clear hb j;have j:=I;clear I;refine s.out _ _ ((E.out.below (j.out) G).Yz) (fun C=> ?_);clear s K;(try simp only [pp])
   refine tk 3 11 C ?_;refine tk 4 15 C ?_;refine tk 5 16 C ?_;refine SR 7 fun K s=> ?_
   refine Zk rfl 33 _ _ rfl p (zC c2 m) rfl rfl J rfl rfl ae (by simp [Value.oneCell']) ?_
   intro w9 U;have O:Hid (Bw u w9):=hid (U.o.below j.out ac.o);refine s.out _ _ ((E.out.below (O.o) G).Yz) (fun C=> ?_);clear s K;(try simp only [pp])
   refine tk 8 4 C ?_;refine wpAnyH_done (by kernel_rfl) ?_ _
   exact key p M c2 m w9 ⟨hid (E.out.below O.o G),O,HE⟩
 ·rintro p M c2 m V ⟨GV,am,HE⟩;have he:=HE.o;subst he;have v1:=ce GV 1;have ad:c1.ZR=1:=by rw [aa.o];rfl
  rw [ad] at v1;have au:=bt ak am.o;clear ad aa af E ak GV am HE;go_wp2;go_ret;exact⟨rfl,au.o⟩
theorem Cm.Zo.up {x:Cm}{M N:Nat}(h:x.Zo M)(d:M<=N):x.Zo N:=⟨Nat.le_trans h.1 d,Nat.le_trans h.2.1 d,Nat.le_trans h.2.2.1 d,Nat.le_trans h.2.2.2.1 d,Nat.le_trans h.2.2.2.2.1 d,Nat.le_trans h.2.2.2.2.2.1 d,Ru.Zo.up h.2.2.2.2.2.2.1 d,Nat.le_trans h.2.2.2.2.2.2.2 d⟩
def Ge (er:Int)(w:World)(c:Ca)(A:Wd):Prop:=er=0->Ta w c A
theorem Ge.later {d:Int}{w w':World}{c:Ca}{A:Wd}(h:Ge d w c A)(hb:Bw w w'):Ge d w' c A:=fun e=>(h e).later hb
theorem Ge.keeps {us:List TypeId}{d:Int}{w w':World}{c:Ca}{A:Wd}(h:Ge d w c A)(j:ZS us w w')(hd: ∀ t,t∈CT->t∉us):Ge d w' c A:=fun e=>(h e).keeps j hd
end Go.Proofs.YtnhmoibjlakhjaaGreat
