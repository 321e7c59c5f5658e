/- Lemmas, each under its own conditions. -/
import Derived.Test.YtnhmoibjlakhjaaGreatW55
import Derived.Test.YtnhmoibjlakhjaaGreatW53
set_option linter.all false
namespace Go.Proofs.YtnhmoibjlakhjaaGreat
open Go.Proofs.Tryz
set_option maxRecDepth 100000
set_option maxHeartbeats 16000000
open Go.RowKit
theorem OJ {α:Type}(f:α->List Da)(d: ∀ x,1<=Sy (f x)): ∀ (l:List α),l.length<=SA (l.map f)
 | []=>by simp [SA]
 | a ::l=>by
  have h:=d a
  have j:=OJ f d l
  simp only [List.length_cons,List.map_cons,SA]
  omega
theorem K9 {α:Type}(f:α->List Da): ∀ {l:List α}{x:α},x∈l->Sy (f x)<=SA (l.map f)
 | [],_,h=>by cases h
 | a ::l,x,h=>by
  simp only [List.map_cons,SA]
  rcases List.mem_cons.1 h with rfl | h
  ·omega
  ·have:=K9 f h
   omega
theorem Gm (l:List (List UInt8)):l.length<=SA (YV l):=OJ (fun b=> [Da.Z2 b]) (fun b=>by simp only [Sy,wt];omega) l
theorem Eh {a b c d e f g h i j k l:Nat}{p q M m s:Nat}(u:m<=p)(C:s<=q)(H:1+ (a+1+ (b+1+ (c+1+ (d+1+ (e+1+ (p+1+ (f+1+ (1+ (q+1+ (1+ (1+ (g+1+ (h+1+ (i+1+ (1+ (1+0))))))))))))))))<=M):a<=M/\b<=M/\c<=M/\d<=M/\e<=M/\m<=M/\s<=M/\f<=M/\g<=M/\h<=M/\i<=M:=by omega
theorem Cm.Gs {x:Cm}{M:Nat}(h:Sy x.da<=M):x.Zo M:=by
 have s:=OJ Cl.da (fun c=>by simp only [Cl.da,Sy,wt];omega) x.Z3;have u:=Gm x.ZX.Z3;simp only [Cm.da,Sy,wt] at h;obtain⟨a,b,c,d,e,g,i,j,k,l,m⟩:=Eh (k:=0) (l:=0) (j:=0) s u h;exact⟨a,b,c,d,e,g,⟨i,k,l,m⟩,j⟩
theorem F5 {w:World}{S:Nat->Prop}{ds:List Da}{A:Option Addr}{n c M:Nat}(h:ZE w S [.rows WU] ds [.slice A n c])(u:Sy ds<=M): ∃ l:List Cm,n=l.length/\ZT w S WU (l.map Cm.da) A/\ ∀ x∈l,x.Zo M:=by
 obtain⟨K,E,v0,G,rfl,s,j,D⟩:=h.cons;obtain⟨rfl,F⟩:=D.nil;obtain⟨es,I,J,rfl,m,d⟩:=j.rows;injection s with hv1 hv2
 rw [m] at hv1;injection hv1 with hA hn hc
 subst hA;obtain⟨l,rfl⟩:=Cm.rows d;refine⟨l,by simpa using hn,d,fun x C=>Cm.Gs (Nat.le_trans (K9 Cm.da C) ?_)⟩
 simp only [Sy,wt] at u;omega
open Lib (hid)
structure Nt (w:World) (t:Tb) (X Y:oA):Prop where
 cl:ZT w (Xs w VT) Zz (t.Z3.map Cl.da) X
 ru:ZT w (Xs w VT) YF (t.ZW.map Ru.da) Y
theorem Nt.keeps {us:List TypeId}{w w':World}{t:Tb}{X Y:oA}(h:Nt w t X Y)(d:ZS us w w')(hd: ∀ t,t∈VT->t∉us):Nt w' t X Y:=⟨ZI h.cl d hd,ZI h.ru d hd⟩
theorem Nt.later {w w':World}{t:Tb}{X Y:oA}(h:Nt w t X Y)(hb:Bw w w'):Nt w' t X Y:=h.keeps (us:= []) (ZS.ZA hb lr) (by simp)
theorem DH {F T:Nat->oA->Nat->oA->Nat->World->Prop}{G:Prop}(h:(∀ p X x Y y w,F p X x Y y w->T p X x Y y w)->G)(k: ∀ p X x Y y w,F p X x Y y w->T p X x Y y w):G:=h k
theorem Li (l:List Cm)(L:oA)(k:Nat)(qs:List Wo)(Q:oA)(m:Nat)(w:World)(hL:rA w WU (l.map Cm.da) L)(hQ:rA w Vq (qs.map Wo.da) Q)(cY: ∀ x∈l,x.Zo 549755813888):
  cQ 5 #[.slice L l.length k,.slice Q qs.length m] w fun e w'=>e= .returned (.bool true)/\Bw w w':=by
 have HL:=hid hL;have HQ:=hid hQ;have c9:=hid cY;have aZ:=iN 33 7;have bM:=iN 43 17;have bN:=iN 73 5;have c5:=iN 26 2;have a6:=iN 66 9;clear hL hQ cY;by_cases h60:(l.length:Int) > 60
 ·go_enter func5,ntmps5
  go_wp2;go_ret;exact⟨rfl,Below.refl _ _⟩
 by_cases q60:(qs.length:Int) > 60
 ·go_enter func5,ntmps5
  go_wp2;go_ret;exact⟨rfl,Below.refl _ _⟩
 have dk:l.length<=60:=by omega
 have dm:qs.length<=60:=by omega
 go_enter func5,ntmps5
 go_wp2_with fail;refine(MY w).mono ?_
 rintro e W1 ⟨A0,rfl,hT,hb⟩;have cF:=hid hT;have bD:Hid (Bw w W1):=hid hb;clear hT hb;unfold Ca.cs;go_upto_region 4 with fail
 refine Wh _ fun W2 hW=> ?_
 have G2:Hid (ZP W2 W1.heap.size 33 (zC Ca.new A0)):=nC hW;have be:=hid (cF.o.later (bP hW).o);have ac:=bt bD (bP hW).o;have dg:=bD.o.size;clear hW cF bD;generalize W1.heap.size=g at*;go_wp2_with fail;refine(Ln W2).mono ?_
 rintro e G ⟨gs,rfl,hS,hb⟩;have cD:=hid (hS.mono (base':=w.heap.size) ac.o.size);have ay:=bt ac hb;have G3:=bl G2 hb;have bv:=hid (be.o.later hb);clear hS hb G2 ac be;have e2:=ce G3 2;have e3:=ce G3 3;go_wp2_with fail;refine(RQ w.heap.size gs [] Ca.new.ob A0.a0 A0.k0 A0.a1 A0.k1 G cD.o LS Rg bv.o.VE.sc bv.o.VE.tb).mono ?_
 rintro e W4 ⟨rfl,Z,hS,hg,ht,hk,hb,-⟩;have cE:=hid hS;have cq:=hid hg;have bf:=hid ht;have cG:=hid (bv.o.keeps hk (by decide));have G4:=hid (G3.o.keeps hk (by decide));have ck:Hid (Bw w W4):=hid (ay.o.trans hb);clear hS hg ht hk hb e2 e3 cD ay G3 bv;go_wp2_with fail;go_loopw [7] (fun v7 wr=> ∃ (j:Nat) (c:Ca) (A:Wd) (Z:List Sf),j<=60/\v7=i6 j/\Hid (Ta wr c A)/\Hid (c.Zo 1099511627776)/\Hid (Zc c.ob=true)/\Hid (ZP wr g 33 (zC c A))/\Hid (WO wr w.heap.size gs Z)/\Hid (WQ Z)/\Hid (Z.map (·.t)=c.ob.Z8)/\Hid (Bw w wr)) (fun i _=>60 - (intOf i).toNat)
 case atStart=>exact⟨0,Ca.new,A0,Z,by omega,rfl,cG,hid Pj,hid Rg,G4,cE,cq,bf,ck⟩
 case round=>
  clear cG G4 cE cq bf ck;obtain⟨j,c,A,Z,hj,rfl,ag,ah,ai,J,aB,M,aO,af⟩:=hrel;by_cases h0:j<l.length∨j<qs.length
  case neg=>
   have bz: ¬ (j:Int)< (l.length:Int):=by omega
   have b7: ¬ (j:Int)< (qs.length:Int):=by omega
   go_wp2_with fail;refine(It wr).mono ?_
   rintro e G ⟨rfl,hb⟩;have bE:=bt af hb;clear hb;go_wp2_with fail;refine(Hc G).mono ?_
   rintro e W4 ⟨rfl,hb⟩;have bF:=bt bE hb;clear hb;go_wp2;go_ret;exact⟨rfl,bF.o⟩
  go_upto_region 8 with fail
  go_cut [44] from 35 to 179 (fun v44 V=>v44= .bool true/\Hid (V=wr))
  case first=>
   by_cases h1:j<l.length
   ·have bz:(j:Int)< (l.length:Int):=by omega
    go_wp2;go_meet
    case rel=>exact⟨rfl,hid rfl⟩
   ·have bz: ¬ (j:Int)< (l.length:Int):=by omega
    have b7:(j:Int)< (qs.length:Int):=by omega
    go_wp2;go_meet
    case rel=>exact⟨rfl,hid rfl⟩
  case rest=>
  obtain⟨rfl,cI⟩:=hcut;have db:=cI.o.symm;clear cI;subst db;go_upto_if 50 with fail
  go_cut [8,9] from 35 to 179 (fun _ _ V=> ∃ (c:Ca) (A:Wd) (Z:List Sf),Hid (Ta V c A)/\Hid (c.Zo 1099511627776)/\Hid (Zc c.ob=true)/\Hid (ZP V g 33 (zC c A))/\Hid (WO V w.heap.size gs Z)/\Hid (WQ Z)/\Hid (Z.map (·.t)=c.ob.Z8)/\Hid (Bw w V))
  case first=>
   by_cases hlt:j<l.length
   case neg=>
    have bz: ¬ (j:Int)< (l.length:Int):=by omega
    go_wp2;go_meet
    case rel=>exact⟨c,A,Z,ag,ah,ai,J,aB,M,aO,af⟩
   have bz:(j:Int)< (l.length:Int):=by omega
   have dc:(0:Int)<=(j:Int):=by omega
   obtain⟨ad,vs,eA,hv,hr⟩:=(HL.o.later af.o).at_ (j:=j) (by simpa using hlt);have cZ:=c9.o l[j] (List.getElem_mem hlt);rw [List.getElem_map] at hv;generalize l[j]=x at*;obtain⟨X,k',Y,n,rfl,hX,hY,cL⟩:=Cm.YY hv;have HX:=hid hX;have HY:=hid hY;have cn:=hid cL;have b2:=hid cZ;have b5:(ad.add (j*17)).block<wr.heap.size:=by
    have:=World.block_lt_of_cell? wr _ (hr 0 _ rfl);simpa [ZL] using this
   have cr:Hid (∀ V,Bw wr V-> ∀ i u,((zX x X k' Y n):lV)[i]?=some u->V.cell? ((ad.add (j*17)).add i)=some u):=hid fun V h i u hu=>(h.cell (by rw [ZL];exact b5)).trans (by rw [ZG];exact hr i u hu)
   clear hv hr hX hY cL cZ;subst eA;have a7:Hid ((prog.info? 43).map (·.size)=some ((zX x X k' Y n):lV).length):=bM;go_wp2_with (first | (with_reducible refine ZK rfl 43 _ rfl (ad.add (j*17)) rfl (zX x X k' Y n) _ (cr.o wr br) underlying43 rfl a7.o ?_) | fail);have cB:=F7 x X k' Y n wr;unfold Cm.cs at cB;refine cB.mono ?_
   rintro e G ⟨⟨b,rfl⟩,hb⟩;have an:Hid (Bw wr G):=hid hb;clear cB hb
   cases b
   case true=>
    have bE:=bt af an.o;go_wp2;go_ret;exact⟨rfl,bE.o⟩
   have G5:=bl J an.o;have bi:=hid (ag.o.later an.o);have aU:=bt af an.o;have bb:=hid (aB.o.later an.o);clear J ag af aB;have ag:=bi;clear bi;go_upto_region 13 with fail
   have az:Hid (∀ V,Bw G V-> ∀ i u,((zX x X k' Y n):lV)[i]?=some u->V.cell? ((ad.add (j*17)).add i)=some u):=hid fun V h=>cr.o V (an.o.trans (h.mono an.o.size))
   have b1:=hid (HX.o.later an.o);have b3:=hid (HY.o.later an.o);have J:=G5;refine' Fa (F:=fun p er c2 D V=>Hid (ZP V p 33 (zC c2 D))/\Hid (ZP V (g) 33 (zC c A))/\Hid (Bw G V)/\Hid (Fj c x er c2)/\Hid (Ge er V c2 D)) (fun key=>_) _
   rotate_left
   ·have C:Hid (Bw G G.drew):=hid br.drew;refine wp_region_held_drew (S:=fun w'=>w'.rangeAt g 0 (zC c A)/\ ∀ i u,((zX x X k' Y n):lV)[i]?=some u->w'.cell? ((ad.add (j*17)).add i)=some u) (by kernel_rfl) (⟨(J.out.below (C.out) J.out.lt).Yz,az.out _ (C.out)⟩) (fun d=> ?_)
    (try simp only [pp]);refine wpAnyH_take (i:=0) (oi:=⟨some 57,_,_,_,_,_⟩) (v:=_) rfl (by kernel_rfl) (by kernel_rfl) (by kernel_rfl) (fun _ _ _ h=>h) (yieldsIf_load_mid (by rfl) _ _ rfl (g) 0 rfl (zC c A) _ (fun _ h=>h.1) underlying33 rfl aZ.o) d ?_
    (try simp only [pp]);refine tk 1 58 d ?_;refine tk 2 59 d ?_;refine tk 3 60 d ?_;refine wpAnyH_take (i:=4) (oi:=⟨some 61,_,_,_,_,_⟩) (v:=_) rfl (by kernel_rfl) (by kernel_rfl) (by kernel_rfl) (fun _ _ _ h=>h) (Zg (by rfl) _ _ rfl (ad.add (j*17)) rfl (zX x X k' Y n) _ (fun _ h=>h.2) underlying43 rfl a7.o) d ?_
    (try simp only [pp]);refine wpAnyH_ready (rs:= [5,9]) (by kernel_rfl) (by simp) ?_
    refine AllReadyH.cons (o:=⟨some 62,_,_,_,_,_⟩) rfl (fun K E=> ?_) (AllReadyH.cons (o:=⟨some 8,_,_,_,_,_⟩) rfl (fun K E=> ?_) AllReadyH.nil)
    ·go_simp;refine((by have h:=WK c A x X k' Y n G.drew (ag.o.later (show Bw G G.drew from C.out)).VE ah.o (b1.o.later C.out) (b3.o.later C.out) b2.o cn.o;unfold Ca.cs Cm.cs at h;exact h:cQ 9 #[.agg (zC c A).toArray,.agg (zX x X k' Y n).toArray] G.drew (EI c x G.drew))).mono ?_
     rintro e I ⟨er,c2,D,rfl,hR,hT,hb⟩;have aj:=bt C hb;have HR:=hid hR;have HI:=hid (show Ge er _ c2 D from hT);clear hR hT;unfold Ca.cs;clear hb C;have C:=aj;clear aj;refine E.out _ _ ⟨(J.out.below (C.out) J.out.lt).Yz,az.out _ (C.out)⟩ (fun d=> ?_);clear E K;(try simp only [pp])
     refine tk 6 56 d ?_;refine tk 7 63 d ?_;refine tk 8 64 d ?_;refine on 9 8 fun K E=> ?_
     go_simp;have ac:Hid (Below G.heap.size G (I.alloc (.cells #[.int .i64 0,.int .i64 0,sN,sN,sN,sN,sN] 33))):=hid (C.out.alloc C.out.size _);have M:Hid (ZP (I.alloc (.cells #[.int .i64 0,.int .i64 0,sN,sN,sN,sN,sN] 33)) I.heap.size 33 [.int .i64 0,.int .i64 0,sN,sN,sN,sN,sN]):=hid (ZP.new I _ _);have aH:Hid (G.heap.size<=I.heap.size):=hid C.out.size;have bm:Below I.heap.size I (I.alloc (.cells #[.int .i64 0,.int .i64 0,sN,sN,sN,sN,sN] 33)):=br.alloc lr _;have cu:=hid (HI.o.later bm);clear HI;have HI:=cu;clear cu;clear bm C;generalize I.alloc (.cells #[.int .i64 0,.int .i64 0,sN,sN,sN,sN,sN] 33)=VA at*;generalize I.heap.size=p at*;have C:=ac;clear ac;refine E.out _ _ ⟨(J.out.below (C.out) J.out.lt).Yz,az.out _ (C.out)⟩ (fun d=> ?_);clear E K;(try simp only [pp])
     refine SR 10 fun K E=> ?_
     refine Zk rfl 33 _ _ rfl p (zC c2 D) rfl rfl M rfl rfl aZ (by simp [Value.oneCell']) ?_
     intro w9 U;have T:Hid (Bw G w9):=hid (U.o.below C.out aH.o);have a6:=hid (HI.o.keeps U.o.keeps (by decide));refine E.out _ _ ⟨(J.out.below (T.o) J.out.lt).Yz,az.out _ (T.o)⟩ (fun d=> ?_);clear E K;(try simp only [pp])
     refine tk 11 9 d ?_;refine wpAnyH_done (by kernel_rfl) ?_ _
     exact key p er c2 D w9 ⟨hid U.o.YK,bl G5 T.o,T,HR,a6⟩
    ·go_simp;have ac:Hid (Below G.heap.size G (G.alloc (.cells #[.int .i64 0,.int .i64 0,sN,sN,sN,sN,sN] 33)).drew):=hid (br.alloc lr _).drew;have aX:Hid (ZP (G.alloc (.cells #[.int .i64 0,.int .i64 0,sN,sN,sN,sN,sN] 33)).drew G.heap.size 33 [.int .i64 0,.int .i64 0,sN,sN,sN,sN,sN]):=hid (ZP.new G _ _).drew;obtain⟨p,hp⟩: ∃ p,p=G.heap.size:=⟨_,rfl⟩
     have aH:Hid (G.heap.size<=p):=hid (by rw [hp];exact Nat.le_refl _);have M:Hid (ZP (G.alloc (.cells #[.int .i64 0,.int .i64 0,sN,sN,sN,sN,sN] 33)).drew p 33 [.int .i64 0,.int .i64 0,sN,sN,sN,sN,sN]):=hid (by rw [hp];exact aX.out);generalize hVA:(G.alloc (.cells #[.int .i64 0,.int .i64 0,sN,sN,sN,sN,sN] 33)).drew=VA at*;rw [<-hp];clear aX hp hVA C;have C:=ac;clear ac;refine E.out _ _ ⟨(J.out.below (C.out) J.out.lt).Yz,az.out _ (C.out)⟩ (fun d=> ?_);clear E K;(try simp only [pp])
     refine on 5 62 fun K E=> ?_
     go_simp;refine((by have h:=WK c A x X k' Y n VA (ag.o.later (show Bw G VA from C.out)).VE ah.o (b1.o.later C.out) (b3.o.later C.out) b2.o cn.o;unfold Ca.cs Cm.cs at h;exact h:cQ 9 #[.agg (zC c A).toArray,.agg (zX x X k' Y n).toArray] VA (EI c x VA))).mono ?_
     rintro e I ⟨er,c2,D,rfl,hR,hT,hb⟩;have aW:=bl M hb;clear M;have M:=aW;clear aW;have aj:=bt C hb;have HR:=hid hR;have HI:=hid (show Ge er _ c2 D from hT);clear hR hT;unfold Ca.cs;clear hb C;have C:=aj;clear aj;refine E.out _ _ ⟨(J.out.below (C.out) J.out.lt).Yz,az.out _ (C.out)⟩ (fun d=> ?_);clear E K;(try simp only [pp])
     refine tk 6 56 d ?_;refine tk 7 63 d ?_;refine tk 8 64 d ?_;refine SR 10 fun K E=> ?_
     refine Zk rfl 33 _ _ rfl p (zC c2 D) rfl rfl M rfl rfl aZ (by simp [Value.oneCell']) ?_
     intro w9 U;have T:Hid (Bw G w9):=hid (U.o.below C.out aH.o);have a6:=hid (HI.o.keeps U.o.keeps (by decide));refine E.out _ _ ⟨(J.out.below (T.o) J.out.lt).Yz,az.out _ (T.o)⟩ (fun d=> ?_);clear E K;(try simp only [pp])
     refine tk 11 9 d ?_;refine wpAnyH_done (by kernel_rfl) ?_ _
     exact key p er c2 D w9 ⟨hid U.o.YK,bl G5 T.o,T,HR,a6⟩
   ·rintro p er c2 D V ⟨N6,G6,bs,HR,HI⟩;have aw:=hid (ag.o.later bs.o);have aG:=bt aU bs.o;have am:=hid (bb.o.later bs.o);clear az b1 b3 J G5 ag an aU bs bb;by_cases h0:er=0
    case neg=>
     have t0:(er == 0)=false:=by simpa using h0
     clear HR HI h0;have e2:=ce G6 2;have e3:=ce G6 3;go_wp2_with fail;refine(RQ w.heap.size gs Z c.ob A.a0 A.k0 A.a1 A.k1 V am.o M.o ai.o aw.o.VE.sc aw.o.VE.tb).mono ?_
     rintro e V9 ⟨rfl,cj,hS,hg,ht,hk,hb,-⟩;have bU:=hid hS;have bK:=hid hg;have bW:=hid ht;have bI:=hid (aw.o.keeps hk (by decide));have G9:=hid (G6.o.keeps hk (by decide));have T:Hid (Bw w V9):=hid (aG.o.trans hb);clear hS hg ht hk hb e2 e3;go_wp2;go_meet
     case rel=>exact⟨c,A,cj,bI,ah,ai,G9,bU,bK,bW,T⟩
    subst h0;have bo:=Ga HR.o;have aV:=hid (F9 HR.o ai.o);have be:=hid (HI.o rfl);have b0:=hid (Ca.Zo.up (bo 549755813888 (by omega) b2.o) (by omega:549755813888<=1099511627776));have de:w.heap.size<=g:=dg;clear HR HI bo aw;go_upto_region 16 with (first | (refine lO N6 aZ underlying33 ?_) | (refine sO G6 aZ ?_;intro W9 U) | fail)
    have bB:=hid U.o.YK;have bH:=hid (U.o.below aG.o de);have bX:=hid (be.o.keeps U.o.keeps (by decide));have bc:=hid (am.o.keeps U.o.keeps (by decide) (by decide) (by decide) (by decide) (by decide));clear U be am aG N6 G6;have am:=bc;clear bc;have e2:=ce bB 2;have e3:=ce bB 3;go_wp2_with fail;refine(RQ w.heap.size gs Z c2.ob D.a0 D.k0 D.a1 D.k1 W9 am.o M.o aV.o bX.o.VE.sc bX.o.VE.tb).mono ?_
    rintro e V9 ⟨rfl,cj,hS,hg,ht,hk,hb,-⟩;have bU:=hid hS;have bK:=hid hg;have bW:=hid ht;have bI:=hid (bX.o.keeps hk (by decide));have G9:=hid (bB.o.keeps hk (by decide));have T:Hid (Bw w V9):=hid (bH.o.trans hb);clear hS hg ht hk hb e2 e3;go_wp2;go_meet
    case rel=>exact⟨c2,D,cj,bI,b0,aV,G9,bU,bK,bW,T⟩
  case rest=>
  clear ag ah ai J aB M aO af;clear c A Z;obtain⟨c,A,Z,ag,ah,ai,J,aB,M,aO,af⟩:=hcut;by_cases h2:j<qs.length
  case neg=>
   have b7: ¬ (j:Int)< (qs.length:Int):=by omega
   have dd:(j:Int)>=(qs.length:Int):=by omega
   go_wp2;go_roundw
   case rel=>exact⟨j+1,c,A,Z,by omega,by go_num,ag,ah,ai,J,aB,M,aO,af⟩
   case measure=>simp [intOf];omega
  have b7:(j:Int)< (qs.length:Int):=by omega
  have dd: ¬ (j:Int)>=(qs.length:Int):=by omega
  have dc:(0:Int)<=(j:Int):=by omega
  obtain⟨O,eQ,cM,bk⟩:=HQ.o (by simp;omega);obtain⟨vs,hv,hr⟩:=bk j _ (List.getElem?_eq_getElem (by simpa using h2));rw [List.getElem_map] at hv;generalize qs[j]=q at*;obtain⟨QA,qn,rfl,hA⟩:=Wo.YY hv;have aM:Hid (∀ V,Bw w V-> ∀ i u,([i6 q.ZV,sT q.ZQ,sT q.Z9,sT q.ZZ,sl QA q.row qn,sT q.WB,i6 q.val.ZV,i6 q.val.num,sT q.val.word]:lV)[i]?=some u->V.cell? (O.add (j*9+i))=some u):=hid fun V h i u hu=>(h.cell (by rw [ZL];exact cM)).trans (hr i u hu)
  have bL:Hid (∀ V,Bw w V-> ∀ i u,([i6 q.ZV,sT q.ZQ,sT q.Z9,sT q.ZZ,sl QA q.row qn,sT q.WB,i6 q.val.ZV,i6 q.val.num,sT q.val.word]:lV)[i]?=some u->V.cell? ((O.add (j*9)).add i)=some u):=hid fun V h i u hu=>by rw [ZG];exact aM.o V h i u hu
  have bC:Hid (∀ V,Bw w V->ZT V (Sx V w.heap.size) Zh (q.row.map Vl.da) QA):=hid fun V h=>hA.YW (fun k hk=> .inl hk) (fun p hp=>h.cell hp)
  have bS:Hid ((prog.info? 66).map (·.size)=some ([i6 q.ZV,sT q.ZQ,sT q.Z9,sT q.ZZ,sl QA q.row qn,sT q.WB,i6 q.val.ZV,i6 q.val.num,sT q.val.word]:lV).length):=a6;subst eQ;clear bk hv hr hA cM;have q4:wc.cell? ⟨(O.add (j*9)).block,(O.add (j*9)).off+4,none⟩=some (sl QA q.row qn):=ef (aM.o wc af.o) 4;by_cases hr1:(q.row.length:Int) > 1000
  ·go_wp2;go_ret;exact⟨rfl,af.o⟩
  have c6:Hid (q.row.length<=1099511627776):=hid (by omega);go_wp2_with (first | (with_reducible refine ZK rfl 66 _ rfl (O.add (j*9)) rfl [i6 q.ZV,sT q.ZQ,sT q.Z9,sT q.ZZ,sl QA q.row qn,sT q.WB,i6 q.val.ZV,i6 q.val.num,sT q.val.word] _ (bL.o wc af.o) underlying66 rfl bS.o ?_) | fail);refine(MA w.heap.size gs Z q QA qn wc aB.o M.o).mono ?_
  rintro e I ⟨B1,k1,c1,rfl,bj,dl,cW⟩;have ap:Hid (Bw w I):=hid (af.o.trans bj.bw);have bg:=hid (ag.o.keeps bj.kp (by decide));have G1:=hid (J.out.keeps bj.kp (by decide));have a8:=hid bj.st;have cC:=hid cW;clear bj dl cW q4 af ag J aB;go_wp2_with (first | (with_reducible refine ZK rfl 66 _ rfl (O.add (j*9)) rfl [i6 q.ZV,sT q.ZQ,sT q.Z9,sT q.ZZ,sl QA q.row qn,sT q.WB,i6 q.val.ZV,i6 q.val.num,sT q.val.word] _ (bL.o I ap.o) underlying66 rfl bS.o ?_) | fail);refine(MO w.heap.size gs Z q QA qn I a8.o M.o (bC.o I ap.o)).mono ?_
  rintro e N ⟨er,B2,k2,c2,bq,rfl,aJ,hd,-,-⟩;have ak:Hid (Bw w N):=hid (ap.o.trans aJ.bw);have ae:=hid (bg.o.keeps aJ.kp (by decide));have G2:=hid (G1.o.keeps aJ.kp (by decide));have aI:=hid aJ.st;have aY:=hid aJ.gd;have au:=hid (aJ.tb.trans aO.o);have d:=hid hd;clear aJ hd ap bg G1 a8;by_cases he:er=0
  case neg=>
   have dp:(er != 0)=true:=by simpa using he
   have aR:(er == 0)=false:=by simpa using he
   clear d he;go_wp2;go_roundw
   case rel=>exact⟨j+1,c,A,bq,by omega,by go_num,ae,ah,ai,G2,aI,aY,au,ak⟩
   case measure=>simp [intOf];omega
  subst he;obtain⟨s,s',bA,cO,dn,aC⟩:=d.o rfl;obtain⟨dv,cP,cT,_,_⟩:=cC.o s bA;obtain⟨i,hi,b6,ao⟩:=H7 aO.o bA;have bJ:Hid (Sk c.ob q.Z9 q.ZZ=0):=hid (by unfold Sk;rw [ai.o,b6];rfl)
  have bZ:Hid (∀ (i2:Nat) (hi:i2<c.ob.Z8.length) (t':Tb),XA c.ob q.Z9 q.ZZ=some i2->t'=c.ob.Z8[i2]->t'=s.t):=hid fun i2 aS t' h1 h2=>by
   rw [b6] at h1;injection h1 with h1
   subst h1;exact h2.trans ao
  have cp:=hid cO;have aA:Hid (k1=s.rs.length):=hid (by
   rw [cP];have:=congrArg List.length cT;simpa using this)
  have cc:s∈Z:=List.mem_of_find?_eq_some bA
  have ds:=(M.o.r s cc).1;have c8:=hid ((M.o.t s cc).tm);have bu:=hid aC;clear bA cO dn aC cC cP cT b6 ao hi d cc;go_upto_region 24 with fail
  have ab:Hid (∀ V,Bw N V->(fun w'=>w'.rangeAt g 2 [sl A.a0 c.ob.Z7 A.k0,sl A.a1 c.ob.Z8 A.k1]/\w'.cell? ⟨(O.add (j*9)).block,(O.add (j*9)).off+2,none⟩=some (sT q.Z9)/\w'.cell? ⟨(O.add (j*9)).block,(O.add (j*9)).off+3,none⟩=some (sT q.ZZ)) V):=hid fun V h=>by
   have h3:=ak.o.trans (h.mono ak.o.size);exact⟨(G2.o.below h G2.o.lt).range 2 _ rfl,ef (aM.o V h3) 2,ef (aM.o V h3) 3⟩
  refine' DH (F:=fun p X2 x2 Y2 y2 V=>Hid (ZP V p 73 [sT s.t.Z9,sT s.t.name,sT s.t.ZN,sl X2 s.t.Z3 x2,sl Y2 s.t.ZW y2])/\Hid (Bw N V)/\Hid (Nt V s.t X2 Y2)) (fun key=>_) _
  rotate_left
  ·have C:Hid (Bw N N.drew):=hid br.drew;refine wp_region_held_drew (S:=fun w'=>w'.rangeAt g 2 [sl A.a0 c.ob.Z7 A.k0,sl A.a1 c.ob.Z8 A.k1]/\w'.cell? ⟨(O.add (j*9)).block,(O.add (j*9)).off+2,none⟩=some (sT q.Z9)/\w'.cell? ⟨(O.add (j*9)).block,(O.add (j*9)).off+3,none⟩=some (sT q.ZZ)) (by kernel_rfl) (ab.o _ C.out) (fun d=> ?_)
   (try simp only [pp]);refine tk 0 103 d ?_;refine tv 1 104 rfl d (yieldsIf_load_mid (by rfl) _ _ rfl (g) 2 rfl [sl A.a0 c.ob.Z7 A.k0,sl A.a1 c.ob.Z8 A.k1] _ (fun _ h=>h.1) underlying26 rfl c5.o) ?_
   (try simp only [pp]);refine tk 2 105 d ?_;refine tk 3 106 d ?_;refine tk 4 107 d ?_;refine tk 5 108 d ?_;refine tk 6 109 d ?_;refine tk 7 110 d ?_;refine tk 8 111 d ?_;refine tk 9 112 d ?_;refine tk 10 113 d ?_;refine tk 11 114 d ?_;refine wpAnyH_ready (rs:= [12,16]) (by kernel_rfl) (by simp) ?_
   refine AllReadyH.cons (o:=⟨some 115,_,_,_,_,_⟩) rfl (fun K E=> ?_) (AllReadyH.cons (o:=⟨some 13,_,_,_,_,_⟩) rfl (fun K E=> ?_) AllReadyH.nil)
   ·go_simp;refine(TL c.ob A.a0 A.k0 A.a1 A.k1 q.Z9 q.ZZ N.drew (ae.o.VE.sc.later C.out) (ae.o.VE.tb.later C.out) ah.o.1).mono ?_
    rintro e I ⟨t',X2,x2,Y2,y2,e2,rfl,aR,hb,-,-,bn⟩;have aj:=bt C hb;rw [bJ.o] at aR;subst aR;obtain⟨⟨i2,aS,h1,h3⟩,ao⟩:=bn rfl;have b8:=bZ.o i2 aS t' h1 h3;subst b8;have HN:Hid (Nt _ s.t X2 Y2):=hid ⟨ao.NF.1,ao.NF.2⟩;clear bn ao h1 h3 aS i2;unfold Tb.cs;clear hb C;have C:=aj;clear aj;refine E.out _ _ (ab.o _ (C.out)) (fun d=> ?_);clear E K;(try simp only [pp])
    refine tk 13 102 d ?_;refine tk 14 116 d ?_;refine tk 15 117 d ?_;refine on 16 13 fun K E=> ?_
    go_simp;have ac:Hid (Below N.heap.size N (I.alloc (.cells #[s0,s0,s0,sN,sN] 73))):=hid (C.out.alloc C.out.size _);have M:Hid (ZP (I.alloc (.cells #[s0,s0,s0,sN,sN] 73)) I.heap.size 73 [s0,s0,s0,sN,sN]):=hid (ZP.new I _ _);have aH:Hid (N.heap.size<=I.heap.size):=hid C.out.size;have bm:Below I.heap.size I (I.alloc (.cells #[s0,s0,s0,sN,sN] 73)):=br.alloc lr _;have cx:=hid (HN.o.later bm);clear HN;have HN:=cx;clear cx;clear bm C;generalize I.alloc (.cells #[s0,s0,s0,sN,sN] 73)=VA at*;generalize I.heap.size=p at*;have C:=ac;clear ac;refine E.out _ _ (ab.o _ (C.out)) (fun d=> ?_);clear E K;(try simp only [pp])
    refine SR 17 fun K E=> ?_
    refine Zk rfl 73 _ _ rfl p [sT s.t.Z9,sT s.t.name,sT s.t.ZN,sl X2 s.t.Z3 x2,sl Y2 s.t.ZW y2] rfl rfl M rfl rfl bN (by simp [Value.oneCell']) ?_
    intro w9 U;have T:Hid (Bw N w9):=hid (U.o.below C.out aH.o);have bT:=hid (HN.o.keeps U.o.keeps (by decide));refine E.out _ _ (ab.o _ (T.o)) (fun d=> ?_);clear E K;(try simp only [pp])
    refine tk 18 14 d ?_;refine wpAnyH_done (by kernel_rfl) ?_ _
    exact key p X2 x2 Y2 y2 w9 ⟨hid U.o.YK,T,bT⟩
   ·go_simp;have ac:Hid (Below N.heap.size N (N.alloc (.cells #[s0,s0,s0,sN,sN] 73)).drew):=hid (br.alloc lr _).drew;have aX:Hid (ZP (N.alloc (.cells #[s0,s0,s0,sN,sN] 73)).drew N.heap.size 73 [s0,s0,s0,sN,sN]):=hid (ZP.new N _ _).drew;obtain⟨p,hp⟩: ∃ p,p=N.heap.size:=⟨_,rfl⟩
    have aH:Hid (N.heap.size<=p):=hid (by rw [hp];exact Nat.le_refl _);have M:Hid (ZP (N.alloc (.cells #[s0,s0,s0,sN,sN] 73)).drew p 73 [s0,s0,s0,sN,sN]):=hid (by rw [hp];exact aX.out);generalize hVA:(N.alloc (.cells #[s0,s0,s0,sN,sN] 73)).drew=VA at*;rw [<-hp];clear aX hp hVA C;have C:=ac;clear ac;refine E.out _ _ (ab.o _ (C.out)) (fun d=> ?_);clear E K;(try simp only [pp])
    refine on 12 115 fun K E=> ?_
    go_simp;refine(TL c.ob A.a0 A.k0 A.a1 A.k1 q.Z9 q.ZZ VA (ae.o.VE.sc.later C.out) (ae.o.VE.tb.later C.out) ah.o.1).mono ?_
    rintro e I ⟨t',X2,x2,Y2,y2,e2,rfl,aR,hb,-,-,bn⟩;have aW:=bl M hb;clear M;have M:=aW;clear aW;have aj:=bt C hb;rw [bJ.o] at aR;subst aR;obtain⟨⟨i2,aS,h1,h3⟩,ao⟩:=bn rfl;have b8:=bZ.o i2 aS t' h1 h3;subst b8;have HN:Hid (Nt _ s.t X2 Y2):=hid ⟨ao.NF.1,ao.NF.2⟩;clear bn ao h1 h3 aS i2;unfold Tb.cs;clear hb C;have C:=aj;clear aj;refine E.out _ _ (ab.o _ (C.out)) (fun d=> ?_);clear E K;(try simp only [pp])
    refine tk 13 102 d ?_;refine tk 14 116 d ?_;refine tk 15 117 d ?_;refine SR 17 fun K E=> ?_
    refine Zk rfl 73 _ _ rfl p [sT s.t.Z9,sT s.t.name,sT s.t.ZN,sl X2 s.t.Z3 x2,sl Y2 s.t.ZW y2] rfl rfl M rfl rfl bN (by simp [Value.oneCell']) ?_
    intro w9 U;have T:Hid (Bw N w9):=hid (U.o.below C.out aH.o);have bT:=hid (HN.o.keeps U.o.keeps (by decide));refine E.out _ _ (ab.o _ (T.o)) (fun d=> ?_);clear E K;(try simp only [pp])
    refine tk 18 14 d ?_;refine wpAnyH_done (by kernel_rfl) ?_ _
    exact key p X2 x2 Y2 y2 w9 ⟨hid U.o.YK,T,bT⟩
  ·rintro p X2 x2 Y2 y2 V3 ⟨N3,ay,cy⟩;have aF:=bt ak ay.o;have bh:=hid (ae.o.later ay.o);have G3:=bl G2 ay.o;have ba:=hid (aI.o.later ay.o);clear ab ay ak ae G2 aI bJ bZ;go_wp2_with (first | (with_reducible refine ZK rfl 66 _ rfl (O.add (j*9)) rfl [i6 q.ZV,sT q.ZQ,sT q.Z9,sT q.ZZ,sl QA q.row qn,sT q.WB,i6 q.val.ZV,i6 q.val.num,sT q.val.word] _ (bL.o V3 aF.o) underlying66 rfl bS.o ?_) | fail);refine(MA w.heap.size gs bq q QA qn V3 ba.o aY.o).mono ?_
   rintro e V4 ⟨B4,k4,c4,rfl,aK,-,cX⟩;obtain⟨bp,b9,aT,cJ,cK⟩:=cX s' cp.o;have aa:Hid (Bw w V4):=hid (aF.o.trans aK.bw);have av:=hid (bh.o.keeps aK.kp (by decide));have G4:=hid (G3.o.keeps aK.kp (by decide));have N4:=hid (N3.o.keeps aK.kp (by decide));have cz:=hid (cy.o.keeps aK.kp (by decide));have ar:=hid aK.st;have bO:Hid (k4=s'.rs.length):=hid (by
    rw [b9];have:=congrArg List.length aT;simpa using this)
   have cw:=hid aT;have cA:=hid cJ;have cH:=hid cK;have cv:=hid b9;clear b9 aT cJ cK;have q0:V4.cell? (O.add (j*9))=some (i6 q.ZV):=e0 (aM.o V4 aa.o);clear aK cX aF bh G3 N3 cy ba cp;rcases bu.o with ⟨g1,g2,g3,g4⟩ | ⟨g1,g2⟩ | ⟨g1,g2,g3,g4⟩
   ·rw [g1] at q0;have cS:k4=k1+1:=by
     have:=congrArg List.length g4;simp at this;have:=aA.o;have:=bO.o;omega
    have ax:k1<bp.length:=by
     have:=cv.o;omega
    have aT:=cw.o;have di:k1<=64:=by
     have:=aA.o;omega
    have c0:=hid g3;have cg:bp[k1].1=q.row:=by
     have h1:(bp.map (·.1))[k1]'(by simpa using ax)=(s.rs.map (·.1) ++ [q.row])[k1]'(by have:=aA.o;simp;omega):=by simp only [aT,g4]
     rw [List.getElem_map] at h1;rw [h1,List.getElem_append_right (by have:=aA.o;simp;omega)]
     simp [aA.o]
    obtain⟨rd,rfl,cV,aE⟩:=cA.o (by omega);have cN:=aE (k1*1+0) _ (by rw [Zl X3.k bp k1 0 ax (by decide)];rfl)
    rw [Nat.mul_one,Nat.add_zero] at cN;have c7:=hid (cH.o _ (List.getElem_mem ax));clear aE aT g1 g2 g3 g4 bu cw cA cH cv;generalize bp[k1]=r4 at*;obtain⟨du,ch,ci⟩:=r4;dsimp only at*;subst cg;have cf:rd.block<V4.heap.size:=cV;have cU:((k4:Int) !=(k1:Int)+1)=false:=by rw [cS];simp
    have dt:IntKind.i64.wrap ((k1:Int)+1)=(k1:Int)+1:=by
     simp [IntKind.wrap,IntKind.bits,IntKind.signed];omega
    have dr:(k1:Int)< (k4:Int):=by omega
    have dh:(0:Int)<=(k1:Int):=by omega
    clear cV cS ax;go_upto_region 32 with fail
    have aq:Hid (∀ V,Bw V4 V->(fun V=>Bw V4 V/\V.rangeAt p 0 [sT s.t.Z9,sT s.t.name,sT s.t.ZN,sl X2 s.t.Z3 x2,sl Y2 s.t.ZW y2]/\V.cell? ⟨(O.add (j*9)).block,(O.add (j*9)).off+4,none⟩=some (sl QA q.row qn)/\V.cell? (rd.add k1)=some (sl ch q.row ci)) V):=hid fun V h=>⟨h,(N4.o.below h N4.o.lt).Yz,ef (aM.o V (aa.o.trans (h.mono aa.o.size))) 4,(h.cell (by rw [ZL];exact cf)).trans cN⟩
    refine wp_region_held_drew (S:=fun V=>Bw V4 V/\V.rangeAt p 0 [sT s.t.Z9,sT s.t.name,sT s.t.ZN,sl X2 s.t.Z3 x2,sl Y2 s.t.ZW y2]/\V.cell? ⟨(O.add (j*9)).block,(O.add (j*9)).off+4,none⟩=some (sl QA q.row qn)/\V.cell? (rd.add k1)=some (sl ch q.row ci)) (by kernel_rfl) (aq.o _ br.drew) (fun d=> ?_)
    (try simp only [pp]);refine tv 0 143 rfl d (yieldsIf_load_mid (by rfl) _ _ rfl (p) 0 rfl [sT s.t.Z9,sT s.t.name,sT s.t.ZN,sl X2 s.t.Z3 x2,sl Y2 s.t.ZW y2] _ (fun _ h=>h.2.1) underlying73 rfl bN.o) ?_
    refine tk 1 144 d ?_;refine tk 2 145 d ?_;refine tk 3 146 d ?_;refine tk 4 147 d ?_;refine tk 5 148 d ?_;refine on 6 149 fun K E=> ?_
    go_simp;have hF:=Jz s.t X2 x2 Y2 y2 q.row QA qn V4.drew ((cz.o.cl.XJ).later d.1) ((cz.o.ru.XJ).later d.1) ((Sb (bC.o V4 aa.o) aa.o.size).later d.1) c8.o;rw [c0.o] at hF;refine hF.mono ?_
    rintro e V5 ⟨rfl,hb⟩;have aP:=d.1.trans (hb.mono d.1.size);refine E.out _ _ (aq.o _ aP) (fun d=> ?_);clear E K hF hb;(try simp only [pp])
    refine tb 7 150 (.bool false) d ?_;refine tk 8 151 d ?_;refine tk 9 152 d ?_;refine tk 10 153 d ?_;refine tk 11 154 d ?_;refine tb 12 155 (.int .i64 ((k1:Int)+1)) d ?_;refine tb 13 156 (.bool false) d ?_;refine tk 14 157 d ?_;refine tk 15 158 d ?_;refine tk 16 159 d ?_;refine tk 17 160 d ?_;refine tk 18 161 d ?_;refine tk 19 162 d ?_;refine tk 20 163 d ?_;refine tk 21 164 d ?_;refine tk 22 165 d ?_;refine tk 23 166 d ?_;refine tk 24 167 d ?_;refine on 25 168 fun K E=> ?_
    go_simp;have b4:=JV q.row q.row ch ci QA qn V5 (c7.o.later aP) ((Sb (bC.o V4 aa.o) aa.o.size).later aP) c6.o;rw [show (q.row == q.row)=true by simp] at b4;refine b4.mono ?_
    rintro e V6 ⟨rfl,hb⟩;have aQ:=aP.trans (hb.mono aP.size);refine E.out _ _ (aq.o _ aQ) (fun d=> ?_);clear E K b4 hb aP;(try simp only [pp])
    refine tk 26 169 d ?_;refine tk 27 170 d ?_;refine wpAnyH_done (by kernel_rfl) ?_ _
    have bY:=hid (av.o.later aQ);have G6:=bl G4 aQ;have bV:=hid (ar.o.later aQ);have bG:=bt aa aQ;clear d aq av G4 ar aa aQ;go_wp2;go_roundw
    case rel=>exact⟨j+1,c,A,bq,by omega,by go_num,bY,ah,ai,G6,bV,aY,au,bG⟩
    case measure=>simp [intOf];omega
   ·rw [g1] at q0;have aL:=aA.o;have ca:=bO.o;have di:k1<=64:=by omega
    have dj:k2<=64:=by omega
    have cU:((k4:Int) !=(k1:Int) - (k2:Int))=false:=by
     rw [show (k4:Int)=(k1:Int) - (k2:Int) by omega];simp
    clear aL ca g1 g2 bu;go_wp2;go_roundw
    case rel=>exact⟨j+1,c,A,bq,by omega,by go_num,av,ah,ai,G4,ar,aY,au,aa⟩
    case measure=>simp [intOf];omega
   ·have j1:(q.ZV == 1)=false:=by simpa using g1
    have j2:(q.ZV == 2)=false:=by simpa using g2
    have cR:k4=k1:=by rw [bO.o,g3,aA.o]
    have aL:=aA.o;have cU:((k4:Int) !=(k1:Int))=false:=by rw [cR];simp
    have dq: ¬ (k2:Int) >(k1:Int):=by omega
    have df: ¬ (k1:Int)< (k2:Int):=by omega
    clear aL cR g1 g2 g3 g4 bu;go_wp2;go_roundw
    case rel=>exact⟨j+1,c,A,bq,by omega,by go_num,av,ah,ai,G4,ar,aY,au,aa⟩
    case measure=>simp [intOf];omega
end Go.Proofs.YtnhmoibjlakhjaaGreat
