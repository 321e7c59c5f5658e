/- Lemmas, each under its own conditions. -/
import Derived.Test.YtnhmoibjlakhjaaGreatW45
import Derived.Test.YtnhmoibjlakhjaaGreatW46
set_option linter.all false
namespace Go.Proofs.YtnhmoibjlakhjaaGreat
open Go.Proofs.Tryz
open Lib (hid)
set_option maxRecDepth 100000
set_option maxHeartbeats 16000000
open Go.RowKit
theorem JU (c:Ca)(A:Wd)(x:Cm)(X:oA)(k:Nat)(Y:oA)(n:Nat)(g:Nat)(w:World)(hP:ZP w g 33 (c.cs A))(hT:Ta w c A)(ht:c.Zo 1099511627776):
  cQ 81 #[pT g,.agg (x.cs X k Y n).toArray] w (Iq g w (Gb c x)):=by
 have HT:=hid hT;have aj:=hid ht;have ah:=iN 26 2;have au:=iN 30 2;have ay:=iN 33 7;have az:=hP.lt;have D:Hid (Below w.heap.size w (w.alloc (.cells (zX x X k Y n).toArray 43))):=hid (br.alloc lr _);have m:Hid (ZP (w.alloc (.cells (zX x X k Y n).toArray 43)) g 33 (zC c A)):=hid (hP.alloc _);have h:Hid (ZP (w.alloc (.cells (zX x X k Y n).toArray 43)) w.heap.size 43 (zX x X k Y n)):=hid (ZP.new w _ _);clear hT ht hP;unfold Cm.cs;go_enter func81,ntmps81
 have ax:=aj.o.2.1.1;have HC:Hid (∀ W,Below (w.alloc (.cells (zX x X k Y n).toArray 43)).heap.size (w.alloc (.cells (zX x X k Y n).toArray 43)) W->cQ 30 #[sl A.a2 c.ro.ZU A.k2,sT x.ZQ] W fun e w'=>e= .returned (.bool (c.ro.ZU.contains x.ZQ))/\w'=W):=hid (fun W hW=>Zf c.ro.ZU A.a2 A.k2 x.ZQ W ((HT.o.later D.o).later hW).VE.nm ax);have av:Hid (c.ro.ZU.contains x.ZQ=c.ro.ZU.contains x.ZQ):=hid rfl;go_wp2_with fail;generalize (w.alloc (.cells (zX x X k Y n).toArray 43))=W0 at*;obtain⟨b,hb⟩: ∃ b,b=c.ro.ZU.contains x.ZQ:=⟨_,rfl⟩
 rw [<-hb] at HC;have ag:=hid hb;clear hb av
 cases b
 ·refine wp_region_held_drew (S:=fun w'=>w'.cell? (aD g 4)=some (sl A.a2 c.ro.ZU A.k2)/\w'.cell? (aN w 5)=some (sT x.ZQ)) (by kernel_rfl) (⟨cb m ((Below.refl W0.heap.size W0).drew) 4,cb h ((Below.refl W0.heap.size W0).drew) 5⟩) (fun d=> ?_)
  (try simp only [pp]);refine tk 0 6 d ?_;refine tk 1 7 d ?_;refine tk 2 8 d ?_;refine tk 3 9 d ?_;refine tk 4 10 d ?_;refine tk 5 11 d ?_;refine tk 6 12 d ?_;refine on 7 13 fun K s=> ?_
  go_simp;refine(HC.o W0.drew br.drew).mono ?_
  rintro e w' ⟨rfl,rfl⟩;refine s.out _ _ ⟨cb m ((Below.refl W0.heap.size W0).drew) 4,cb h ((Below.refl W0.heap.size W0).drew) 5⟩ (fun d=> ?_);clear s K;(try simp only [pp])
  refine on 8 14 fun K s=> ?_
  go_simp;refine(Ym false 71 W0.drew).mono ?_
  rintro e Z ⟨rfl,rfl⟩;exact⟨rfl,(D.o.drew).x _,Or.inr ⟨71,c,by decide,rfl,Or.inl ⟨rfl,ag.o.symm⟩,_,m.o.drew,rfl⟩⟩
 refine wp_region_held_drew (S:=fun w'=>w'.cell? (aD g 4)=some (sl A.a2 c.ro.ZU A.k2)/\w'.cell? (aN w 5)=some (sT x.ZQ)) (by kernel_rfl) (⟨cb m ((Below.refl W0.heap.size W0).drew) 4,cb h ((Below.refl W0.heap.size W0).drew) 5⟩) (fun d=> ?_)
 (try simp only [pp]);refine tk 0 6 d ?_;refine tk 1 7 d ?_;refine tk 2 8 d ?_;refine tk 3 9 d ?_;refine tk 4 10 d ?_;refine tk 5 11 d ?_;refine tk 6 12 d ?_;refine on 7 13 fun K s=> ?_
 go_simp;refine(HC.o W0.drew br.drew).mono ?_
 rintro e w' ⟨rfl,rfl⟩;refine s.out _ _ ⟨cb m ((Below.refl W0.heap.size W0).drew) 4,cb h ((Below.refl W0.heap.size W0).drew) 5⟩ (fun d=> ?_);clear s K;(try simp only [pp])
 refine on 8 14 fun K s=> ?_
 go_simp;refine(Ym true 71 W0.drew).mono ?_
 rintro e Z ⟨rfl,rfl⟩;refine s.out _ _ ⟨cb m ((Below.refl W0.heap.size W0).drew) 4,cb h ((Below.refl W0.heap.size W0).drew) 5⟩ (fun d=> ?_);clear s K;(try simp only [pp])
 refine wpAnyH_done (by kernel_rfl) ?_ _
 clear d;have P1:=hid m.o.drew;have X1:=hid h.o.drew;have ae:=hid D.o.drew;have ai:Hid (ae=ae):=hid rfl;clear ai m h D HC;generalize W0.drew=W1 at*;have m:=P1;have h:=X1;have D:=ae;clear P1 X1 ae;go_wp2_with fail;refine' Ev (F:=fun p M u E J G L V=>Hid (ZP V p 26 [sl E u.Z7 J,sl G u.Z8 L])/\Hid (Bw W1 V)/\Hid (W1.heap.size<=p)/\Hid (Nv V u E G)/\Hid (MM c.ob (Ea c.ob x.Z9 x.ZZ x.ZQ) M u)) (fun key=>_) _
 rotate_left
 ·refine wp_region_held_drew (S:=fun w'=>w'.cell? (aD g 2)=some (sl A.a0 c.ob.Z7 A.k0)/\w'.cell? (aD g 3)=some (sl A.a1 c.ob.Z8 A.k1)/\w'.cell? (aN w 2)=some (sT x.Z9)/\w'.cell? (aN w 3)=some (sT x.ZZ)/\w'.cell? (aN w 5)=some (sT x.ZQ)) (by kernel_rfl) ⟨cb m ((Below.refl W1.heap.size W1).drew) 2,cb m ((Below.refl W1.heap.size W1).drew) 3,cb h ((Below.refl W1.heap.size W1).drew) 2,cb h ((Below.refl W1.heap.size W1).drew) 3,cb h ((Below.refl W1.heap.size W1).drew) 5⟩ (fun d=> ?_)
  (try simp only [pp]);refine tk 0 16 d ?_;refine tk 1 17 d ?_;refine tk 2 18 d ?_;refine tk 3 19 d ?_;refine tk 4 20 d ?_;refine tk 5 21 d ?_;refine tk 6 22 d ?_;refine tk 7 23 d ?_;refine tk 8 24 d ?_;refine tk 9 25 d ?_;refine wpAnyH_ready (rs:= [10,14]) (by kernel_rfl) (by simp) ?_
  refine AllReadyH.cons (o:=⟨some 26,_,_,_,_,_⟩) rfl (fun K s=> ?_) (AllReadyH.cons (o:=⟨some 4,_,_,_,_,_⟩) rfl (fun K s=> ?_) AllReadyH.nil)
  ·go_simp;refine(RD c.ob A.a0 A.k0 A.a1 A.k1 x.Z9 x.ZZ x.ZQ W1.drew ⟨((HT.o.later D.o).later ((Below.refl W1.heap.size W1).drew)).VE.sc,((HT.o.later D.o).later ((Below.refl W1.heap.size W1).drew)).VE.tb⟩ aj.o.1).mono ?_
   rintro e I ⟨M,u,E,J,G,L,rfl,hR,ad,hb⟩;have j:Hid (Bw W1 I):=hid ((Below.refl W1.heap.size W1).drew.trans hb);have HR:=hid hR;have N:=hid ad;clear hb hR ad;refine s.out _ _ ⟨((j.o).cell (p:=(aD g 2)) m.o.lt).trans (m.o.cell 2),((j.o).cell (p:=(aD g 3)) m.o.lt).trans (m.o.cell 3),((j.o).cell (p:=(aN w 2)) h.o.lt).trans (h.o.cell 2),((j.o).cell (p:=(aN w 3)) h.o.lt).trans (h.o.cell 3),((j.o).cell (p:=(aN w 5)) h.o.lt).trans (h.o.cell 5)⟩ (fun d=> ?_);clear s K;(try simp only [pp])
   refine tk 11 15 d ?_;refine tk 12 27 d ?_;refine tk 13 28 d ?_;refine on 14 4 fun K s=> ?_
   go_simp;have am:Hid (Below W1.heap.size W1 (I.alloc (.cells #[sN,sN] 26))):=hid (j.o.alloc j.o.size _);have O:Hid (ZP (I.alloc (.cells #[sN,sN] 26)) I.heap.size 26 [sN,sN]):=hid (ZP.new I _ _);have ab:Hid (W1.heap.size<=I.heap.size):=hid j.o.size;have ac:=hid (N.o.keeps (ZS.Nn (w:=I) (.cells #[sN,sN] 26)) (by simp));clear j N;generalize I.alloc (.cells #[sN,sN] 26)=V2 at*;generalize I.heap.size=p at*;have j:=am;have N:=ac;clear am ac;refine s.out _ _ ⟨((j.o).cell (p:=(aD g 2)) m.o.lt).trans (m.o.cell 2),((j.o).cell (p:=(aD g 3)) m.o.lt).trans (m.o.cell 3),((j.o).cell (p:=(aN w 2)) h.o.lt).trans (h.o.cell 2),((j.o).cell (p:=(aN w 3)) h.o.lt).trans (h.o.cell 3),((j.o).cell (p:=(aN w 5)) h.o.lt).trans (h.o.cell 5)⟩ (fun d=> ?_);clear s K;(try simp only [pp])
   refine SR 15 fun K s=> ?_
   refine Zk rfl 26 _ _ rfl p [sl E u.Z7 J,sl G u.Z8 L] rfl rfl O rfl rfl ah (by simp [Value.oneCell']) ?_
   intro Z U;have C:Hid (Bw W1 Z):=hid (U.o.below j.o ab.o);have aa:=hid (N.o.keeps U.o.keeps (by decide));refine s.out _ _ ⟨cb m (C.o) 2,cb m (C.o) 3,cb h (C.o) 2,cb h (C.o) 3,cb h (C.o) 5⟩ (fun d=> ?_);clear s K;(try simp only [pp])
   refine tk 16 5 d ?_;refine wpAnyH_done (by kernel_rfl) ?_ _
   exact key p M u E J G L Z ⟨hid U.o.YK,C,ab,aa,HR⟩
  ·go_simp;have j:Hid (Below W1.heap.size W1 (W1.alloc (.cells #[sN,sN] 26)).drew):=hid (br.alloc lr _).drew;have O:Hid (ZP (W1.alloc (.cells #[sN,sN] 26)).drew W1.heap.size 26 [sN,sN]):=hid (ZP.new W1 _ _).drew;obtain⟨p,hp⟩: ∃ p,p=W1.heap.size:=⟨_,rfl⟩
   have ab:Hid (W1.heap.size<=p):=hid (by rw [hp];exact Nat.le_refl _);have ao:Hid (ZP (W1.alloc (.cells #[sN,sN] 26)).drew p 26 [sN,sN]):=hid (by rw [hp];exact O.o);generalize hV0:(W1.alloc (.cells #[sN,sN] 26)).drew=V0 at*;rw [<-hp];clear O hp hV0;refine s.out _ _ ⟨((j.o).cell (p:=(aD g 2)) m.o.lt).trans (m.o.cell 2),((j.o).cell (p:=(aD g 3)) m.o.lt).trans (m.o.cell 3),((j.o).cell (p:=(aN w 2)) h.o.lt).trans (h.o.cell 2),((j.o).cell (p:=(aN w 3)) h.o.lt).trans (h.o.cell 3),((j.o).cell (p:=(aN w 5)) h.o.lt).trans (h.o.cell 5)⟩ (fun d=> ?_);clear s K;(try simp only [pp])
   refine on 10 26 fun K s=> ?_
   go_simp;refine(RD c.ob A.a0 A.k0 A.a1 A.k1 x.Z9 x.ZZ x.ZQ V0 ⟨((HT.o.later D.o).later (j.o)).VE.sc,((HT.o.later D.o).later (j.o)).VE.tb⟩ aj.o.1).mono ?_
   rintro e I ⟨M,u,E,J,G,L,rfl,hR,ad,hb⟩;have O:=bl ao hb;replace j:Hid (Bw W1 I):=hid (j.o.trans (hb.mono j.o.size));have HR:=hid hR;have N:=hid ad;clear hb ao hR ad;refine s.out _ _ ⟨((j.o).cell (p:=(aD g 2)) m.o.lt).trans (m.o.cell 2),((j.o).cell (p:=(aD g 3)) m.o.lt).trans (m.o.cell 3),((j.o).cell (p:=(aN w 2)) h.o.lt).trans (h.o.cell 2),((j.o).cell (p:=(aN w 3)) h.o.lt).trans (h.o.cell 3),((j.o).cell (p:=(aN w 5)) h.o.lt).trans (h.o.cell 5)⟩ (fun d=> ?_);clear s K;(try simp only [pp])
   refine tk 11 15 d ?_;refine tk 12 27 d ?_;refine tk 13 28 d ?_;refine SR 15 fun K s=> ?_
   refine Zk rfl 26 _ _ rfl p [sl E u.Z7 J,sl G u.Z8 L] rfl rfl O rfl rfl ah (by simp [Value.oneCell']) ?_
   intro Z U;have C:Hid (Bw W1 Z):=hid (U.o.below j.o ab.o);have aa:=hid (N.o.keeps U.o.keeps (by decide));refine s.out _ _ ⟨cb m (C.o) 2,cb m (C.o) 3,cb h (C.o) 2,cb h (C.o) 3,cb h (C.o) 5⟩ (fun d=> ?_);clear s K;(try simp only [pp])
   refine tk 16 5 d ?_;refine wpAnyH_done (by kernel_rfl) ?_ _
   exact key p M u E J G L Z ⟨hid U.o.YK,C,ab,aa,HR⟩
 ·rintro p M u E J G L V ⟨O,af,ab,N,HR⟩;have T:=bl m af.o;have XV:=bl h af.o;have an:=bt D af.o;have aw:=hid ((HT.o.later D.o).later af.o);have aA:=D.o.size;clear m h;by_cases h0:M=0
  case neg=>
   go_wp2_with fail;have cM:=YE M V;rw [if_neg h0] at cM;refine cM.mono ?_
   rintro e V9 ⟨rfl,rfl⟩;go_wp2;exact⟨rfl,an.o.x _,Or.inr ⟨M,⟨c.ZO,c.ZR,u,c.ro,c.Z4⟩,h0,rfl,Or.inr ⟨ag.o.symm,u,HR.o,rfl⟩,_,T.o,rfl⟩⟩
  subst h0;go_wp2_with fail;have cM:=YE 0 V;rw [if_pos rfl] at cM;refine cM.mono ?_
  rintro e V9 ⟨rfl,rfl⟩;clear cM;have e2:=ce T 2;have e3:=ce T 3;have f2:=T.o.frozen 2;have f3:=T.o.frozen 3;have HF:Hid (∀ W,W=(V9.setCell (aD g 2) (sl E u.Z7 J)).setCell (aD g 3) (sl G u.Z8 L)->Iq g w (Gb c x) (.returned (.tuple #[])) W):=hid (by
   rintro W hV;have ap:ZS [33] V9 W:=by rw [hV];exact(ZS.Zx T.o.Xr (by simp) _).trans (ZS.Zx (T.o.Xr.setCell _ _) (by simp) _)
   have P2:ZP W g 33 [i6 c.ZO,i6 c.ZR,sl E u.Z7 J,sl G u.Z8 L,sl A.a2 c.ro.ZU A.k2,sl A.a3 c.ro.ZY A.k3,sl A.a4 c.Z4 A.k4]:=by rw [hV];exact(T.o.Zx 2 _).Zx 3 _
   have ar:Y6 w.heap.size (some g) w W:=by rw [hV];exact((an.o.x (some g)).S6 _).S6 _
   have ak:=aw.o.keeps ap (by decide);have aq:=N.o.keeps ap (by decide);exact⟨ar,Or.inl ⟨⟨c.ZO,c.ZR,u,c.ro,c.Z4⟩,⟨E,J,G,L,A.a2,A.k2,A.a3,A.k3,A.a4,A.k4⟩,rfl,Or.inr ⟨ag.o.symm,u,HR.o,rfl⟩,P2,⟨aq.Dv,aq.Dt,ak.nm,ak.mb,ak.gr⟩⟩⟩)
  go_wp2_with (first | (refine lO O ah underlying26 ?_) | fail);go_end0;exact HF.o _ rfl
theorem E7 (c:Ca)(A:Wd)(x:Cm)(X:oA)(k:Nat)(Y:oA)(n:Nat)(g:Nat)(w:World)(hP:ZP w g 33 (c.cs A))(hT:Ta w c A)(ht:c.Zo 1099511627776):
  cQ 83 #[pT g,.agg (x.cs X k Y n).toArray] w (Iq g w (DR c)):=by
 have HT:=hid hT;have ah:=hid ht;have aj:=iN 26 2;have ai:=iN 30 2;have ae:=iN 33 7;have am:=hP.lt;have T:Hid (Below w.heap.size w (w.alloc (.cells (zX x X k Y n).toArray 43))):=hid (br.alloc lr _);have d:Hid (ZP (w.alloc (.cells (zX x X k Y n).toArray 43)) g 33 (zC c A)):=hid (hP.alloc _);have h:Hid (ZP (w.alloc (.cells (zX x X k Y n).toArray 43)) w.heap.size 43 (zX x X k Y n)):=hid (ZP.new w _ _);clear hT ht hP;unfold Cm.cs;go_enter func83,ntmps83
 go_wp2_with fail;generalize (w.alloc (.cells (zX x X k Y n).toArray 43))=W0 at*;refine' Fa (F:=fun p G u D V=>Hid (ZP V p 33 (u.cs D))/\Hid (Bw W0 V)/\Hid (W0.heap.size<=p)/\Hid (Ta V u D)/\Hid (G=0->u.ZO=c.ZO/\u.ZR=c.ZR/\u.ob=c.ob/\u.ro=c.ro/\u.Z4.length<=c.Z4.length+1)) (fun key=>_) _
 rotate_left
 ·refine wp_region_held_drew (S:=fun w'=>w'.cell? (aD g 0)=some (i6 c.ZO)/\w'.cell? (aD g 1)=some (i6 c.ZR)/\w'.cell? (aD g 2)=some (sl A.a0 c.ob.Z7 A.k0)/\w'.cell? (aD g 3)=some (sl A.a1 c.ob.Z8 A.k1)/\w'.cell? (aD g 4)=some (sl A.a2 c.ro.ZU A.k2)/\w'.cell? (aD g 5)=some (sl A.a3 c.ro.ZY A.k3)/\w'.cell? (aD g 6)=some (sl A.a4 c.Z4 A.k4)/\w'.cell? (aN w 1)=some (sT x.ZH)/\w'.cell? (aN w 2)=some (sT x.Z9)/\w'.cell? (aN w 3)=some (sT x.ZZ)/\w'.cell? (aN w 5)=some (sT x.ZQ)/\w'.cell? (aN w 15)=some (i6 x.right)/\w'.cell? (aN w 16)=some (.bool x.Zq)) (by kernel_rfl) ⟨cb d ((Below.refl W0.heap.size W0).drew) 0,cb d ((Below.refl W0.heap.size W0).drew) 1,cb d ((Below.refl W0.heap.size W0).drew) 2,cb d ((Below.refl W0.heap.size W0).drew) 3,cb d ((Below.refl W0.heap.size W0).drew) 4,cb d ((Below.refl W0.heap.size W0).drew) 5,cb d ((Below.refl W0.heap.size W0).drew) 6,cb h ((Below.refl W0.heap.size W0).drew) 1,cb h ((Below.refl W0.heap.size W0).drew) 2,cb h ((Below.refl W0.heap.size W0).drew) 3,cb h ((Below.refl W0.heap.size W0).drew) 5,cb h ((Below.refl W0.heap.size W0).drew) 15,cb h ((Below.refl W0.heap.size W0).drew) 16⟩ (fun m=> ?_)
  (try simp only [pp]);refine tk 0 7 m ?_;refine tk 1 8 m ?_;refine tk 2 9 m ?_;refine tk 3 10 m ?_;refine tk 4 11 m ?_;refine tk 5 12 m ?_;refine tk 6 13 m ?_;refine tk 7 14 m ?_;refine tk 8 15 m ?_;refine tk 9 16 m ?_;refine tk 10 17 m ?_;refine tk 11 18 m ?_;refine tk 12 19 m ?_;refine tk 13 20 m ?_;refine tk 14 21 m ?_;refine tk 15 22 m ?_;refine wpAnyH_ready (rs:= [16,20]) (by kernel_rfl) (by simp) ?_
  refine AllReadyH.cons (o:=⟨some 23,_,_,_,_,_⟩) rfl (fun K C=> ?_) (AllReadyH.cons (o:=⟨some 4,_,_,_,_,_⟩) rfl (fun K C=> ?_) AllReadyH.nil)
  ·go_simp;refine(LT c A ⟨x.Z9,x.ZZ,x.right,x.ZH,x.ZQ,x.Zq⟩ W0.drew ((HT.o.later T.o).later ((Below.refl W0.heap.size W0).drew)).VE ah.o).mono ?_
   rintro e E ⟨u,D,G,rfl,ac,hb,hf⟩;have j:Hid (Bw W0 E):=hid ((Below.refl W0.heap.size W0).drew.trans hb);have I:=hid ac;have Z:=hid hf;clear hb ac hf;refine C.out _ _ ⟨((j.o).cell (p:=(aD g 0)) d.o.lt).trans (d.o.cell 0),((j.o).cell (p:=(aD g 1)) d.o.lt).trans (d.o.cell 1),((j.o).cell (p:=(aD g 2)) d.o.lt).trans (d.o.cell 2),((j.o).cell (p:=(aD g 3)) d.o.lt).trans (d.o.cell 3),((j.o).cell (p:=(aD g 4)) d.o.lt).trans (d.o.cell 4),((j.o).cell (p:=(aD g 5)) d.o.lt).trans (d.o.cell 5),((j.o).cell (p:=(aD g 6)) d.o.lt).trans (d.o.cell 6),((j.o).cell (p:=(aN w 1)) h.o.lt).trans (h.o.cell 1),((j.o).cell (p:=(aN w 2)) h.o.lt).trans (h.o.cell 2),((j.o).cell (p:=(aN w 3)) h.o.lt).trans (h.o.cell 3),((j.o).cell (p:=(aN w 5)) h.o.lt).trans (h.o.cell 5),((j.o).cell (p:=(aN w 15)) h.o.lt).trans (h.o.cell 15),((j.o).cell (p:=(aN w 16)) h.o.lt).trans (h.o.cell 16)⟩ (fun m=> ?_);clear C K;(try simp only [pp])
   refine tk 17 6 m ?_;refine tk 18 24 m ?_;refine tk 19 25 m ?_;refine on 20 4 fun K C=> ?_
   go_simp;have af:Hid (Below W0.heap.size W0 (E.alloc (.cells #[i6 0,i6 0,sN,sN,sN,sN,sN] 33))):=hid (j.o.alloc j.o.size _);have J:Hid (ZP (E.alloc (.cells #[i6 0,i6 0,sN,sN,sN,sN,sN] 33)) E.heap.size 33 [i6 0,i6 0,sN,sN,sN,sN,sN]):=hid (ZP.new E _ _);have N:Hid (W0.heap.size<=E.heap.size):=hid j.o.size;have ab:=hid (I.o.keeps (ZS.Nn (w:=E) (.cells #[i6 0,i6 0,sN,sN,sN,sN,sN] 33)) (by simp));clear j I;generalize E.alloc (.cells #[i6 0,i6 0,sN,sN,sN,sN,sN] 33)=V2 at*;generalize E.heap.size=p at*;have j:=af;have I:=ab;clear af ab;refine C.out _ _ ⟨((j.o).cell (p:=(aD g 0)) d.o.lt).trans (d.o.cell 0),((j.o).cell (p:=(aD g 1)) d.o.lt).trans (d.o.cell 1),((j.o).cell (p:=(aD g 2)) d.o.lt).trans (d.o.cell 2),((j.o).cell (p:=(aD g 3)) d.o.lt).trans (d.o.cell 3),((j.o).cell (p:=(aD g 4)) d.o.lt).trans (d.o.cell 4),((j.o).cell (p:=(aD g 5)) d.o.lt).trans (d.o.cell 5),((j.o).cell (p:=(aD g 6)) d.o.lt).trans (d.o.cell 6),((j.o).cell (p:=(aN w 1)) h.o.lt).trans (h.o.cell 1),((j.o).cell (p:=(aN w 2)) h.o.lt).trans (h.o.cell 2),((j.o).cell (p:=(aN w 3)) h.o.lt).trans (h.o.cell 3),((j.o).cell (p:=(aN w 5)) h.o.lt).trans (h.o.cell 5),((j.o).cell (p:=(aN w 15)) h.o.lt).trans (h.o.cell 15),((j.o).cell (p:=(aN w 16)) h.o.lt).trans (h.o.cell 16)⟩ (fun m=> ?_);clear C K;(try simp only [pp])
   refine SR 21 fun K C=> ?_
   refine Zk rfl 33 _ _ rfl p (u.cs D) rfl rfl J rfl rfl ae (by simp [Ca.cs,Value.oneCell']) ?_
   intro L U;have s:Hid (Bw W0 L):=hid (U.o.below j.o N.o);have aa:=hid (I.o.keeps U.o.keeps (by decide));refine C.out _ _ ⟨cb d (s.o) 0,cb d (s.o) 1,cb d (s.o) 2,cb d (s.o) 3,cb d (s.o) 4,cb d (s.o) 5,cb d (s.o) 6,cb h (s.o) 1,cb h (s.o) 2,cb h (s.o) 3,cb h (s.o) 5,cb h (s.o) 15,cb h (s.o) 16⟩ (fun m=> ?_);clear C K;(try simp only [pp])
   refine tk 22 5 m ?_;refine wpAnyH_done (by kernel_rfl) ?_ _
   exact key p G u D L ⟨hid U.o.YK,s,N,aa,Z⟩
  ·go_simp;have j:Hid (Below W0.heap.size W0 (W0.alloc (.cells #[i6 0,i6 0,sN,sN,sN,sN,sN] 33)).drew):=hid (br.alloc lr _).drew;have J:Hid (ZP (W0.alloc (.cells #[i6 0,i6 0,sN,sN,sN,sN,sN] 33)).drew W0.heap.size 33 [i6 0,i6 0,sN,sN,sN,sN,sN]):=hid (ZP.new W0 _ _).drew;obtain⟨p,hp⟩: ∃ p,p=W0.heap.size:=⟨_,rfl⟩
   have N:Hid (W0.heap.size<=p):=hid (by rw [hp];exact Nat.le_refl _);have ag:Hid (ZP (W0.alloc (.cells #[i6 0,i6 0,sN,sN,sN,sN,sN] 33)).drew p 33 [i6 0,i6 0,sN,sN,sN,sN,sN]):=hid (by rw [hp];exact J.o);generalize hV0:(W0.alloc (.cells #[i6 0,i6 0,sN,sN,sN,sN,sN] 33)).drew=V0 at*;rw [<-hp];clear J hp hV0;refine C.out _ _ ⟨((j.o).cell (p:=(aD g 0)) d.o.lt).trans (d.o.cell 0),((j.o).cell (p:=(aD g 1)) d.o.lt).trans (d.o.cell 1),((j.o).cell (p:=(aD g 2)) d.o.lt).trans (d.o.cell 2),((j.o).cell (p:=(aD g 3)) d.o.lt).trans (d.o.cell 3),((j.o).cell (p:=(aD g 4)) d.o.lt).trans (d.o.cell 4),((j.o).cell (p:=(aD g 5)) d.o.lt).trans (d.o.cell 5),((j.o).cell (p:=(aD g 6)) d.o.lt).trans (d.o.cell 6),((j.o).cell (p:=(aN w 1)) h.o.lt).trans (h.o.cell 1),((j.o).cell (p:=(aN w 2)) h.o.lt).trans (h.o.cell 2),((j.o).cell (p:=(aN w 3)) h.o.lt).trans (h.o.cell 3),((j.o).cell (p:=(aN w 5)) h.o.lt).trans (h.o.cell 5),((j.o).cell (p:=(aN w 15)) h.o.lt).trans (h.o.cell 15),((j.o).cell (p:=(aN w 16)) h.o.lt).trans (h.o.cell 16)⟩ (fun m=> ?_);clear C K;(try simp only [pp])
   refine on 16 23 fun K C=> ?_
   go_simp;refine(LT c A ⟨x.Z9,x.ZZ,x.right,x.ZH,x.ZQ,x.Zq⟩ V0 ((HT.o.later T.o).later (j.o)).VE ah.o).mono ?_
   rintro e E ⟨u,D,G,rfl,ac,hb,hf⟩;have J:=bl ag hb;replace j:Hid (Bw W0 E):=hid (j.o.trans (hb.mono j.o.size));have I:=hid ac;have Z:=hid hf;clear hb ag ac hf;refine C.out _ _ ⟨((j.o).cell (p:=(aD g 0)) d.o.lt).trans (d.o.cell 0),((j.o).cell (p:=(aD g 1)) d.o.lt).trans (d.o.cell 1),((j.o).cell (p:=(aD g 2)) d.o.lt).trans (d.o.cell 2),((j.o).cell (p:=(aD g 3)) d.o.lt).trans (d.o.cell 3),((j.o).cell (p:=(aD g 4)) d.o.lt).trans (d.o.cell 4),((j.o).cell (p:=(aD g 5)) d.o.lt).trans (d.o.cell 5),((j.o).cell (p:=(aD g 6)) d.o.lt).trans (d.o.cell 6),((j.o).cell (p:=(aN w 1)) h.o.lt).trans (h.o.cell 1),((j.o).cell (p:=(aN w 2)) h.o.lt).trans (h.o.cell 2),((j.o).cell (p:=(aN w 3)) h.o.lt).trans (h.o.cell 3),((j.o).cell (p:=(aN w 5)) h.o.lt).trans (h.o.cell 5),((j.o).cell (p:=(aN w 15)) h.o.lt).trans (h.o.cell 15),((j.o).cell (p:=(aN w 16)) h.o.lt).trans (h.o.cell 16)⟩ (fun m=> ?_);clear C K;(try simp only [pp])
   refine tk 17 6 m ?_;refine tk 18 24 m ?_;refine tk 19 25 m ?_;refine SR 21 fun K C=> ?_
   refine Zk rfl 33 _ _ rfl p (u.cs D) rfl rfl J rfl rfl ae (by simp [Ca.cs,Value.oneCell']) ?_
   intro L U;have s:Hid (Bw W0 L):=hid (U.o.below j.o N.o);have aa:=hid (I.o.keeps U.o.keeps (by decide));refine C.out _ _ ⟨cb d (s.o) 0,cb d (s.o) 1,cb d (s.o) 2,cb d (s.o) 3,cb d (s.o) 4,cb d (s.o) 5,cb d (s.o) 6,cb h (s.o) 1,cb h (s.o) 2,cb h (s.o) 3,cb h (s.o) 5,cb h (s.o) 15,cb h (s.o) 16⟩ (fun m=> ?_);clear C K;(try simp only [pp])
   refine tk 22 5 m ?_;refine wpAnyH_done (by kernel_rfl) ?_ _
   exact key p G u D L ⟨hid U.o.YK,s,N,aa,Z⟩
 ·rintro p G u D V ⟨J,ad,N,I,Z⟩;have PV:=bl d ad.o;have XV:=bl h ad.o;have M:=bt T ad.o;have ak:=hid ((HT.o.later T.o).later ad.o);have an:=T.o.size;clear d h;by_cases h0:G=0
  case neg=>
   go_wp2_with fail;have O:=YE G V;rw [if_neg h0] at O;refine O.mono ?_
   rintro e V9 ⟨rfl,rfl⟩;go_wp2;exact⟨rfl,M.o.x _,Or.inr ⟨G,c,h0,rfl,Or.inl h0,_,PV.o,rfl⟩⟩
  subst h0;go_wp2_with fail;have O:=YE 0 V;rw [if_pos rfl] at O;refine O.mono ?_
  rintro e V9 ⟨rfl,rfl⟩;clear O;go_wp2_with (first | (refine lO J ae underlying33 ?_) | ((with_reducible refine Zv rfl 33 _ _ rfl g (u.cs D) rfl rfl PV (n:=7) rfl rfl ae (by simp [Ca.cs,Value.oneCell']) ?_);intro L U) | fail);go_end0;have hg:=Z.o (by trivial);obtain⟨h1,h2,h3,h4,h5⟩:=hg;have BX:Y6 w.heap.size (some g) w L:=⟨(U.o.below (Below.refl 0 V9) (Nat.zero_le _)).os.trans M.o.os,(U.o.below (Below.refl 0 V9) (Nat.zero_le _)).tape.trans M.o.tape,(U.o.below (Below.refl 0 V9) (Nat.zero_le _)).output.trans M.o.output,Nat.le_trans M.o.size U.o.keeps.size,fun k hk hx=>(U.o.WT k (fun e=>hx (by rw [e]))).trans (M.o.block k hk)⟩
  refine⟨BX,Or.inl ⟨u,D,rfl,Or.inr ⟨rfl,u.Z4,h5,?_⟩,U.o.YK,I.o.keeps U.o.keeps (by decide)⟩⟩
  cases u
  simp only at h1 h2 h3 h4;rw [h1,h2,h3,h4]
theorem KM (c:Ca)(A:Wd)(x:Cm)(X:oA)(k:Nat)(Y:oA)(n:Nat)(g:Nat)(w:World)(hP:ZP w g 33 (c.cs A))(hT:Ta w c A)(ht:c.Zo 1099511627776):
  cQ 82 #[pT g,.agg (x.cs X k Y n).toArray] w (Iq g w (Je c)):=by
 have Z:=hid hT;have aj:=hid ht;have aR:=iN 26 2;have ag:=iN 30 2;have aS:=iN 33 7;have aT:=hP.lt;have C:Hid (Below w.heap.size w (w.alloc (.cells (zX x X k Y n).toArray 43))):=hid (br.alloc lr _);have h:Hid (ZP (w.alloc (.cells (zX x X k Y n).toArray 43)) g 33 (zC c A)):=hid (hP.alloc _);have m:Hid (ZP (w.alloc (.cells (zX x X k Y n).toArray 43)) w.heap.size 43 (zX x X k Y n)):=hid (ZP.new w _ _);clear hT ht hP;unfold Cm.cs;go_enter func82,ntmps82
 have aL:=aj.o.2.1.1;have HC:Hid (∀ W,Below (w.alloc (.cells (zX x X k Y n).toArray 43)).heap.size (w.alloc (.cells (zX x X k Y n).toArray 43)) W->cQ 30 #[sl A.a2 c.ro.ZU A.k2,sT x.ZQ] W fun e w'=>e= .returned (.bool (c.ro.ZU.contains x.ZQ))/\w'=W):=hid (fun W G=>Zf c.ro.ZU A.a2 A.k2 x.ZQ W ((Z.o.later C.o).later G).VE.nm aL);have aJ:Hid (c.ro.ZU.contains x.ZQ=c.ro.ZU.contains x.ZQ):=hid rfl;go_wp2_with fail;generalize (w.alloc (.cells (zX x X k Y n).toArray 43))=W0 at*;obtain⟨b,hb⟩: ∃ b,b=c.ro.ZU.contains x.ZQ:=⟨_,rfl⟩
 rw [<-hb] at HC;have aQ:=hid hb;clear hb aJ
 cases b
 ·refine wp_region_held_drew (S:=fun w'=>w'.cell? (aD g 4)=some (sl A.a2 c.ro.ZU A.k2)/\w'.cell? (aN w 5)=some (sT x.ZQ)) (by kernel_rfl) (⟨cb h ((Below.refl W0.heap.size W0).drew) 4,cb m ((Below.refl W0.heap.size W0).drew) 5⟩) (fun j=> ?_)
  (try simp only [pp]);refine tk 0 7 j ?_;refine tk 1 8 j ?_;refine tk 2 9 j ?_;refine tk 3 10 j ?_;refine tk 4 11 j ?_;refine tk 5 12 j ?_;refine tk 6 13 j ?_;refine on 7 14 fun K u=> ?_
  go_simp;refine(HC.o W0.drew br.drew).mono ?_
  rintro e w' ⟨rfl,rfl⟩;refine u.out _ _ ⟨cb h ((Below.refl W0.heap.size W0).drew) 4,cb m ((Below.refl W0.heap.size W0).drew) 5⟩ (fun j=> ?_);clear u K;(try simp only [pp])
  refine on 8 15 fun K u=> ?_
  go_simp;refine(Ym false 71 W0.drew).mono ?_
  rintro e O ⟨rfl,rfl⟩;exact⟨rfl,(C.o.drew).x _,Or.inr ⟨71,c,by decide,rfl,Or.inl (by decide),_,h.o.drew,rfl⟩⟩
 refine wp_region_held_drew (S:=fun w'=>w'.cell? (aD g 4)=some (sl A.a2 c.ro.ZU A.k2)/\w'.cell? (aN w 5)=some (sT x.ZQ)) (by kernel_rfl) (⟨cb h ((Below.refl W0.heap.size W0).drew) 4,cb m ((Below.refl W0.heap.size W0).drew) 5⟩) (fun j=> ?_)
 (try simp only [pp]);refine tk 0 7 j ?_;refine tk 1 8 j ?_;refine tk 2 9 j ?_;refine tk 3 10 j ?_;refine tk 4 11 j ?_;refine tk 5 12 j ?_;refine tk 6 13 j ?_;refine on 7 14 fun K u=> ?_
 go_simp;refine(HC.o W0.drew br.drew).mono ?_
 rintro e w' ⟨rfl,rfl⟩;refine u.out _ _ ⟨cb h ((Below.refl W0.heap.size W0).drew) 4,cb m ((Below.refl W0.heap.size W0).drew) 5⟩ (fun j=> ?_);clear u K;(try simp only [pp])
 refine on 8 15 fun K u=> ?_
 go_simp;refine(Ym true 71 W0.drew).mono ?_
 rintro e O ⟨rfl,rfl⟩;refine u.out _ _ ⟨cb h ((Below.refl W0.heap.size W0).drew) 4,cb m ((Below.refl W0.heap.size W0).drew) 5⟩ (fun j=> ?_);clear u K;(try simp only [pp])
 refine wpAnyH_done (by kernel_rfl) ?_ _
 clear j;have P1:=hid h.o.drew;have X1:=hid m.o.drew;have af:=hid C.o.drew;have aq:Hid (af=af):=hid rfl;clear aq h m C HC;generalize W0.drew=W1 at*;have h:=P1;have m:=X1;have C:=af;clear P1 X1 af;have aM:=aj.o.1.1;have aO:=aj.o.1.2.1;have ay:=aj.o.2.2;have HS:Hid (∀ W,Bw W1 W->cQ 31 #[sl A.a0 c.ob.Z7 A.k0,.func (.func 128) #[] #[pT w.heap.size]] W fun e w'=>e= .returned (.bool ((c.ob.Z7.map Sc.da).any (fun d=>tx d 1 == x.ZQ)))/\Bw W w'):=hid (by
  intro W G;have cH:=Ps (fun d=>tx d 1 == x.ZQ) 128 #[pT w.heap.size] (c.ob.Z7.map Sc.da) A.a0 A.k0 W (enters_of func128 (by kernel_rfl) rfl) ((Z.o.later C.o).later G).VE.sc (by simpa using aM) (by
   intro W' d vs hb _ hv;obtain⟨q,rfl,rfl⟩:=Sc.YG hv;exact Nc x q w.heap.size W' (Nat.lt_of_lt_of_le (Nat.lt_of_lt_of_le m.o.lt G.size) hb.size) (((m.o.below G m.o.lt).below hb (Nat.lt_of_lt_of_le m.o.lt G.size)).cell 5))
  rwa [List.length_map] at cH)
 have aF:Hid (∀ W,Bw W1 W->cQ 129 #[sl A.a1 c.ob.Z8 A.k1,.func (.func 130) #[] #[pT w.heap.size]] W fun e w'=>e= .returned (.bool ((c.ob.Z8.map Tb.da).any (fun d=>tx d 2 == x.ZQ)))/\Bw W w'):=hid (by
  intro W G;have cH:=N8 (fun d=>tx d 2 == x.ZQ) 130 #[pT w.heap.size] (c.ob.Z8.map Tb.da) A.a1 A.k1 W (enters_of func130 (by kernel_rfl) rfl) ((Z.o.later C.o).later G).VE.tb (by simpa using aO) (by
   intro W' d vs hb _ hv;obtain⟨q,A1,n1,A2,n2,rfl,rfl,_⟩:=Tb.YG hv;exact Nb x q A1 n1 A2 n2 w.heap.size W' (Nat.lt_of_lt_of_le (Nat.lt_of_lt_of_le m.o.lt G.size) hb.size) (((m.o.below G m.o.lt).below hb (Nat.lt_of_lt_of_le m.o.lt G.size)).cell 5))
  rwa [List.length_map] at cH)
 have aC:Hid (∀ W,Bw W1 W->cQ 101 #[sl A.a4 c.Z4 A.k4,.func (.func 131) #[] #[pT w.heap.size]] W fun e w'=>e= .returned (.bool ((c.Z4.map Gr.da).any (fun d=>tx d 3 == x.ZQ || tx d 4 == x.ZQ)))/\Bw W w'):=hid (by
  intro W G;have cH:=N9 (fun d=>tx d 3 == x.ZQ || tx d 4 == x.ZQ) 131 #[pT w.heap.size] (c.Z4.map Gr.da) A.a4 A.k4 W (enters_of func131 (by kernel_rfl) rfl) ((Z.o.later C.o).later G).VE.gr (by simpa using ay) (by
   intro W' d vs hb _ hv;obtain⟨q,rfl,rfl⟩:=Gr.YG hv;exact Na x q w.heap.size W' (Nat.lt_of_lt_of_le (Nat.lt_of_lt_of_le m.o.lt G.size) hb.size) (((m.o.below G m.o.lt).below hb (Nat.lt_of_lt_of_le m.o.lt G.size)).cell 5))
  rwa [List.length_map] at cH)
 generalize ((c.ob.Z7.map Sc.da).any (fun d=>tx d 1 == x.ZQ))=b1 at*;generalize ((c.ob.Z8.map Tb.da).any (fun d=>tx d 2 == x.ZQ))=b2 at*;generalize ((c.Z4.map Gr.da).any (fun d=>tx d 3 == x.ZQ || tx d 4 == x.ZQ))=b3 at*;have aI:Hid (Bw W1 W1):=hid br;have aa:=aI;have aw:W1.cell? (aN w 5)=some (sT x.ZQ):=cb m aa.o 5;have ar:W1.cell? (aD g 2)=some (sl A.a0 c.ob.Z7 A.k0):=cb h aa.o 2
 cases k0:(x.ZQ == Yi)
 case true=>
  have aP:(x.ZQ == [114,111,111,116])=true:=k0;go_wp2_with fail;refine(Ym false 73 W1).mono ?_
  rintro e O ⟨rfl,rfl⟩;exact⟨rfl,(C.o.trans (aa.o.mono C.o.size)).x _,Or.inr ⟨73,c,by decide,rfl,Or.inl (by decide),_,h.o.below aa.o h.o.lt,rfl⟩⟩
 have aP:(x.ZQ == [114,111,111,116])=false:=k0;go_wp2_with fail;refine(HS.o W1 aa.o).mono ?_
 rintro e W2 ⟨rfl,hb⟩;have ab:=bt aa hb;clear hb;have au:W2.cell? (aD g 3)=some (sl A.a1 c.ob.Z8 A.k1):=cb h ab.o 3
 cases b1
 case true=>
  go_wp2_with fail;refine(Ym false 73 W2).mono ?_
  rintro e O ⟨rfl,rfl⟩;exact⟨rfl,(C.o.trans (ab.o.mono C.o.size)).x _,Or.inr ⟨73,c,by decide,rfl,Or.inl (by decide),_,h.o.below ab.o h.o.lt,rfl⟩⟩
 go_wp2_with fail;refine(aF.o W2 ab.o).mono ?_
 rintro e W3 ⟨rfl,hb⟩;have ac:=bt ab hb;clear hb;have av:W3.cell? (aD g 6)=some (sl A.a4 c.Z4 A.k4):=cb h ac.o 6
 cases b2
 case true=>
  go_wp2_with fail;refine(Ym false 73 W3).mono ?_
  rintro e O ⟨rfl,rfl⟩;exact⟨rfl,(C.o.trans (ac.o.mono C.o.size)).x _,Or.inr ⟨73,c,by decide,rfl,Or.inl (by decide),_,h.o.below ac.o h.o.lt,rfl⟩⟩
 go_wp2_with fail;refine(aC.o W3 ac.o).mono ?_
 rintro e W4 ⟨rfl,hb⟩;have ad:=bt ac hb;clear hb
 cases b3
 case true=>
  go_wp2_with fail;refine(Ym false 73 W4).mono ?_
  rintro e O ⟨rfl,rfl⟩;exact⟨rfl,(C.o.trans (ad.o.mono C.o.size)).x _,Or.inr ⟨73,c,by decide,rfl,Or.inl (by decide),_,h.o.below ad.o h.o.lt,rfl⟩⟩
 go_wp2_with fail;refine(Ym true 73 W4).mono ?_
 rintro e s ⟨rfl,rfl⟩;have P1:=bl h ad.o;have X1:=bl m ad.o;have af:=bt C ad.o;clear h m C ab ac HS aF aC;have h:=P1;have m:=X1;have C:=af;clear P1 X1 af;go_wp2_with fail;refine' DJ (F:=fun p er E I M J N V=>Hid (ZP V p 30 [sl I E.ZU M,sl J E.ZY N])/\Hid (Bw s V)/\Hid (s.heap.size<=p)/\Hid (Gh V E I J)/\Hid (E.Zo 512)) (fun key=>_) _
 rotate_left
 ·refine wp_region_held_drew (S:=fun w'=>w'.cell? (aD g 4)=some (sl A.a2 c.ro.ZU A.k2)/\w'.cell? (aD g 5)=some (sl A.a3 c.ro.ZY A.k3)/\w'.cell? (aN w 5)=some (sT x.ZQ)) (by kernel_rfl) ⟨cb h ((Below.refl s.heap.size s).drew) 4,cb h ((Below.refl s.heap.size s).drew) 5,cb m ((Below.refl s.heap.size s).drew) 5⟩ (fun j=> ?_)
  (try simp only [pp]);refine tk 0 52 j ?_;refine tk 1 53 j ?_;refine tk 2 54 j ?_;refine tk 3 55 j ?_;refine tk 4 56 j ?_;refine tk 5 57 j ?_;refine wpAnyH_ready (rs:= [6,10]) (by kernel_rfl) (by simp) ?_
  refine AllReadyH.cons (o:=⟨some 58,_,_,_,_,_⟩) rfl (fun K u=> ?_) (AllReadyH.cons (o:=⟨some 5,_,_,_,_,_⟩) rfl (fun K u=> ?_) AllReadyH.nil)
  ·go_simp;refine(NI c.ro A.a2 A.k2 A.a3 A.k3 x.ZQ s.drew ((Z.o.later C.o).later ((Below.refl s.heap.size s).drew)).VE.nm ((Z.o.later C.o).later ((Below.refl s.heap.size s).drew)).VE.mb aj.o.2.1).mono ?_
   rintro e L ⟨er,E,I,M,J,N,rfl,an,hb,ao⟩;have D:Hid (Bw s L):=hid ((Below.refl s.heap.size s).drew.trans hb);have ae:=hid an;have am:=hid ao;clear hb an ao;refine u.out _ _ ⟨((D.o).cell (p:=(aD g 4)) h.o.lt).trans (h.o.cell 4),((D.o).cell (p:=(aD g 5)) h.o.lt).trans (h.o.cell 5),((D.o).cell (p:=(aN w 5)) m.o.lt).trans (m.o.cell 5)⟩ (fun j=> ?_);clear u K;(try simp only [pp])
   refine tk 7 51 j ?_;refine tk 8 59 j ?_;refine tk 9 60 j ?_;refine on 10 5 fun K u=> ?_
   go_simp;have az:Hid (Below s.heap.size s (L.alloc (.cells #[sN,sN] 30))):=hid (D.o.alloc D.o.size _);have HG:Hid (ZP (L.alloc (.cells #[sN,sN] 30)) L.heap.size 30 [sN,sN]):=hid (ZP.new L _ _);have ai:Hid (s.heap.size<=L.heap.size):=hid D.o.size;have ak:=hid (ae.o.keeps (ZS.Nn (w:=L) (.cells #[sN,sN] 30)) (by simp));clear D ae;generalize L.alloc (.cells #[sN,sN] 30)=V2 at*;generalize L.heap.size=p at*;have D:=az;have ae:=ak;clear az ak;refine u.out _ _ ⟨((D.o).cell (p:=(aD g 4)) h.o.lt).trans (h.o.cell 4),((D.o).cell (p:=(aD g 5)) h.o.lt).trans (h.o.cell 5),((D.o).cell (p:=(aN w 5)) m.o.lt).trans (m.o.cell 5)⟩ (fun j=> ?_);clear u K;(try simp only [pp])
   refine SR 11 fun K u=> ?_
   refine Zk rfl 30 _ _ rfl p [sl I E.ZU M,sl J E.ZY N] rfl rfl HG rfl rfl ag (by simp [Value.oneCell']) ?_
   intro O U;have T:Hid (Bw s O):=hid (U.o.below D.o ai.o);have ah:=hid (ae.o.keeps U.o.keeps (by decide));refine u.out _ _ ⟨cb h (T.o) 4,cb h (T.o) 5,cb m (T.o) 5⟩ (fun j=> ?_);clear u K;(try simp only [pp])
   refine tk 12 6 j ?_;refine wpAnyH_done (by kernel_rfl) ?_ _
   exact key p er E I M J N O ⟨hid U.o.YK,T,ai,ah,am⟩
  ·go_simp;have D:Hid (Below s.heap.size s (s.alloc (.cells #[sN,sN] 30)).drew):=hid (br.alloc lr _).drew;have HG:Hid (ZP (s.alloc (.cells #[sN,sN] 30)).drew s.heap.size 30 [sN,sN]):=hid (ZP.new s _ _).drew;obtain⟨p,hp⟩: ∃ p,p=s.heap.size:=⟨_,rfl⟩
   have ai:Hid (s.heap.size<=p):=hid (by rw [hp];exact Nat.le_refl _);have aB:Hid (ZP (s.alloc (.cells #[sN,sN] 30)).drew p 30 [sN,sN]):=hid (by rw [hp];exact HG.o);generalize hV0:(s.alloc (.cells #[sN,sN] 30)).drew=V0 at*;rw [<-hp];clear HG hp hV0;refine u.out _ _ ⟨((D.o).cell (p:=(aD g 4)) h.o.lt).trans (h.o.cell 4),((D.o).cell (p:=(aD g 5)) h.o.lt).trans (h.o.cell 5),((D.o).cell (p:=(aN w 5)) m.o.lt).trans (m.o.cell 5)⟩ (fun j=> ?_);clear u K;(try simp only [pp])
   refine on 6 58 fun K u=> ?_
   go_simp;refine(NI c.ro A.a2 A.k2 A.a3 A.k3 x.ZQ V0 ((Z.o.later C.o).later (D.o)).VE.nm ((Z.o.later C.o).later (D.o)).VE.mb aj.o.2.1).mono ?_
   rintro e L ⟨er,E,I,M,J,N,rfl,an,hb,ao⟩;have HG:=bl aB hb;replace D:Hid (Bw s L):=hid (D.o.trans (hb.mono D.o.size));have ae:=hid an;have am:=hid ao;clear hb aB an ao;refine u.out _ _ ⟨((D.o).cell (p:=(aD g 4)) h.o.lt).trans (h.o.cell 4),((D.o).cell (p:=(aD g 5)) h.o.lt).trans (h.o.cell 5),((D.o).cell (p:=(aN w 5)) m.o.lt).trans (m.o.cell 5)⟩ (fun j=> ?_);clear u K;(try simp only [pp])
   refine tk 7 51 j ?_;refine tk 8 59 j ?_;refine tk 9 60 j ?_;refine SR 11 fun K u=> ?_
   refine Zk rfl 30 _ _ rfl p [sl I E.ZU M,sl J E.ZY N] rfl rfl HG rfl rfl ag (by simp [Value.oneCell']) ?_
   intro O U;have T:Hid (Bw s O):=hid (U.o.below D.o ai.o);have ah:=hid (ae.o.keeps U.o.keeps (by decide));refine u.out _ _ ⟨cb h (T.o) 4,cb h (T.o) 5,cb m (T.o) 5⟩ (fun j=> ?_);clear u K;(try simp only [pp])
   refine tk 12 6 j ?_;refine wpAnyH_done (by kernel_rfl) ?_ _
   exact key p er E I M J N O ⟨hid U.o.YK,T,ai,ah,am⟩
 ·rintro p er E I M J N V ⟨HG,ap,ai,ae,am⟩;have PV:=bl h ap.o;have XV:=bl m ap.o;have aA:=bt C ap.o;have aK:=hid ((Z.o.later C.o).later ap.o);have aU:=C.o.size;clear h m;by_cases h0:er=0
  case neg=>
   go_wp2_with fail;have cM:=YE er V;rw [if_neg h0] at cM;refine cM.mono ?_
   rintro e V9 ⟨rfl,rfl⟩;go_wp2;exact⟨rfl,aA.o.x _,Or.inr ⟨er,⟨c.ZO,c.ZR,c.ob,E,c.Z4⟩,h0,rfl,Or.inl h0,_,PV.o,rfl⟩⟩
  subst h0;go_wp2_with fail;have cM:=YE 0 V;rw [if_pos rfl] at cM;refine cM.mono ?_
  rintro e V9 ⟨rfl,rfl⟩;clear cM;have e2:=ce PV 4;have e3:=ce PV 5;have f2:=PV.o.frozen 4;have f3:=PV.o.frozen 5;have HF:Hid (∀ W,W=(V9.setCell (aD g 4) (sl I E.ZU M)).setCell (aD g 5) (sl J E.ZY N)->Iq g w (Je c) (.returned (.tuple #[])) W):=hid (by
   rintro W hV;have aE:ZS [33] V9 W:=by rw [hV];exact(ZS.Zx PV.o.Xr (by simp) _).trans (ZS.Zx (PV.o.Xr.setCell _ _) (by simp) _)
   have P2:ZP W g 33 [i6 c.ZO,i6 c.ZR,sl A.a0 c.ob.Z7 A.k0,sl A.a1 c.ob.Z8 A.k1,sl I E.ZU M,sl J E.ZY N,sl A.a4 c.Z4 A.k4]:=by rw [hV];exact(PV.o.Zx 4 _).Zx 5 _
   have aH:Y6 w.heap.size (some g) w W:=by rw [hV];exact((aA.o.x (some g)).S6 _).S6 _
   have ax:=aK.o.keeps aE (by decide);have aG:=ae.o.keeps aE (by decide);exact⟨aH,Or.inl ⟨⟨c.ZO,c.ZR,c.ob,E,c.Z4⟩,⟨A.a0,A.k0,A.a1,A.k1,I,M,J,N,A.a4,A.k4⟩,rfl,Or.inr ⟨rfl,E,am.o,rfl⟩,P2,⟨ax.sc,ax.tb,aG.nm.RW (by decide),aG.mb.RW (by decide),ax.gr⟩⟩⟩)
  go_wp2_with (first | (refine lO HG ag underlying30 ?_) | fail);go_end0;exact HF.o _ rfl
def Gc (c:Ca)(x:Cm)(er:Int)(c':Ca):Prop:=(er=80/\ ¬ (c.Z4.filter fun y=> !Qy x (VK c x.ZH x.Z9 x.ZZ) y).length<c.Z4.length)∨(er=0/\(c.Z4.filter fun y=> !Qy x (VK c x.ZH x.Z9 x.ZZ) y).length<c.Z4.length/\c'=⟨c.ZO,c.ZR,c.ob,c.ro,c.Z4.filter fun y=> !Qy x (VK c x.ZH x.Z9 x.ZZ) y⟩)
theorem GG (c:Ca)(A:Wd)(x:Cm)(X:oA)(k:Nat)(Y:oA)(n:Nat)(g:Nat)(w:World)(hP:ZP w g 33 (c.cs A))(hT:Ta w c A)(ht:c.Zo 1099511627776):
  cQ 84 #[pT g,.agg (x.cs X k Y n).toArray] w (Iq g w (Gc c x)):=by
 have HT:=hid hT;have ar:=hid ht;have aA:=iN 26 2;have aw:=iN 30 2;have aB:=iN 33 7;have aC:=hP.lt;have aa:Hid (Below w.heap.size w (w.alloc (.cells (zX x X k Y n).toArray 43))):=hid (br.alloc lr _);have d:Hid (ZP (w.alloc (.cells (zX x X k Y n).toArray 43)) g 33 (zC c A)):=hid (hP.alloc _);have j:Hid (ZP (w.alloc (.cells (zX x X k Y n).toArray 43)) w.heap.size 43 (zX x X k Y n)):=hid (ZP.new w _ _);clear hT ht hP;unfold Cm.cs;go_enter func84,ntmps84
 have ah:Hid (∀ W,Below (w.alloc (.cells (zX x X k Y n).toArray 43)).heap.size (w.alloc (.cells (zX x X k Y n).toArray 43)) W->cQ 13 #[.agg (zC c A).toArray,sT x.ZH,sT x.Z9,sT x.ZZ] W fun e w'=>e= .returned (.bool (VK c x.ZH x.Z9 x.ZZ))/\Bw W w'):=hid (fun W I=>Ol c A x.ZH x.Z9 x.ZZ W ((HT.o.later aa.o).later I).VE ar.o);go_wp2_with fail;generalize (w.alloc (.cells (zX x X k Y n).toArray 43))=W0 at*;obtain⟨G,aj⟩: ∃ G,G=VK c x.ZH x.Z9 x.ZZ:=⟨_,rfl⟩
 rw [<-aj] at ah;have ag:=hid aj;clear aj;refine' Fb (F:=fun p V=>Hid (ZP V p 4 [.bool G])/\Hid (Bw W0 V)/\Hid (W0.heap.size<=p)) (fun key=>_) _
 rotate_left
 ·refine wp_region_held_drew (S:=fun w'=>w'.cell? (aD g 0)=some (i6 c.ZO)/\w'.cell? (aD g 1)=some (i6 c.ZR)/\w'.cell? (aD g 2)=some (sl A.a0 c.ob.Z7 A.k0)/\w'.cell? (aD g 3)=some (sl A.a1 c.ob.Z8 A.k1)/\w'.cell? (aD g 4)=some (sl A.a2 c.ro.ZU A.k2)/\w'.cell? (aD g 5)=some (sl A.a3 c.ro.ZY A.k3)/\w'.cell? (aD g 6)=some (sl A.a4 c.Z4 A.k4)/\w'.cell? (aN w 1)=some (sT x.ZH)/\w'.cell? (aN w 2)=some (sT x.Z9)/\w'.cell? (aN w 3)=some (sT x.ZZ)) (by kernel_rfl) ⟨cb d ((Below.refl W0.heap.size W0).drew) 0,cb d ((Below.refl W0.heap.size W0).drew) 1,cb d ((Below.refl W0.heap.size W0).drew) 2,cb d ((Below.refl W0.heap.size W0).drew) 3,cb d ((Below.refl W0.heap.size W0).drew) 4,cb d ((Below.refl W0.heap.size W0).drew) 5,cb d ((Below.refl W0.heap.size W0).drew) 6,cb j ((Below.refl W0.heap.size W0).drew) 1,cb j ((Below.refl W0.heap.size W0).drew) 2,cb j ((Below.refl W0.heap.size W0).drew) 3⟩ (fun C=> ?_)
  (try simp only [pp]);refine tk 0 6 C ?_;refine tk 1 7 C ?_;refine tk 2 8 C ?_;refine tk 3 9 C ?_;refine tk 4 10 C ?_;refine tk 5 11 C ?_;refine tk 6 12 C ?_;refine tk 7 13 C ?_;refine tk 8 14 C ?_;refine wpAnyH_ready (rs:= [9,10]) (by kernel_rfl) (by simp) ?_
  refine AllReadyH.cons (o:=⟨some 15,_,_,_,_,_⟩) rfl (fun K u=> ?_) (AllReadyH.cons (o:=⟨some 4,_,_,_,_,_⟩) rfl (fun K u=> ?_) AllReadyH.nil)
  ·go_simp;refine(ah.o W0.drew br.drew).mono ?_
   rintro e E ⟨rfl,hb⟩;have h:Hid (Bw W0 E):=hid (br.drew.trans hb);clear hb;refine u.out _ _ ⟨((h.o).cell (p:=(aD g 0)) d.o.lt).trans (d.o.cell 0),((h.o).cell (p:=(aD g 1)) d.o.lt).trans (d.o.cell 1),((h.o).cell (p:=(aD g 2)) d.o.lt).trans (d.o.cell 2),((h.o).cell (p:=(aD g 3)) d.o.lt).trans (d.o.cell 3),((h.o).cell (p:=(aD g 4)) d.o.lt).trans (d.o.cell 4),((h.o).cell (p:=(aD g 5)) d.o.lt).trans (d.o.cell 5),((h.o).cell (p:=(aD g 6)) d.o.lt).trans (d.o.cell 6),((h.o).cell (p:=(aN w 1)) j.o.lt).trans (j.o.cell 1),((h.o).cell (p:=(aN w 2)) j.o.lt).trans (j.o.cell 2),((h.o).cell (p:=(aN w 3)) j.o.lt).trans (j.o.cell 3)⟩ (fun C=> ?_);clear u K;(try simp only [pp])
   refine on 10 4 fun K u=> ?_
   go_simp;have ao:Hid (Below W0.heap.size W0 (E.alloc (.cells #[.bool false] 4))):=hid (h.o.alloc h.o.size _);have D:Hid (ZP (E.alloc (.cells #[.bool false] 4)) E.heap.size 4 [.bool false]):=hid (ZP.new E _ _);have O:Hid (W0.heap.size<=E.heap.size):=hid h.o.size;clear h;generalize E.alloc (.cells #[.bool false] 4)=V2 at*;generalize E.heap.size=p at*;have h:=ao;clear ao;refine u.out _ _ ⟨((h.o).cell (p:=(aD g 0)) d.o.lt).trans (d.o.cell 0),((h.o).cell (p:=(aD g 1)) d.o.lt).trans (d.o.cell 1),((h.o).cell (p:=(aD g 2)) d.o.lt).trans (d.o.cell 2),((h.o).cell (p:=(aD g 3)) d.o.lt).trans (d.o.cell 3),((h.o).cell (p:=(aD g 4)) d.o.lt).trans (d.o.cell 4),((h.o).cell (p:=(aD g 5)) d.o.lt).trans (d.o.cell 5),((h.o).cell (p:=(aD g 6)) d.o.lt).trans (d.o.cell 6),((h.o).cell (p:=(aN w 1)) j.o.lt).trans (j.o.cell 1),((h.o).cell (p:=(aN w 2)) j.o.lt).trans (j.o.cell 2),((h.o).cell (p:=(aN w 3)) j.o.lt).trans (j.o.cell 3)⟩ (fun C=> ?_);clear u K;(try simp only [pp])
   refine SR 11 fun K u=> ?_
   have q0:=ce D 0;have qf:=D.o.frozen 0;have s:Hid (Below W0.heap.size W0 (V2.setCell (aD p 0) (.bool G))):=hid (h.o.setCell O.o _);have ai:Hid (ZP (V2.setCell (aD p 0) (.bool G)) p 4 [.bool G]):=hid (D.o.Zx 0 _);go_simp;clear q0 qf D h;generalize V2.setCell (aD p 0) (.bool G)=V9 at*;refine u.out _ _ ⟨cb d (s.o) 0,cb d (s.o) 1,cb d (s.o) 2,cb d (s.o) 3,cb d (s.o) 4,cb d (s.o) 5,cb d (s.o) 6,cb j (s.o) 1,cb j (s.o) 2,cb j (s.o) 3⟩ (fun C=> ?_);clear u K;(try simp only [pp])
   refine wpAnyH_done (by kernel_rfl) ?_ _
   exact key p V9 ⟨ai,s,O⟩
  ·go_simp;have h:Hid (Below W0.heap.size W0 (W0.alloc (.cells #[.bool false] 4)).drew):=hid (br.alloc lr _).drew;have D:Hid (ZP (W0.alloc (.cells #[.bool false] 4)).drew W0.heap.size 4 [.bool false]):=hid (ZP.new W0 _ _).drew;obtain⟨p,hp⟩: ∃ p,p=W0.heap.size:=⟨_,rfl⟩
   have O:Hid (W0.heap.size<=p):=hid (by rw [hp];exact Nat.le_refl _);have ap:Hid (ZP (W0.alloc (.cells #[.bool false] 4)).drew p 4 [.bool false]):=hid (by rw [hp];exact D.o);generalize hV0:(W0.alloc (.cells #[.bool false] 4)).drew=V0 at*;rw [<-hp];clear D hp hV0;refine u.out _ _ ⟨((h.o).cell (p:=(aD g 0)) d.o.lt).trans (d.o.cell 0),((h.o).cell (p:=(aD g 1)) d.o.lt).trans (d.o.cell 1),((h.o).cell (p:=(aD g 2)) d.o.lt).trans (d.o.cell 2),((h.o).cell (p:=(aD g 3)) d.o.lt).trans (d.o.cell 3),((h.o).cell (p:=(aD g 4)) d.o.lt).trans (d.o.cell 4),((h.o).cell (p:=(aD g 5)) d.o.lt).trans (d.o.cell 5),((h.o).cell (p:=(aD g 6)) d.o.lt).trans (d.o.cell 6),((h.o).cell (p:=(aN w 1)) j.o.lt).trans (j.o.cell 1),((h.o).cell (p:=(aN w 2)) j.o.lt).trans (j.o.cell 2),((h.o).cell (p:=(aN w 3)) j.o.lt).trans (j.o.cell 3)⟩ (fun C=> ?_);clear u K;(try simp only [pp])
   refine on 9 15 fun K u=> ?_
   go_simp;refine(ah.o V0 h.o).mono ?_
   rintro e E ⟨rfl,hb⟩;have D:=bl ap hb;replace h:Hid (Bw W0 E):=hid (h.o.trans (hb.mono h.o.size));clear hb ap;refine u.out _ _ ⟨((h.o).cell (p:=(aD g 0)) d.o.lt).trans (d.o.cell 0),((h.o).cell (p:=(aD g 1)) d.o.lt).trans (d.o.cell 1),((h.o).cell (p:=(aD g 2)) d.o.lt).trans (d.o.cell 2),((h.o).cell (p:=(aD g 3)) d.o.lt).trans (d.o.cell 3),((h.o).cell (p:=(aD g 4)) d.o.lt).trans (d.o.cell 4),((h.o).cell (p:=(aD g 5)) d.o.lt).trans (d.o.cell 5),((h.o).cell (p:=(aD g 6)) d.o.lt).trans (d.o.cell 6),((h.o).cell (p:=(aN w 1)) j.o.lt).trans (j.o.cell 1),((h.o).cell (p:=(aN w 2)) j.o.lt).trans (j.o.cell 2),((h.o).cell (p:=(aN w 3)) j.o.lt).trans (j.o.cell 3)⟩ (fun C=> ?_);clear u K;(try simp only [pp])
   refine SR 11 fun K u=> ?_
   have q0:=ce D 0;have qf:=D.o.frozen 0;have s:Hid (Below W0.heap.size W0 (E.setCell (aD p 0) (.bool G))):=hid (h.o.setCell O.o _);have ai:Hid (ZP (E.setCell (aD p 0) (.bool G)) p 4 [.bool G]):=hid (D.o.Zx 0 _);go_simp;clear q0 qf D h;generalize E.setCell (aD p 0) (.bool G)=V9 at*;refine u.out _ _ ⟨cb d (s.o) 0,cb d (s.o) 1,cb d (s.o) 2,cb d (s.o) 3,cb d (s.o) 4,cb d (s.o) 5,cb d (s.o) 6,cb j (s.o) 1,cb j (s.o) 2,cb j (s.o) 3⟩ (fun C=> ?_);clear u K;(try simp only [pp])
   refine wpAnyH_done (by kernel_rfl) ?_ _
   exact key p V9 ⟨ai,s,O⟩
 ·rintro p V ⟨D,ad,O⟩;have PV:=bl d ad.o;have XV:=bl j ad.o;have ae:=bt aa ad.o;have aq:=hid ((HT.o.later aa.o).later ad.o);have aE:=aa.o.size;clear d j;have au:=ar.o.2.2;have J:=XV.o.lt;have an:=D.o.lt;have e6:=ce PV 6;go_wp2_with fail;refine(UT A.a4 A.k4 c.Z4 V (Gr.Yn aq.o.VE.gr) au).mono ?_
  rintro e V3 ⟨L,N,rfl,Z,hb⟩;have ax:=hid Z;have ab:=hid hb;have T:=hid (XV.o.below hb J);have av:=hid (D.o.below hb an);clear Z hb;go_wp2_with fail;refine(JD (Qy x G) 134 #[pT w.heap.size,pT p] V.heap.size c.Z4 L N V3 (enters_of func134 (by kernel_rfl) rfl) ax.o au ab.o.size (fun W y I hy=>J4 x y w.heap.size p G W (Nat.lt_of_lt_of_le (Nat.lt_of_lt_of_le J ab.o.size) I.size) ((T.o.below I J).cell 1) ((T.o.below I J).cell 2) ((T.o.below I J).cell 3) ((T.o.below I J).cell 5) ((T.o.below I J).cell 15) (Nat.lt_of_lt_of_le (Nat.lt_of_lt_of_le an ab.o.size) I.size) ((av.o.below I an).cell 0))).mono ?_
  rintro e M ⟨m,rfl,hm,Z,hb⟩;have ac:Hid (Bw V M):=hid (ab.o.trans hb);have U:=bl PV ac.o;have ay:=hid Z;have HM:=hid hm;clear Z hb hm;have e6:=ce U 6;have f6:=U.o.frozen 6;by_cases hlt:m<c.Z4.length
  case neg=>
   have ak: ¬ (m:Int)< (c.Z4.length:Int):=by omega
   have az:decide ((m:Int)< (c.Z4.length:Int))=false:=by simpa using ak
   go_wp2_with fail;refine(Ym false 80 M).mono ?_
   rintro e w9 ⟨rfl,rfl⟩;exact⟨rfl,(ae.o.trans (ac.o.mono ae.o.size)).x _,Or.inr ⟨80,c,by decide,rfl,Or.inl ⟨rfl,by rw [<-ag.o,<-HM.o];exact hlt⟩,_,U.o,rfl⟩⟩
  have ak:(m:Int)< (c.Z4.length:Int):=by omega
  have az:decide ((m:Int)< (c.Z4.length:Int))=true:=by simpa using ak
  have HF:Hid (∀ W,W=M.setCell (aD g 6) (.slice L m N)->Iq g w (Gc c x) (.returned (.tuple #[])) W):=hid (by
   rintro W rfl;have u:ZS [33] M (M.setCell (aD g 6) (.slice L m N)):=ZS.Zx U.o.Xr (by simp) _;have af:=(aq.o.later ac.o).keeps u (by decide);have am:m=(c.Z4.filter fun y=> !Qy x (VK c x.ZH x.Z9 x.ZZ) y).length:=by rw [<-ag.o,<-HM.o]
   have hO:(M.setCell (aD g 6) (.slice L m N)).ownsRow V.heap.size 53 6 (.slice L (c.Z4.filter fun y=> !Qy x (VK c x.ZH x.Z9 x.ZZ) y).length N) (c.Z4.filter fun y=> !Qy x (VK c x.ZH x.Z9 x.ZZ) y).length ((c.Z4.filter fun y=> !Qy x (VK c x.ZH x.Z9 x.ZZ) y).flatMap Gr.cs):=by
    rw [<-am,<-ag.o];exact ay.o.keeps u (by decide)
   refine⟨((ae.o.trans (ac.o.mono ae.o.size)).x _).S6 _,Or.inl ⟨⟨c.ZO,c.ZR,c.ob,c.ro,c.Z4.filter fun y=> !Qy x (VK c x.ZH x.Z9 x.ZZ) y⟩,⟨A.a0,A.k0,A.a1,A.k1,A.a2,A.k2,A.a3,A.k3,L,N⟩,rfl,Or.inr ⟨rfl,by rw [<-am];exact hlt,rfl⟩,?_,⟨af.sc,af.tb,af.nm,af.mb,Xn (us:=CT) hO⟩⟩⟩
   have h6:=U.o.Zx 6 (.slice L m N);rw [am] at h6 ⊢;exact h6)
  go_wp2_with fail;refine(Ym true 80 M).mono ?_
  rintro e w9 ⟨rfl,rfl⟩;go_wp2;go_end0;exact HF.o _ rfl
def Fi (c:Ca)(x:Cm)(er:Int)(c':Ca):Prop:= ∃ o',MM c.ob (EH c.ob x) er o'/\c'=⟨c.ZO,c.ZR,o',c.ro,c.Z4⟩
def Vj (c:Ca)(x:Cm):Int->Ca->Prop:=
 if x.ZV=4 then Gd c x else if x.ZV=9 then Gb c x else if x.ZV=11 then Je c else if x.ZV=14 then DR c else if x.ZV=15 then Gc c x
 else if x.ZV=10∨x.ZV=12∨x.ZV=13 then Je c else Fi c x
section
variable {c : Ca} {x : Cm}
theorem Vj.k4 (h:x.ZV=4):Vj c x=Gd c x:=by unfold Vj;rw [if_pos h]
theorem Vj.k9 (h:x.ZV=9):Vj c x=Gb c x:=by unfold Vj;rw [if_neg (by omega),if_pos h]
theorem Vj.Dk (h:x.ZV=11):Vj c x=Je c:=by unfold Vj;rw [if_neg (by omega),if_neg (by omega),if_pos h]
theorem Vj.Dj (h:x.ZV=14):Vj c x=DR c:=by unfold Vj;rw [if_neg (by omega),if_neg (by omega),if_neg (by omega),if_pos h]
theorem Vj.DE (h:x.ZV=15):Vj c x=Gc c x:=by unfold Vj;rw [if_neg (by omega),if_neg (by omega),if_neg (by omega),if_neg (by omega),if_pos h]
theorem Vj.ro (h:x.ZV=10∨x.ZV=12∨x.ZV=13):Vj c x=Je c:=by unfold Vj;rw [if_neg (by omega),if_neg (by omega),if_neg (by omega),if_neg (by omega),if_neg (by omega),if_pos h]
theorem Vj.ob (s: ¬ x.ZV=4)(u: ¬ x.ZV=9)(d: ¬ x.ZV=11)(j: ¬ x.ZV=14)(m: ¬ x.ZV=15)(h: ¬ (x.ZV=10∨x.ZV=12∨x.ZV=13)):Vj c x=Fi c x:=by unfold Vj;rw [if_neg s,if_neg u,if_neg d,if_neg j,if_neg m,if_neg h]
end
theorem DG (c:Ca)(A:Wd)(x:Cm)(X:oA)(k:Nat)(Y:oA)(n:Nat)(g:Nat)(w:World)(hP:ZP w g 33 (c.cs A))(hT:Ta w c A)(ht:c.Zo 1099511627776)
  (hX:rA w Zz (x.Z3.map Cl.da) X) (hY:rA w [.Z2] (YV x.ZX.Z3) Y) (hx:x.Zo 1099511627776) (ax:Qo x.ZX) (h5:x.ZV=5->x.Z3.length=1):
  cQ 35 #[pT g,.agg (x.cs X k Y n).toArray] w (Iq g w (Vj c x)):=by
 have HT:=hid hT;have ap:=hid ht;have aB:=iN 26 2;have az:=iN 30 2;have aC:=iN 33 7;have aE:=hP.lt;have U:Hid (Below w.heap.size w (w.alloc (.cells (zX x X k Y n).toArray 43))):=hid (br.alloc lr _);have I:Hid (ZP (w.alloc (.cells (zX x X k Y n).toArray 43)) g 33 (zC c A)):=hid (hP.alloc _);have O:Hid (ZP (w.alloc (.cells (zX x X k Y n).toArray 43)) w.heap.size 43 (zX x X k Y n)):=hid (ZP.new w _ _);have aa:=iN 43 17;have HX:=hid hX;have HY:=hid hY;have aA:=hid hx;have ay:=hid ax;have H5:=hid h5;have ae:Hid (∀ (R:Int->Ca->Prop) e w',Iq g (w.alloc (.cells (zX x X k Y n).toArray 43)) R e w'->Iq g w R e w'):=hid (fun R e w' h=>⟨(Y6.pre (U.o) (h.1.mono U.o.size)),h.2⟩);have G:=hid (HT.o.later U.o);clear hT ht hP hX hY hx ax h5;unfold Cm.cs;go_enter func35,ntmps35
 go_upto_region 4 with fail
 generalize (w.alloc (.cells (zX x X k Y n).toArray 43))=W0 at*;by_cases h4:x.ZV=4
 ·have t4:(x.ZV == 4)=true:=by simpa using h4
  have N:=hid h4;clear h4;go_wp2_with (first | (refine lO O aa underlying43 ?_) | fail);have cD:=Mi c A x X k Y n g W0 I.o G.o ap.o;unfold Cm.cs at cD;refine cD.mono ?_
  clear cD;rintro e W1 hd;have aq:=ae.o _ _ _ hd;clear hd;obtain⟨ab,⟨c',A',rfl,F,hB,hC⟩ | ⟨E,c',C,rfl,F,ar⟩⟩:=aq
  ·have am:=hid ab;have ao:=hid F;have ak:=hid hB;have an:=hid hC;clear ab F hB hC I O G ae U;go_wp2_with fail;have j:=YE 0 W1;rw [if_pos rfl] at j;refine j.mono ?_
   rintro e V9 ⟨rfl,rfl⟩;go_wp2;go_end0;exact⟨am.o,Or.inl ⟨c',A',rfl,by rw [Vj.k4 N.o];exact ao.o,ak.o,an.o⟩⟩
  ·exact⟨rfl,ab,Or.inr ⟨E,c',C,rfl,by rw [Vj.k4 N.o];exact F,ar⟩⟩
 have g4:(x.ZV == 4)=false:=by simpa using h4
 by_cases h9:x.ZV=9
 ·have t9:(x.ZV == 9)=true:=by simpa using h9
  have N:=hid h9;clear h9;go_wp2_with (first | (refine lO O aa underlying43 ?_) | fail);have cD:=JU c A x X k Y n g W0 I.o G.o ap.o;unfold Cm.cs at cD;refine cD.mono ?_
  clear cD;rintro e W1 hd;have aq:=ae.o _ _ _ hd;clear hd;obtain⟨ab,⟨c',A',rfl,F,hB,hC⟩ | ⟨E,c',C,rfl,F,ar⟩⟩:=aq
  ·have am:=hid ab;have ao:=hid F;have ak:=hid hB;have an:=hid hC;clear ab F hB hC I O G ae U;go_wp2_with fail;have j:=YE 0 W1;rw [if_pos rfl] at j;refine j.mono ?_
   rintro e V9 ⟨rfl,rfl⟩;go_wp2;go_end0;exact⟨am.o,Or.inl ⟨c',A',rfl,by rw [Vj.k9 N.o];exact ao.o,ak.o,an.o⟩⟩
  ·exact⟨rfl,ab,Or.inr ⟨E,c',C,rfl,by rw [Vj.k9 N.o];exact F,ar⟩⟩
 have g9:(x.ZV == 9)=false:=by simpa using h9
 by_cases h11:x.ZV=11
 ·have aG:(x.ZV == 11)=true:=by simpa using h11
  have N:=hid h11;clear h11;go_wp2_with (first | (refine lO O aa underlying43 ?_) | fail);have cD:=KM c A x X k Y n g W0 I.o G.o ap.o;unfold Cm.cs at cD;refine cD.mono ?_
  clear cD;rintro e W1 hd;have aq:=ae.o _ _ _ hd;clear hd;obtain⟨ab,⟨c',A',rfl,F,hB,hC⟩ | ⟨E,c',C,rfl,F,ar⟩⟩:=aq
  ·have am:=hid ab;have ao:=hid F;have ak:=hid hB;have an:=hid hC;clear ab F hB hC I O G ae U;go_wp2_with fail;have j:=YE 0 W1;rw [if_pos rfl] at j;refine j.mono ?_
   rintro e V9 ⟨rfl,rfl⟩;go_wp2;go_end0;exact⟨am.o,Or.inl ⟨c',A',rfl,by rw [Vj.Dk N.o];exact ao.o,ak.o,an.o⟩⟩
  ·exact⟨rfl,ab,Or.inr ⟨E,c',C,rfl,by rw [Vj.Dk N.o];exact F,ar⟩⟩
 have g11:(x.ZV == 11)=false:=by simpa using h11
 by_cases h14:x.ZV=14
 ·have aI:(x.ZV == 14)=true:=by simpa using h14
  have N:=hid h14;clear h14;go_wp2_with (first | (refine lO O aa underlying43 ?_) | fail);have cD:=E7 c A x X k Y n g W0 I.o G.o ap.o;unfold Cm.cs at cD;refine cD.mono ?_
  clear cD;rintro e W1 hd;have aq:=ae.o _ _ _ hd;clear hd;obtain⟨ab,⟨c',A',rfl,F,hB,hC⟩ | ⟨E,c',C,rfl,F,ar⟩⟩:=aq
  ·have am:=hid ab;have ao:=hid F;have ak:=hid hB;have an:=hid hC;clear ab F hB hC I O G ae U;go_wp2_with fail;have j:=YE 0 W1;rw [if_pos rfl] at j;refine j.mono ?_
   rintro e V9 ⟨rfl,rfl⟩;go_wp2;go_end0;exact⟨am.o,Or.inl ⟨c',A',rfl,by rw [Vj.Dj N.o];exact ao.o,ak.o,an.o⟩⟩
  ·exact⟨rfl,ab,Or.inr ⟨E,c',C,rfl,by rw [Vj.Dj N.o];exact F,ar⟩⟩
 have g14:(x.ZV == 14)=false:=by simpa using h14
 by_cases h15:x.ZV=15
 ·have aJ:(x.ZV == 15)=true:=by simpa using h15
  have N:=hid h15;clear h15;go_wp2_with (first | (refine lO O aa underlying43 ?_) | fail);have cD:=GG c A x X k Y n g W0 I.o G.o ap.o;unfold Cm.cs at cD;refine cD.mono ?_
  clear cD;rintro e W1 hd;have aq:=ae.o _ _ _ hd;clear hd;obtain⟨ab,⟨c',A',rfl,F,hB,hC⟩ | ⟨E,c',C,rfl,F,ar⟩⟩:=aq
  ·have am:=hid ab;have ao:=hid F;have ak:=hid hB;have an:=hid hC;clear ab F hB hC I O G ae U;go_wp2_with fail;have j:=YE 0 W1;rw [if_pos rfl] at j;refine j.mono ?_
   rintro e V9 ⟨rfl,rfl⟩;go_wp2;go_end0;exact⟨am.o,Or.inl ⟨c',A',rfl,by rw [Vj.DE N.o];exact ao.o,ak.o,an.o⟩⟩
  ·exact⟨rfl,ab,Or.inr ⟨E,c',C,rfl,by rw [Vj.DE N.o];exact F,ar⟩⟩
 have g15:(x.ZV == 15)=false:=by simpa using h15
 by_cases h10:x.ZV=10
 ·have aF:(x.ZV == 10)=true:=by simpa using h10
  have N:=hid h10;clear h10;go_wp2_with fail;have T:Hid (Bw W0 W0.drew):=hid br.drew;have J:=TB c.ro A.a2 A.k2 A.a3 A.k3 x X k Y n W0.drew (G.o.later T.o).VE.nm (G.o.later T.o).VE.mb ap.o.2.1;unfold Cm.cs at J;replace J:=hid J;have aj:W0.drew.cell? (aD g 4)=some (sl A.a2 c.ro.ZU A.k2)/\W0.drew.cell? (aD g 5)=some (sl A.a3 c.ro.ZY A.k3)/\W0.drew.rangeAt w.heap.size 0 (zX x X k Y n):=⟨I.o.drew.cell 4,I.o.drew.cell 5,O.o.drew.Yz⟩
  refine Zp 12 (S:=fun w'=>w'.cell? (aD g 4)=some (sl A.a2 c.ro.ZU A.k2)/\w'.cell? (aD g 5)=some (sl A.a3 c.ro.ZY A.k3)/\w'.rangeAt w.heap.size 0 (zX x X k Y n)) (by kernel_rfl) aj (fun d=> ?_)
  (try simp only [pp]);refine YU 0 49 d ?_;refine YU 1 50 d ?_;refine YU 2 51 d ?_;refine YU 3 52 d ?_;refine YU 4 53 d ?_;refine Zu.take (i:=5) (oi:=⟨some 54,_,_,_,_,_⟩) (v:=_) rfl (by kernel_rfl) (by kernel_rfl) (by kernel_rfl) (by kernel_rfl) (fun _ _ _ h=>h) (yieldsIf_load_mid (by rfl) _ _ rfl (w.heap.size) 0 rfl (zX x X k Y n) _ (fun _ h=>h.2.2) underlying43 rfl aa.o) d ?_
  (try simp only [pp]);refine OH 6 55 fun K s=> ?_
  go_simp;refine J.o.mono ?_
  rintro e u ⟨er,V,B0,l0,B1,l1,rfl,ai,hb,au⟩;have ag:=hid ai;have aw:=hid au;have M:Hid (Bw W0 u):=hid (T.o.trans hb);have m:=bl I M.o;have XV:=bl O M.o;have L:u.cell? (aD g 4)=some (sl A.a2 c.ro.ZU A.k2)/\u.cell? (aD g 5)=some (sl A.a3 c.ro.ZY A.k3)/\u.rangeAt w.heap.size 0 (zX x X k Y n):=⟨m.o.cell 4,m.o.cell 5,XV.o.Yz⟩
  clear hb ai au;refine s.out _ _ L ?_
  clear s K;(try simp only [pp])
  clear d J;have d:=L;refine TU 7 48 (fun _=>d) ?_;refine TU 8 56 (fun _=>d) ?_;refine TU 9 57 (fun _=>d) ?_;refine TU 10 58 (fun _=>d) ?_;refine TU 11 59 (fun _=>d) ?_;have ah:=hid (G.o.later M.o)
  have av:=bt U M.o;clear T M I O XV U G ae;refine Zu.WR (i:=12) (o:=⟨none,_,_,_,_,_⟩) (by kernel_rfl) (by kernel_rfl) rfl (fun K s=> ?_)
  have e0:u.cell? (aD g 4)=some (sl A.a2 c.ro.ZU A.k2):=L.1;have e1:u.cell? (aD g 5)=some (sl A.a3 c.ro.ZY A.k3):=L.2.1;have q0:=m.o.frozen 4;have q1:=m.o.frozen 5;go_simp;refine s.out _ _ ?_
  clear s K;(try simp only [pp])
  refine Zu.behind (i:=13) (o:=⟨some 4,_,_,_,_,_⟩) (by kernel_rfl) (by kernel_rfl) rfl (fun K s=> ?_)
  go_simp;refine s.out _ _ (Zu.done (by kernel_rfl) ?_ _);clear s K d L aj e0 e1 q0 q1;refine Qv _ fun D hV=> ?_
  have ac:Hid (ZS [33] u D):=hid (by rw [hV];exact(ZS.Zx m.o.Xr (by simp) _).trans (ZS.Zx (m.o.Xr.setCell _ _) (by simp) _));have P2:Hid (ZP D g 33 [i6 c.ZO,i6 c.ZR,sl A.a0 c.ob.Z7 A.k0,sl A.a1 c.ob.Z8 A.k1,sl B0 V.ZU l0,sl B1 V.ZY l1,sl A.a4 c.Z4 A.k4]):=hid (by rw [hV];exact(m.o.Zx 4 _).Zx 5 _);have af:Hid (Y6 w.heap.size (some g) w D):=hid (by rw [hV];exact((av.o.x (some g)).S6 _).S6 _);clear hV;have Z:=ah.o.keeps ac.o (by decide);have ad:=ag.o.keeps ac.o (by decide);have HF:Hid (Ta D ⟨c.ZO,c.ZR,c.ob,V,c.Z4⟩ ⟨A.a0,A.k0,A.a1,A.k1,B0,l0,B1,l1,A.a4,A.k4⟩):=hid ⟨Z.sc,Z.tb,ad.nm.RW (by decide),ad.mb.RW (by decide),Z.gr⟩;clear Z ad ah ag ac m;by_cases C:er=0
  case neg=>
   go_wp2_with fail;have j:=YE er D;rw [if_neg C] at j;refine j.mono ?_
   rintro e V9 ⟨rfl,rfl⟩;go_wp2;exact⟨rfl,af.o,Or.inr ⟨er,⟨c.ZO,c.ZR,c.ob,V,c.Z4⟩,C,rfl,by rw [Vj.ro (Or.inl N.o)];exact Or.inl C,_,P2.o,rfl⟩⟩
  subst C;go_wp2_with fail;have j:=YE 0 D;rw [if_pos rfl] at j;refine j.mono ?_
  rintro e V9 ⟨rfl,rfl⟩;go_wp2;go_end0;exact⟨af.o,Or.inl ⟨⟨c.ZO,c.ZR,c.ob,V,c.Z4⟩,⟨A.a0,A.k0,A.a1,A.k1,B0,l0,B1,l1,A.a4,A.k4⟩,rfl,by rw [Vj.ro (Or.inl N.o)];exact Or.inr ⟨rfl,V,aw.o,rfl⟩,P2.o,HF.o⟩⟩
 have g10:(x.ZV == 10)=false:=by simpa using h10
 by_cases h12:x.ZV=12
 ·have t12:(x.ZV == 12)=true:=by simpa using h12
  have N:=hid h12;clear h12;go_wp2_with fail;have T:Hid (Bw W0 W0.drew):=hid br.drew;have J:=TB c.ro A.a2 A.k2 A.a3 A.k3 x X k Y n W0.drew (G.o.later T.o).VE.nm (G.o.later T.o).VE.mb ap.o.2.1;unfold Cm.cs at J;replace J:=hid J;have aj:W0.drew.cell? (aD g 4)=some (sl A.a2 c.ro.ZU A.k2)/\W0.drew.cell? (aD g 5)=some (sl A.a3 c.ro.ZY A.k3)/\W0.drew.rangeAt w.heap.size 0 (zX x X k Y n):=⟨I.o.drew.cell 4,I.o.drew.cell 5,O.o.drew.Yz⟩
  refine Zp 12 (S:=fun w'=>w'.cell? (aD g 4)=some (sl A.a2 c.ro.ZU A.k2)/\w'.cell? (aD g 5)=some (sl A.a3 c.ro.ZY A.k3)/\w'.rangeAt w.heap.size 0 (zX x X k Y n)) (by kernel_rfl) aj (fun d=> ?_)
  (try simp only [pp]);refine YU 0 49 d ?_;refine YU 1 50 d ?_;refine YU 2 51 d ?_;refine YU 3 52 d ?_;refine YU 4 53 d ?_;refine Zu.take (i:=5) (oi:=⟨some 54,_,_,_,_,_⟩) (v:=_) rfl (by kernel_rfl) (by kernel_rfl) (by kernel_rfl) (by kernel_rfl) (fun _ _ _ h=>h) (yieldsIf_load_mid (by rfl) _ _ rfl (w.heap.size) 0 rfl (zX x X k Y n) _ (fun _ h=>h.2.2) underlying43 rfl aa.o) d ?_
  (try simp only [pp]);refine OH 6 55 fun K s=> ?_
  go_simp;refine J.o.mono ?_
  rintro e u ⟨er,V,B0,l0,B1,l1,rfl,ai,hb,au⟩;have ag:=hid ai;have aw:=hid au;have M:Hid (Bw W0 u):=hid (T.o.trans hb);have m:=bl I M.o;have XV:=bl O M.o;have L:u.cell? (aD g 4)=some (sl A.a2 c.ro.ZU A.k2)/\u.cell? (aD g 5)=some (sl A.a3 c.ro.ZY A.k3)/\u.rangeAt w.heap.size 0 (zX x X k Y n):=⟨m.o.cell 4,m.o.cell 5,XV.o.Yz⟩
  clear hb ai au;refine s.out _ _ L ?_
  clear s K;(try simp only [pp])
  clear d J;have d:=L;refine TU 7 48 (fun _=>d) ?_;refine TU 8 56 (fun _=>d) ?_;refine TU 9 57 (fun _=>d) ?_;refine TU 10 58 (fun _=>d) ?_;refine TU 11 59 (fun _=>d) ?_;have ah:=hid (G.o.later M.o)
  have av:=bt U M.o;clear T M I O XV U G ae;refine Zu.WR (i:=12) (o:=⟨none,_,_,_,_,_⟩) (by kernel_rfl) (by kernel_rfl) rfl (fun K s=> ?_)
  have e0:u.cell? (aD g 4)=some (sl A.a2 c.ro.ZU A.k2):=L.1;have e1:u.cell? (aD g 5)=some (sl A.a3 c.ro.ZY A.k3):=L.2.1;have q0:=m.o.frozen 4;have q1:=m.o.frozen 5;go_simp;refine s.out _ _ ?_
  clear s K;(try simp only [pp])
  refine Zu.behind (i:=13) (o:=⟨some 4,_,_,_,_,_⟩) (by kernel_rfl) (by kernel_rfl) rfl (fun K s=> ?_)
  go_simp;refine s.out _ _ (Zu.done (by kernel_rfl) ?_ _);clear s K d L aj e0 e1 q0 q1;refine Qv _ fun D hV=> ?_
  have ac:Hid (ZS [33] u D):=hid (by rw [hV];exact(ZS.Zx m.o.Xr (by simp) _).trans (ZS.Zx (m.o.Xr.setCell _ _) (by simp) _));have P2:Hid (ZP D g 33 [i6 c.ZO,i6 c.ZR,sl A.a0 c.ob.Z7 A.k0,sl A.a1 c.ob.Z8 A.k1,sl B0 V.ZU l0,sl B1 V.ZY l1,sl A.a4 c.Z4 A.k4]):=hid (by rw [hV];exact(m.o.Zx 4 _).Zx 5 _);have af:Hid (Y6 w.heap.size (some g) w D):=hid (by rw [hV];exact((av.o.x (some g)).S6 _).S6 _);clear hV;have Z:=ah.o.keeps ac.o (by decide);have ad:=ag.o.keeps ac.o (by decide);have HF:Hid (Ta D ⟨c.ZO,c.ZR,c.ob,V,c.Z4⟩ ⟨A.a0,A.k0,A.a1,A.k1,B0,l0,B1,l1,A.a4,A.k4⟩):=hid ⟨Z.sc,Z.tb,ad.nm.RW (by decide),ad.mb.RW (by decide),Z.gr⟩;clear Z ad ah ag ac m;by_cases C:er=0
  case neg=>
   go_wp2_with fail;have j:=YE er D;rw [if_neg C] at j;refine j.mono ?_
   rintro e V9 ⟨rfl,rfl⟩;go_wp2;exact⟨rfl,af.o,Or.inr ⟨er,⟨c.ZO,c.ZR,c.ob,V,c.Z4⟩,C,rfl,by rw [Vj.ro (Or.inr (Or.inl N.o))];exact Or.inl C,_,P2.o,rfl⟩⟩
  subst C;go_wp2_with fail;have j:=YE 0 D;rw [if_pos rfl] at j;refine j.mono ?_
  rintro e V9 ⟨rfl,rfl⟩;go_wp2;go_end0;exact⟨af.o,Or.inl ⟨⟨c.ZO,c.ZR,c.ob,V,c.Z4⟩,⟨A.a0,A.k0,A.a1,A.k1,B0,l0,B1,l1,A.a4,A.k4⟩,rfl,by rw [Vj.ro (Or.inr (Or.inl N.o))];exact Or.inr ⟨rfl,V,aw.o,rfl⟩,P2.o,HF.o⟩⟩
 have g12:(x.ZV == 12)=false:=by simpa using h12
 by_cases h13:x.ZV=13
 ·have aH:(x.ZV == 13)=true:=by simpa using h13
  have N:=hid h13;clear h13;go_wp2_with fail;have T:Hid (Bw W0 W0.drew):=hid br.drew;have J:=TB c.ro A.a2 A.k2 A.a3 A.k3 x X k Y n W0.drew (G.o.later T.o).VE.nm (G.o.later T.o).VE.mb ap.o.2.1;unfold Cm.cs at J;replace J:=hid J;have aj:W0.drew.cell? (aD g 4)=some (sl A.a2 c.ro.ZU A.k2)/\W0.drew.cell? (aD g 5)=some (sl A.a3 c.ro.ZY A.k3)/\W0.drew.rangeAt w.heap.size 0 (zX x X k Y n):=⟨I.o.drew.cell 4,I.o.drew.cell 5,O.o.drew.Yz⟩
  refine Zp 12 (S:=fun w'=>w'.cell? (aD g 4)=some (sl A.a2 c.ro.ZU A.k2)/\w'.cell? (aD g 5)=some (sl A.a3 c.ro.ZY A.k3)/\w'.rangeAt w.heap.size 0 (zX x X k Y n)) (by kernel_rfl) aj (fun d=> ?_)
  (try simp only [pp]);refine YU 0 49 d ?_;refine YU 1 50 d ?_;refine YU 2 51 d ?_;refine YU 3 52 d ?_;refine YU 4 53 d ?_;refine Zu.take (i:=5) (oi:=⟨some 54,_,_,_,_,_⟩) (v:=_) rfl (by kernel_rfl) (by kernel_rfl) (by kernel_rfl) (by kernel_rfl) (fun _ _ _ h=>h) (yieldsIf_load_mid (by rfl) _ _ rfl (w.heap.size) 0 rfl (zX x X k Y n) _ (fun _ h=>h.2.2) underlying43 rfl aa.o) d ?_
  (try simp only [pp]);refine OH 6 55 fun K s=> ?_
  go_simp;refine J.o.mono ?_
  rintro e u ⟨er,V,B0,l0,B1,l1,rfl,ai,hb,au⟩;have ag:=hid ai;have aw:=hid au;have M:Hid (Bw W0 u):=hid (T.o.trans hb);have m:=bl I M.o;have XV:=bl O M.o;have L:u.cell? (aD g 4)=some (sl A.a2 c.ro.ZU A.k2)/\u.cell? (aD g 5)=some (sl A.a3 c.ro.ZY A.k3)/\u.rangeAt w.heap.size 0 (zX x X k Y n):=⟨m.o.cell 4,m.o.cell 5,XV.o.Yz⟩
  clear hb ai au;refine s.out _ _ L ?_
  clear s K;(try simp only [pp])
  clear d J;have d:=L;refine TU 7 48 (fun _=>d) ?_;refine TU 8 56 (fun _=>d) ?_;refine TU 9 57 (fun _=>d) ?_;refine TU 10 58 (fun _=>d) ?_;refine TU 11 59 (fun _=>d) ?_;have ah:=hid (G.o.later M.o)
  have av:=bt U M.o;clear T M I O XV U G ae;refine Zu.WR (i:=12) (o:=⟨none,_,_,_,_,_⟩) (by kernel_rfl) (by kernel_rfl) rfl (fun K s=> ?_)
  have e0:u.cell? (aD g 4)=some (sl A.a2 c.ro.ZU A.k2):=L.1;have e1:u.cell? (aD g 5)=some (sl A.a3 c.ro.ZY A.k3):=L.2.1;have q0:=m.o.frozen 4;have q1:=m.o.frozen 5;go_simp;refine s.out _ _ ?_
  clear s K;(try simp only [pp])
  refine Zu.behind (i:=13) (o:=⟨some 4,_,_,_,_,_⟩) (by kernel_rfl) (by kernel_rfl) rfl (fun K s=> ?_)
  go_simp;refine s.out _ _ (Zu.done (by kernel_rfl) ?_ _);clear s K d L aj e0 e1 q0 q1;refine Qv _ fun D hV=> ?_
  have ac:Hid (ZS [33] u D):=hid (by rw [hV];exact(ZS.Zx m.o.Xr (by simp) _).trans (ZS.Zx (m.o.Xr.setCell _ _) (by simp) _));have P2:Hid (ZP D g 33 [i6 c.ZO,i6 c.ZR,sl A.a0 c.ob.Z7 A.k0,sl A.a1 c.ob.Z8 A.k1,sl B0 V.ZU l0,sl B1 V.ZY l1,sl A.a4 c.Z4 A.k4]):=hid (by rw [hV];exact(m.o.Zx 4 _).Zx 5 _);have af:Hid (Y6 w.heap.size (some g) w D):=hid (by rw [hV];exact((av.o.x (some g)).S6 _).S6 _);clear hV;have Z:=ah.o.keeps ac.o (by decide);have ad:=ag.o.keeps ac.o (by decide);have HF:Hid (Ta D ⟨c.ZO,c.ZR,c.ob,V,c.Z4⟩ ⟨A.a0,A.k0,A.a1,A.k1,B0,l0,B1,l1,A.a4,A.k4⟩):=hid ⟨Z.sc,Z.tb,ad.nm.RW (by decide),ad.mb.RW (by decide),Z.gr⟩;clear Z ad ah ag ac m;by_cases C:er=0
  case neg=>
   go_wp2_with fail;have j:=YE er D;rw [if_neg C] at j;refine j.mono ?_
   rintro e V9 ⟨rfl,rfl⟩;go_wp2;exact⟨rfl,af.o,Or.inr ⟨er,⟨c.ZO,c.ZR,c.ob,V,c.Z4⟩,C,rfl,by rw [Vj.ro (Or.inr (Or.inr N.o))];exact Or.inl C,_,P2.o,rfl⟩⟩
  subst C;go_wp2_with fail;have j:=YE 0 D;rw [if_pos rfl] at j;refine j.mono ?_
  rintro e V9 ⟨rfl,rfl⟩;go_wp2;go_end0;exact⟨af.o,Or.inl ⟨⟨c.ZO,c.ZR,c.ob,V,c.Z4⟩,⟨A.a0,A.k0,A.a1,A.k1,B0,l0,B1,l1,A.a4,A.k4⟩,rfl,by rw [Vj.ro (Or.inr (Or.inr N.o))];exact Or.inr ⟨rfl,V,aw.o,rfl⟩,P2.o,HF.o⟩⟩
 have g13:(x.ZV == 13)=false:=by simpa using h13
 go_wp2_with fail;have T:Hid (Bw W0 W0.drew):=hid br.drew;have J:=Ow c.ob A.a0 A.k0 A.a1 A.k1 x X k Y n W0.drew ⟨(G.o.later T.o).VE.sc,(G.o.later T.o).VE.tb⟩ ap.o.1 (HX.o.later (U.o.trans (T.o.mono U.o.size))) (HY.o.later (U.o.trans (T.o.mono U.o.size))) aA.o ay.o H5.o;unfold Cm.cs at J;replace J:=hid J;have aj:W0.drew.cell? (aD g 2)=some (sl A.a0 c.ob.Z7 A.k0)/\W0.drew.cell? (aD g 3)=some (sl A.a1 c.ob.Z8 A.k1)/\W0.drew.rangeAt w.heap.size 0 (zX x X k Y n):=⟨I.o.drew.cell 2,I.o.drew.cell 3,O.o.drew.Yz⟩
 refine Zp 12 (S:=fun w'=>w'.cell? (aD g 2)=some (sl A.a0 c.ob.Z7 A.k0)/\w'.cell? (aD g 3)=some (sl A.a1 c.ob.Z8 A.k1)/\w'.rangeAt w.heap.size 0 (zX x X k Y n)) (by kernel_rfl) aj (fun d=> ?_)
 (try simp only [pp]);refine YU 0 8 d ?_;refine YU 1 9 d ?_;refine YU 2 10 d ?_;refine YU 3 11 d ?_;refine YU 4 12 d ?_;refine Zu.take (i:=5) (oi:=⟨some 13,_,_,_,_,_⟩) (v:=_) rfl (by kernel_rfl) (by kernel_rfl) (by kernel_rfl) (by kernel_rfl) (fun _ _ _ h=>h) (yieldsIf_load_mid (by rfl) _ _ rfl (w.heap.size) 0 rfl (zX x X k Y n) _ (fun _ h=>h.2.2) underlying43 rfl aa.o) d ?_
 (try simp only [pp]);refine OH 6 14 fun K s=> ?_
 go_simp;refine J.o.mono ?_
 rintro e u ⟨er,o',B0,l0,B1,l1,rfl,F,ai,hb⟩;have ag:=hid ai;have HR:=hid F;have M:Hid (Bw W0 u):=hid (T.o.trans hb);have m:=bl I M.o;have XV:=bl O M.o;have L:u.cell? (aD g 2)=some (sl A.a0 c.ob.Z7 A.k0)/\u.cell? (aD g 3)=some (sl A.a1 c.ob.Z8 A.k1)/\u.rangeAt w.heap.size 0 (zX x X k Y n):=⟨m.o.cell 2,m.o.cell 3,XV.o.Yz⟩
 clear hb ai F;refine s.out _ _ L ?_
 clear s K;(try simp only [pp])
 clear d J;have d:=L;refine TU 7 7 (fun _=>d) ?_;refine TU 8 15 (fun _=>d) ?_;refine TU 9 16 (fun _=>d) ?_;refine TU 10 17 (fun _=>d) ?_;refine TU 11 18 (fun _=>d) ?_;have ah:=hid (G.o.later M.o)
 have av:=bt U M.o;clear T M I O XV U G ae;refine Zu.WR (i:=12) (o:=⟨none,_,_,_,_,_⟩) (by kernel_rfl) (by kernel_rfl) rfl (fun K s=> ?_)
 have e0:u.cell? (aD g 2)=some (sl A.a0 c.ob.Z7 A.k0):=L.1;have e1:u.cell? (aD g 3)=some (sl A.a1 c.ob.Z8 A.k1):=L.2.1;have q0:=m.o.frozen 2;have q1:=m.o.frozen 3;go_simp;refine s.out _ _ ?_
 clear s K;(try simp only [pp])
 refine Zu.behind (i:=13) (o:=⟨some 4,_,_,_,_,_⟩) (by kernel_rfl) (by kernel_rfl) rfl (fun K s=> ?_)
 go_simp;refine s.out _ _ (Zu.done (by kernel_rfl) ?_ _);clear s K d L aj e0 e1 q0 q1;refine Qv _ fun D hV=> ?_
 have ac:Hid (ZS [33] u D):=hid (by rw [hV];exact(ZS.Zx m.o.Xr (by simp) _).trans (ZS.Zx (m.o.Xr.setCell _ _) (by simp) _));have P2:Hid (ZP D g 33 [i6 c.ZO,i6 c.ZR,sl B0 o'.Z7 l0,sl B1 o'.Z8 l1,sl A.a2 c.ro.ZU A.k2,sl A.a3 c.ro.ZY A.k3,sl A.a4 c.Z4 A.k4]):=hid (by rw [hV];exact(m.o.Zx 2 _).Zx 3 _);have af:Hid (Y6 w.heap.size (some g) w D):=hid (by rw [hV];exact((av.o.x (some g)).S6 _).S6 _);clear hV;have Z:=ah.o.keeps ac.o (by decide);have ad:=ag.o.keeps ac.o (by decide);have HF:Hid (Ta D ⟨c.ZO,c.ZR,o',c.ro,c.Z4⟩ ⟨B0,l0,B1,l1,A.a2,A.k2,A.a3,A.k3,A.a4,A.k4⟩):=hid ⟨ad.Dv,ad.Dt,Z.nm,Z.mb,Z.gr⟩;clear Z ad ah ag ac m;by_cases C:er=0
 case neg=>
  go_wp2_with fail;have j:=YE er D;rw [if_neg C] at j;refine j.mono ?_
  rintro e V9 ⟨rfl,rfl⟩;go_wp2;exact⟨rfl,af.o,Or.inr ⟨er,⟨c.ZO,c.ZR,o',c.ro,c.Z4⟩,C,rfl,by rw [Vj.ob h4 h9 h11 h14 h15 (by omega)];exact⟨o',HR.o,rfl⟩,_,P2.o,rfl⟩⟩
 subst C;go_wp2_with fail;have j:=YE 0 D;rw [if_pos rfl] at j;refine j.mono ?_
 rintro e V9 ⟨rfl,rfl⟩;go_wp2;go_end0;exact⟨af.o,Or.inl ⟨⟨c.ZO,c.ZR,o',c.ro,c.Z4⟩,⟨B0,l0,B1,l1,A.a2,A.k2,A.a3,A.k3,A.a4,A.k4⟩,rfl,by rw [Vj.ob h4 h9 h11 h14 h15 (by omega)];exact⟨o',HR.o,rfl⟩,P2.o,HF.o⟩⟩
theorem Ru.Zo.up {r:Ru}{M N:Nat}(h:r.Zo M)(d:M<=N):r.Zo N:=⟨Nat.le_trans h.1 d,Nat.le_trans h.2.1 d,Nat.le_trans h.2.2.1 d,Nat.le_trans h.2.2.2 d⟩
theorem Tb.Zo.up {t:Tb}{M N:Nat}(h:t.Zo M)(d:M<=N):t.Zo N:=⟨Nat.le_trans h.1 d,Nat.le_trans h.2.1 d,fun r j=>(h.2.2 r j).up d⟩
theorem Ob.Zo.up {o:Ob}{M N:Nat}(h:o.Zo M)(d:M<=N):o.Zo N:=⟨Nat.le_trans h.1 d,Nat.le_trans h.2.1 d,fun t j=>(h.2.2 t j).up d⟩
theorem Ro.Zo.up {r:Ro}{M N:Nat}(h:r.Zo M)(d:M<=N):r.Zo N:=⟨Nat.le_trans h.1 d,Nat.le_trans h.2.1 d,fun n s=>Nat.le_trans (h.2.2.1 n s) d,fun m j=>⟨Nat.le_trans (h.2.2.2 m j).1 d,Nat.le_trans (h.2.2.2 m j).2 d⟩⟩
theorem Ca.Zo.up {c:Ca}{M N:Nat}(h:c.Zo M)(d:M<=N):c.Zo N:=⟨Ob.Zo.up h.1 d,Ro.Zo.up h.2.1 d,Nat.le_trans h.2.2 d⟩
theorem Tq {o:Ob}{i:Nat}{t:Tb}{M:Nat}(d:o.Zo M)(j:t.Zo M):(Tp o i t).Zo M:=by
 refine⟨d.1,by simpa [Tp] using d.2.1,fun y m=> ?_⟩
 rcases List.mem_or_eq_of_mem_set m with h | h
 ·exact d.2.2 y h
 ·rw [h];exact j
theorem Wj {o:Ob}{M i:Nat}(h:o.Zo M)(d:i<o.Z8.length):(o.Z8[i]).Zo M:=h.2.2 _ (List.getElem_mem d)
theorem GD {o E:Ob}{x:Cm}{M:Nat}(u:o.Zo 64)(I:65<=M)(D:x.Zo M)(h:EH o x 0 E):E.Zo M:=by
 have d:=u.up (show 64<=M by omega);unfold EH at h;split at h
 ·rcases h with ⟨rfl,_⟩ | ⟨_,_,_,_,_,G,s,_,rfl⟩
  ·exact d
  ·refine⟨?_,d.2⟩
   have:=s.length_eq;have:=u.1;simp at*;omega
 split at h
 ·rcases h with ⟨_,rfl⟩ | ⟨_,k,_,_,rfl⟩
  ·exact d
  ·exact⟨Nat.le_trans (List.length_eraseIdx_le _ _) d.1,d.2⟩
 split at h
 ·rcases h with ⟨_,rfl,_⟩ | ⟨_,_,_,_,_,_,_,_,ts',s,_,rfl⟩
  ·exact d
  ·refine⟨d.1,?_,fun y C=> ?_⟩
   ·have:=s.length_eq;have:=u.2.1;simp at*;omega
   ·have:=s.mem_iff.1 C;rcases List.mem_append.1 this with m | m
    ·exact d.2.2 y m
    ·rw [List.mem_singleton.1 m];exact⟨D.2.2.2.2.2.1,by simp,by simp⟩
 split at h
 ·rcases h with ⟨_,h⟩ | ⟨i,_,h⟩
  ·cases h
  ·rcases h with ⟨_,rfl⟩ | ⟨_,j,_,_,_,_,rfl⟩
   ·exact d
   ·refine Tq d ⟨?_,(Wj d j).2⟩
    have:=(Wj u j).1;simp
    omega
 split at h
 ·rcases h with ⟨_,h⟩ | ⟨i,_,h⟩
  ·cases h
  ·rcases h with ⟨_,rfl⟩ | ⟨_,j,k,_,_,_,rfl⟩
   ·exact d
   ·exact Tq d ⟨Nat.le_trans (List.length_eraseIdx_le _ _) (Wj d j).1,(Wj d j).2⟩
 split at h
 ·rcases h with ⟨_,h⟩ | ⟨i,_,h⟩
  ·cases h
  ·rcases h with ⟨_,rfl⟩ | ⟨_,j,_,_,_,_,F,s,_,rfl⟩
   ·exact d
   ·refine Tq d ⟨(Wj d j).1,?_,fun y C=> ?_⟩
    ·have:=s.length_eq;have:=(Wj u j).2.1;simp at*;omega
    ·have:=s.mem_iff.1 C;rcases List.mem_append.1 this with m | m
     ·exact(Wj d j).2.2 y m
     ·rw [List.mem_singleton.1 m];exact D.2.2.2.2.2.2.1
 ·rcases h with ⟨_,h⟩ | ⟨i,_,h⟩
  ·cases h
  ·rcases h with ⟨_,rfl⟩ | ⟨_,j,k,_,_,rfl⟩
   ·exact d
   ·exact Tq d ⟨(Wj d j).1,Nat.le_trans (List.length_eraseIdx_le _ _) (Wj d j).2.1,fun y C=>(Wj d j).2.2 y (List.mem_of_mem_eraseIdx C)⟩
theorem TO {o j:Ob}{R:Int->Ob->Prop}(h:MM o R 0 j):Zc o=true/\R 0 j:=by
 unfold MM at h;split at h
 ·rename_i m;obtain⟨u,s,d⟩:=h;simp only [if_true] at d;rw [d];exact⟨m,s⟩
 ·cases h.1
theorem JC {c u:Ca}{x:Cm}{M:Nat}(C:512<=M)(D:c.Zo 256)(I:x.Zo M)(h:Vj c x 0 u):u.Zo M:=by
 have d:=Ca.Zo.up D (show 256<=M by omega);unfold Vj at h;split at h
 ·obtain⟨E,m,rfl⟩:=h;obtain⟨s,j⟩:=TO m;refine⟨?_,d.2.1,Nat.le_trans (List.length_filter_le _ _) d.2.2⟩
  rcases j with ⟨_,rfl⟩ | ⟨_,i,_,_,rfl⟩
  ·exact d.1
  ·exact⟨d.1.1,Nat.le_trans (List.length_eraseIdx_le _ _) d.1.2.1,fun y J=>d.1.2.2 y (List.mem_of_mem_eraseIdx J)⟩
 split at h
 ·rcases h with ⟨h,_⟩ | ⟨_,E,m,rfl⟩
  ·cases h
  ·obtain⟨s,j⟩:=TO m;refine⟨?_,d.2⟩
   rcases j with ⟨h,_⟩ | ⟨h,F⟩ | ⟨i,_,_,G,rfl⟩
   ·cases h
   ·cases F
   ·exact Tq d.1 (Wj d.1 G)
 split at h
 ·rcases h with h | ⟨_,K,j,rfl⟩
  ·exact absurd rfl h
  ·exact⟨d.1,j.up C,d.2.2⟩
 split at h
 ·rcases h with h | ⟨_,l,L,rfl⟩
  ·exact absurd rfl h
  ·refine⟨d.1,d.2.1,?_⟩
   have:=D.2.2;show l.length<=M
   omega
 split at h
 ·rcases h with ⟨h,_⟩ | ⟨_,_,rfl⟩
  ·cases h
  ·exact⟨d.1,d.2.1,Nat.le_trans (List.length_filter_le _ _) d.2.2⟩
 split at h
 ·rcases h with h | ⟨_,K,j,rfl⟩
  ·exact absurd rfl h
  ·exact⟨d.1,j.up C,d.2.2⟩
 ·obtain⟨E,m,rfl⟩:=h;obtain⟨s,j⟩:=TO m;exact⟨GD (UU s) (by omega) I j,d.2⟩
end Go.Proofs.YtnhmoibjlakhjaaGreat
