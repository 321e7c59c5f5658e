/- Lemmas, each under its own conditions. -/
import Derived.Test.YtnhmoibjlakhjaaGreatW43
import Derived.Test.YtnhmoibjlakhjaaGreatW44
set_option linter.all false
namespace Go.Proofs.YtnhmoibjlakhjaaGreat
open Go.Proofs.Tryz
open Lib (hid)
set_option maxRecDepth 100000
set_option maxHeartbeats 16000000
open Go.RowKit
def Iq (g:Nat)(w:World)(R:Int->Ca->Prop)(e:Ending)(w':World):Prop:=
 Y6 w.heap.size (some g) w w'/\((∃ c' A',e= .returned (.tuple #[])/\R 0 c'/\ZP w' g 33 (c'.cs A')/\Ta w' c' A')∨(∃ E c',E≠0/\e= .panicked (Sl E)/\R E c'/\ ∃ vs,ZP w' g 33 vs/\vs.length=7))
theorem Y6.S6 {B c i:Nat}{w d:World}(h:Y6 B (some c) w d)(u:Value):Y6 B (some c) w (d.setCell (aD c i) u):=⟨h.os,h.tape,h.output,by simpa [World.setCell] using h.size,fun k m j=>(Below.heap_setCell d (aD c i) u k (fun e=>j (by rw [e]))).trans (h.block k m j)⟩
theorem ZS.Nn {w:World}(o:Obj):ZS [] w (w.alloc o):=ZS.ZA ((Below.refl w.heap.size w).alloc lr o) lr
theorem Ev {F T:Nat->Int->Ob->oA->Nat->oA->Nat->World->Prop}{G:Prop}(h:(∀ p e o a k b l w,F p e o a k b l w->T p e o a k b l w)->G)(k: ∀ p e o a k b l w,F p e o a k b l w->T p e o a k b l w):G:=h k
theorem DJ {F T:Nat->Int->Ro->oA->Nat->oA->Nat->World->Prop}{G:Prop}(h:(∀ p e o a k b l w,F p e o a k b l w->T p e o a k b l w)->G)(k: ∀ p e o a k b l w,F p e o a k b l w->T p e o a k b l w):G:=h k
theorem Fa {F T:Nat->Int->Ca->Wd->World->Prop}{G:Prop}(h:(∀ p e o a w,F p e o a w->T p e o a w)->G)(k: ∀ p e o a w,F p e o a w->T p e o a w):G:=h k
def Gd (c:Ca)(x:Cm)(er:Int)(c':Ca):Prop:= ∃ o',MM c.ob (Vw c.ob x.Z9 x.ZZ) er o'/\c'=⟨c.ZO,c.ZR,o',c.ro,c.Z4.filter fun y=> !RO x y⟩
def Gb (c:Ca)(x:Cm)(er:Int)(c':Ca):Prop:=(er=71/\c.ro.ZU.contains x.ZQ=false)∨(c.ro.ZU.contains x.ZQ=true/\ ∃ o',MM c.ob (Ea c.ob x.Z9 x.ZZ x.ZQ) er o'/\c'=⟨c.ZO,c.ZR,o',c.ro,c.Z4⟩)
def Je (c:Ca)(er:Int)(c':Ca):Prop:=er≠0∨(er=0/\ ∃ r':Ro,r'.Zo 512/\c'=⟨c.ZO,c.ZR,c.ob,r',c.Z4⟩)
def DR (c:Ca)(er:Int)(c':Ca):Prop:=er≠0∨(er=0/\ ∃ l:List Gr,l.length<=c.Z4.length+1/\c'=⟨c.ZO,c.ZR,c.ob,c.ro,l⟩)
theorem Mi (c:Ca)(A:Wd)(x:Cm)(X:oA)(k:Nat)(Y:oA)(n:Nat)(g:Nat)(w:World)(hP:ZP w g 33 (c.cs A))(hT:Ta w c A)(ht:c.Zo 1099511627776):
  cQ 80 #[pT g,.agg (x.cs X k Y n).toArray] w (Iq g w (Gd c x)):=by
 have HT:=hid hT;have ak:=hid ht;have aj:=iN 26 2;have az:=iN 30 2;have aC:=iN 33 7;have aE:=hP.lt;have Z:Hid (Below w.heap.size w (w.alloc (.cells (zX x X k Y n).toArray 43))):=hid (br.alloc lr _);have h:Hid (ZP (w.alloc (.cells (zX x X k Y n).toArray 43)) g 33 (zC c A)):=hid (hP.alloc _);have j:Hid (ZP (w.alloc (.cells (zX x X k Y n).toArray 43)) w.heap.size 43 (zX x X k Y n)):=hid (ZP.new w _ _);clear hT ht hP;unfold Cm.cs;go_enter func80,ntmps80
 go_wp2_with fail;generalize (w.alloc (.cells (zX x X k Y n).toArray 43))=W0 at*;refine' Ev (F:=fun p T C E L G M V=>Hid (ZP V p 26 [sl E C.Z7 L,sl G C.Z8 M])/\Hid (Bw W0 V)/\Hid (W0.heap.size<=p)/\Hid (Nv V C E G)/\Hid (MM c.ob (Vw c.ob x.Z9 x.ZZ) T C)) (fun key=>_) _
 rotate_left
 ·refine wp_region_held_drew (S:=fun w'=>w'.cell? (aD g 2)=some (sl A.a0 c.ob.Z7 A.k0)/\w'.cell? (aD g 3)=some (sl A.a1 c.ob.Z8 A.k1)/\w'.cell? (aN w 2)=some (sT x.Z9)/\w'.cell? (aN w 3)=some (sT x.ZZ)) (by kernel_rfl) ⟨cb h ((Below.refl W0.heap.size W0).drew) 2,cb h ((Below.refl W0.heap.size W0).drew) 3,cb j ((Below.refl W0.heap.size W0).drew) 2,cb j ((Below.refl W0.heap.size W0).drew) 3⟩ (fun s=> ?_)
  (try simp only [pp]);refine tk 0 7 s ?_;refine tk 1 8 s ?_;refine tk 2 9 s ?_;refine tk 3 10 s ?_;refine tk 4 11 s ?_;refine tk 5 12 s ?_;refine tk 6 13 s ?_;refine tk 7 14 s ?_;refine wpAnyH_ready (rs:= [8,12]) (by kernel_rfl) (by simp) ?_
  refine AllReadyH.cons (o:=⟨some 15,_,_,_,_,_⟩) rfl (fun K u=> ?_) (AllReadyH.cons (o:=⟨some 4,_,_,_,_,_⟩) rfl (fun K u=> ?_) AllReadyH.nil)
  ·go_simp;refine(SZ c.ob A.a0 A.k0 A.a1 A.k1 x.Z9 x.ZZ W0.drew ⟨((HT.o.later Z.o).later ((Below.refl W0.heap.size W0).drew)).VE.sc,((HT.o.later Z.o).later ((Below.refl W0.heap.size W0).drew)).VE.tb⟩ ak.o.1).mono ?_
   rintro e I ⟨T,C,E,L,G,M,rfl,hR,ad,hb⟩;have d:Hid (Bw W0 I):=hid ((Below.refl W0.heap.size W0).drew.trans hb);have HR:=hid hR;have N:=hid ad;clear hb hR ad;refine u.out _ _ ⟨((d.o).cell (p:=(aD g 2)) h.o.lt).trans (h.o.cell 2),((d.o).cell (p:=(aD g 3)) h.o.lt).trans (h.o.cell 3),((d.o).cell (p:=(aN w 2)) j.o.lt).trans (j.o.cell 2),((d.o).cell (p:=(aN w 3)) j.o.lt).trans (j.o.cell 3)⟩ (fun s=> ?_);clear u K;(try simp only [pp])
   refine tk 9 6 s ?_;refine tk 10 16 s ?_;refine tk 11 17 s ?_;refine on 12 4 fun K u=> ?_
   go_simp;have an:Hid (Below W0.heap.size W0 (I.alloc (.cells #[sN,sN] 26))):=hid (d.o.alloc d.o.size _);have O:Hid (ZP (I.alloc (.cells #[sN,sN] 26)) I.heap.size 26 [sN,sN]):=hid (ZP.new I _ _);have ac:Hid (W0.heap.size<=I.heap.size):=hid d.o.size;have aa:=hid (N.o.keeps (ZS.Nn (w:=I) (.cells #[sN,sN] 26)) (by simp));clear d N;generalize I.alloc (.cells #[sN,sN] 26)=V2 at*;generalize I.heap.size=p at*;have d:=an;have N:=aa;clear an aa;refine u.out _ _ ⟨((d.o).cell (p:=(aD g 2)) h.o.lt).trans (h.o.cell 2),((d.o).cell (p:=(aD g 3)) h.o.lt).trans (h.o.cell 3),((d.o).cell (p:=(aN w 2)) j.o.lt).trans (j.o.cell 2),((d.o).cell (p:=(aN w 3)) j.o.lt).trans (j.o.cell 3)⟩ (fun s=> ?_);clear u K;(try simp only [pp])
   refine SR 13 fun K u=> ?_
   refine Zk rfl 26 _ _ rfl p [sl E C.Z7 L,sl G C.Z8 M] rfl rfl O rfl rfl aj (by simp [Value.oneCell']) ?_
   intro w9 U;have D:Hid (Bw W0 w9):=hid (U.o.below d.o ac.o);have ab:=hid (N.o.keeps U.o.keeps (by decide));refine u.out _ _ ⟨cb h (D.o) 2,cb h (D.o) 3,cb j (D.o) 2,cb j (D.o) 3⟩ (fun s=> ?_);clear u K;(try simp only [pp])
   refine tk 14 5 s ?_;refine wpAnyH_done (by kernel_rfl) ?_ _
   exact key p T C E L G M w9 ⟨hid U.o.YK,D,ac,ab,HR⟩
  ·go_simp;have d:Hid (Below W0.heap.size W0 (W0.alloc (.cells #[sN,sN] 26)).drew):=hid (br.alloc lr _).drew;have O:Hid (ZP (W0.alloc (.cells #[sN,sN] 26)).drew W0.heap.size 26 [sN,sN]):=hid (ZP.new W0 _ _).drew;obtain⟨p,hp⟩: ∃ p,p=W0.heap.size:=⟨_,rfl⟩
   have ac:Hid (W0.heap.size<=p):=hid (by rw [hp];exact Nat.le_refl _);have ap:Hid (ZP (W0.alloc (.cells #[sN,sN] 26)).drew p 26 [sN,sN]):=hid (by rw [hp];exact O.o);generalize hV0:(W0.alloc (.cells #[sN,sN] 26)).drew=V0 at*;rw [<-hp];clear O hp hV0;refine u.out _ _ ⟨((d.o).cell (p:=(aD g 2)) h.o.lt).trans (h.o.cell 2),((d.o).cell (p:=(aD g 3)) h.o.lt).trans (h.o.cell 3),((d.o).cell (p:=(aN w 2)) j.o.lt).trans (j.o.cell 2),((d.o).cell (p:=(aN w 3)) j.o.lt).trans (j.o.cell 3)⟩ (fun s=> ?_);clear u K;(try simp only [pp])
   refine on 8 15 fun K u=> ?_
   go_simp;refine(SZ c.ob A.a0 A.k0 A.a1 A.k1 x.Z9 x.ZZ V0 ⟨((HT.o.later Z.o).later (d.o)).VE.sc,((HT.o.later Z.o).later (d.o)).VE.tb⟩ ak.o.1).mono ?_
   rintro e I ⟨T,C,E,L,G,M,rfl,hR,ad,hb⟩;have O:=bl ap hb;replace d:Hid (Bw W0 I):=hid (d.o.trans (hb.mono d.o.size));have HR:=hid hR;have N:=hid ad;clear hb ap hR ad;refine u.out _ _ ⟨((d.o).cell (p:=(aD g 2)) h.o.lt).trans (h.o.cell 2),((d.o).cell (p:=(aD g 3)) h.o.lt).trans (h.o.cell 3),((d.o).cell (p:=(aN w 2)) j.o.lt).trans (j.o.cell 2),((d.o).cell (p:=(aN w 3)) j.o.lt).trans (j.o.cell 3)⟩ (fun s=> ?_);clear u K;(try simp only [pp])
   refine tk 9 6 s ?_;refine tk 10 16 s ?_;refine tk 11 17 s ?_;refine SR 13 fun K u=> ?_
   refine Zk rfl 26 _ _ rfl p [sl E C.Z7 L,sl G C.Z8 M] rfl rfl O rfl rfl aj (by simp [Value.oneCell']) ?_
   intro w9 U;have D:Hid (Bw W0 w9):=hid (U.o.below d.o ac.o);have ab:=hid (N.o.keeps U.o.keeps (by decide));refine u.out _ _ ⟨cb h (D.o) 2,cb h (D.o) 3,cb j (D.o) 2,cb j (D.o) 3⟩ (fun s=> ?_);clear u K;(try simp only [pp])
   refine tk 14 5 s ?_;refine wpAnyH_done (by kernel_rfl) ?_ _
   exact key p T C E L G M w9 ⟨hid U.o.YK,D,ac,ab,HR⟩
 ·rintro p T C E L G M V ⟨O,af,ac,N,HR⟩;have J:=bl h af.o;have XV:=bl j af.o;have ao:=bt Z af.o;have ar:=hid ((HT.o.later Z.o).later af.o);have aF:=Z.o.size;clear h j;by_cases h0:T=0
  case neg=>
   go_wp2_with fail;have cM:=YE T V;rw [if_neg h0] at cM;refine cM.mono ?_
   rintro e V9 ⟨rfl,rfl⟩;go_wp2;exact⟨rfl,ao.o.x _,Or.inr ⟨T,⟨c.ZO,c.ZR,C,c.ro,c.Z4.filter fun y=> !RO x y⟩,h0,rfl,⟨C,HR.o,rfl⟩,_,J.o,rfl⟩⟩
  subst h0;go_wp2_with fail;have cM:=YE 0 V;rw [if_pos rfl] at cM;refine cM.mono ?_
  rintro e V9 ⟨rfl,rfl⟩;clear cM;have e2:=ce J 2;have e3:=ce J 3;have e6:=ce J 6;have f2:=J.o.frozen 2;have f3:=J.o.frozen 3;go_wp2_with (first | (refine lO O aj underlying26 ?_) | fail);refine Zi _ fun V2 hV=> ?_
  have ag:Hid (ZS [33] V9 V2):=hid (by rw [hV];exact(ZS.Zx J.o.Xr (by simp) _).trans (ZS.Zx (J.o.Xr.setCell _ _) (by simp) _));have P2:Hid (ZP V2 g 33 [i6 c.ZO,i6 c.ZR,sl E C.Z7 L,sl G C.Z8 M,sl A.a2 c.ro.ZU A.k2,sl A.a3 c.ro.ZY A.k3,sl A.a4 c.Z4 A.k4]):=hid (by rw [hV];exact(J.o.Zx 2 _).Zx 3 _);have am:Hid (Y6 w.heap.size (some g) w V2):=hid (by rw [hV];exact((ao.o.x (some g)).S6 _).S6 _);clear hV;have au:=hid (XV.o.keeps ag.o (by decide));have aq:=hid (ar.o.keeps ag.o (by decide));have aa:=hid (N.o.keeps ag.o (by decide));have ay:=ak.o.2.2;clear ag J e2 e3 e6 f2 f3 XV ar N O;have ah:=au.o.lt;refine(UT A.a4 A.k4 c.Z4 V2 (Gr.Yn aq.o.VE.gr) ay).mono ?_
  rintro e V3 ⟨B4,l4,rfl,ho,hb⟩;have aA:=hid ho;have ai:=hid hb;have av:=hid (au.o.below hb ah);clear ho hb;go_wp2_with fail;refine(JD (RO x) 126 #[pT w.heap.size] V2.heap.size c.Z4 B4 l4 V3 (enters_of func126 (by kernel_rfl) rfl) aA.o ay ai.o.size (fun W y hW hy=>OA x y w.heap.size W (Nat.lt_of_lt_of_le (Nat.lt_of_lt_of_le ah ai.o.size) hW.size) ((av.o.below hW ah).cell 2) ((av.o.below hW ah).cell 3))).mono ?_
  rintro e V4 ⟨m,rfl,rfl,ho,hb⟩;have ae:Hid (Bw V2 V4):=hid (ai.o.trans hb);have P4:=bl P2 ae.o;have aB:=hid ho;clear ho hb;have e6:=ce P4 6;have f6:=P4.o.frozen 6;have HF:Hid (∀ W,W=V4.setCell (aD g 6) (sl B4 (c.Z4.filter fun y=> !RO x y) l4)->Iq g w (Gd c x) (.returned (.tuple #[])) W):=hid (by
   rintro W rfl;have u:ZS [33] V4 (V4.setCell (aD g 6) (sl B4 (c.Z4.filter fun y=> !RO x y) l4)):=ZS.Zx P4.o.Xr (by simp) _;have ax:=(aq.o.later ae.o).keeps u (by decide);have aw:=(aa.o.keeps (us:= []) (ZS.ZA ae.o lr) (by simp)).keeps u (by decide);exact⟨(am.o.post (ae.o.mono am.o.size)).S6 _,Or.inl ⟨⟨c.ZO,c.ZR,C,c.ro,c.Z4.filter fun y=> !RO x y⟩,⟨E,L,G,M,A.a2,A.k2,A.a3,A.k3,B4,l4⟩,rfl,⟨C,HR.o,rfl⟩,P4.o.Zx 6 _,⟨aw.Dv,aw.Dt,ax.nm,ax.mb,Xn (us:=CT) (aB.o.keeps u (by decide))⟩⟩⟩)
  go_wp2;go_end0;exact HF.o _ rfl
end Go.Proofs.YtnhmoibjlakhjaaGreat
