/- Lemmas, each under its own conditions. -/
import Derived.Test.YtnhmoibjlakhjaaGreatW48
import Derived.Test.YtnhmoibjlakhjaaGreatW41
set_option linter.all false
namespace Go.Proofs.YtnhmoibjlakhjaaGreat
open Go.Proofs.Tryz
set_option maxRecDepth 100000
set_option maxHeartbeats 16000000
theorem F9 {c s:Ca}{x:Cm}(h:Fj c x 0 s)(j:Zc c.ob=true):Zc s.ob=true:=by
 rcases h with ⟨h,u⟩ | ⟨_,h,_⟩ | ⟨_,_,h⟩ | ⟨_,h,_,c1,l,hd,_,rfl⟩
 ·exact absurd u.symm h
 ·exact absurd rfl h
 ·cases h
 have m:=(NK h).2;show Zc c1.ob=true;unfold Vj at hd;split at hd
 ·obtain⟨o,d,rfl⟩:=hd;have k:=TO d;exact SK (L3 (Vf k.1) k.2)
 split at hd
 ·rename_i C
  rcases hd with ⟨h,_⟩ | ⟨_,o,d,rfl⟩
  ·cases h
  ·have k:=TO d;rcases k.2 with ⟨h,_⟩ | ⟨_,h⟩ | ⟨i,_,D⟩
   ·cases h
   ·cases h
   ·refine SK (KD (Vf k.1) ?_ D)
    unfold TC Ra at m;simp only [Bool.and_eq_true] at m;have a:=m.1.2.2;rw [C] at a;have b:Yh true x.ZQ=true:=by simpa [Vy] using a
    simp only [Yh,Bool.and_eq_true,Bool.or_eq_true,Bool.not_true,Bool.false_eq_true,false_or] at b;exact b.2
 split at hd
 ·rcases hd with h | ⟨_,_,_,rfl⟩
  ·exact absurd rfl h
  ·exact j
 split at hd
 ·rcases hd with h | ⟨_,_,_,rfl⟩
  ·exact absurd rfl h
  ·exact j
 split at hd
 ·rcases hd with ⟨h,_⟩ | ⟨_,_,rfl⟩
  ·cases h
  ·exact j
 split at hd
 ·rcases hd with h | ⟨_,_,_,rfl⟩
  ·exact absurd rfl h
  ·exact j
 obtain⟨o,d,rfl⟩:=hd;obtain⟨k,h⟩:=TO d;have f:=Vf k;apply SK;unfold EH at h;split at h
 ·exact KF f h
 split at h
 ·exact L4 f h
 split at h
 ·exact KE f h
 split at h
 ·rcases h with ⟨_,h⟩ | ⟨_,_,h⟩
  ·cases h
  ·exact Ma f h
 split at h
 ·rcases h with ⟨_,h⟩ | ⟨_,_,h⟩
  ·cases h
  ·exact M8 f h
 split at h
 ·rcases h with ⟨_,h⟩ | ⟨_,_,h⟩
  ·cases h
  ·exact KG f h
 ·rcases h with ⟨_,h⟩ | ⟨_,E,h⟩
  ·cases h
  ·exact L9 f E h
theorem Ht {o:Ob}(h:Zc o=true){t:Tb}(m:t∈o.Z8):Io o.Z8 t:=by
 have I:=Vf h;have d:=I.tb t m;have s:=TE.1 d.co;refine⟨((UU h).2.2 t m).up (by omega),PS h m,fun c C=> ?_,fun r j=> ?_,fun r j G=> ?_⟩
 ·have:=s.2.2.1 c C;unfold VR at this;exact GU (Bool.and_eq_true_iff.1 this).1
 ·obtain⟨_,K,F⟩:=LX (d.ru r j).1;exact⟨by have:=s.2.1;omega,F⟩
 ·obtain⟨u,J,D,E,_⟩:=(d.ru r j).2 G;exact⟨u,J,D,E⟩
def WL:Cm:=⟨3,Yi,[115],[116],[],[],[⟨[120],2,false⟩],⟨[],0,[],0,0,[],[],[]⟩,0,false⟩
def Gu:Tb:=⟨[115],[116],Yi,[⟨[120],2,false⟩],[]⟩
def Ef:Ca:=⟨0,2,⟨[⟨[115],Yi⟩],[Gu]⟩,⟨[Yi],[]⟩,[]⟩
theorem FA:Vt UI WL=0:=by kernel_rfl
theorem Gt:Sa UI WL=false:=by kernel_rfl
theorem EM:Kg (Zw WL.ZZ) (Zw WL.ZH) (Xd UI.ob.Z7 WL.Z9).isSome (XA UI.ob WL.Z9 WL.ZZ).isNone (X9 UI.ob WL.Z9) (YJ WL.Z3) true=true:=by kernel_rfl
theorem FB:VU Gu [⟨2,7,[]⟩]=0:=by kernel_rfl
theorem Iv:Zc Ef.ob=true:=by kernel_rfl
theorem Hb {m:Int}{D:Ca}(h:Fj UI WL m D):m=0/\D=Ef:=by
 rcases h with ⟨h,_⟩ | ⟨_,h,c1,hd⟩ | ⟨_,h,_⟩ | ⟨h,_,_,c1,l,hd,F,rfl⟩
 ·exact absurd FA h
 ·exfalso
  have s:Fi UI WL m c1:=hd;obtain⟨G,j,_⟩:=s;unfold MM at j;rw [if_pos OU] at j;obtain⟨J,C,_⟩:=j;have u:UL UI.ob ⟨WL.Z9,WL.ZZ,WL.ZH,WL.Z3,[]⟩ m J:=C;rcases u with ⟨_,_,d⟩ | ⟨d,_⟩
  ·have M:=EM;have E:Kg (Zw WL.ZZ) (Zw WL.ZH) (Xd UI.ob.Z7 WL.Z9).isSome (XA UI.ob WL.Z9 WL.ZZ).isNone (X9 UI.ob WL.Z9) (YJ WL.Z3) true=false:=d;rw [M] at E;cases E
  ·exact h d
 ·rw [Gt] at h;cases h
 ·refine⟨h,?_⟩
  have s:Fi UI WL 0 c1:=hd;obtain⟨G,j,rfl⟩:=s;obtain⟨_,C⟩:=TO j;have u:UL UI.ob ⟨WL.Z9,WL.ZZ,WL.ZH,WL.Z3,[]⟩ 0 G:=C;rcases u with ⟨d,_⟩ | ⟨_,_,_,_,_,_,_,_,ts',I,_,rfl⟩
  ·exact absurd rfl d
  ·have K:ts'= [Gu]:=LB I;have L:l= []:=by
    rw [LR _ rfl] at F;exact F.eq_nil
   rw [K,L];rfl
theorem Iw:WL.Zo 549755813888:=by
 refine⟨?_,?_,?_,?_,?_,?_,⟨?_,?_,?_,?_⟩,?_⟩ <;> simp [WL,Yi]
open Lib (hid)
open Go.RowKit
def Sf.pr (s:Sf):lV:= [pT s.p]
theorem Sf.pk (s:Sf):(Sf.pr s).length=1:=rfl
structure SO (w:World) (b:Nat) (ts:List Tb) (E:Prop) (ss:List Sf) (L:oA) (c:Nat):Prop where
 own:w.ownsRow b 110 1 (.slice L ss.length c) ss.length (ss.flatMap Sf.pr)
 sh: ∀ s∈ss,TV w b s
 nd:ss.Pairwise fun a b=>a.p≠b.p/\ ∀ k,(Value.slice a.R a.rs.length a.r).ownBlock=some k->(Value.slice b.R b.rs.length b.r).ownBlock≠some k
 tb:ss.map (·.t)=ts.take ss.length
 gd: ∀ s∈ss,s.rs.length<=64/\ ∀ r∈s.rs,XK s.t.Z3 r.1=true
 em:E-> ∀ s∈ss,s.rs= []
theorem SO.nil (w:World)(b:Nat)(ts:List Tb)(E:Prop):SO w b ts E [] none 0:=⟨World.ownsRow_nil w b _ 1,fun s d=>(by cases d),List.Pairwise.nil,by simp,fun s d=>(by cases d),fun _ s d=>(by cases d)⟩
theorem SO.later {w w':World}{b:Nat}{ts:List Tb}{E:Prop}{d:List Sf}{L:oA}{c:Nat}(h:SO w b ts E d L c)(hb:Bw w w'):SO w' b ts E d L c:=⟨h.own.ZC hb,fun s j=>(h.sh s j).later hb,h.nd,h.tb,h.gd,h.em⟩
theorem SO.add {m V C:World}{b:Nat}{ts:List Tb}{E:Prop}{j:List Sf}{L D:oA}{c F:Nat}(h:SO m b ts E j L c)(hb:Bw m V)(J:ZS [110] V C){s:Sf}(hj:j.length<ts.length)(ht:s.t=ts[j.length])(K:b<=m.heap.size)
  (u:TV V m.heap.size s) (N:s.rs.length<=64/\ ∀ r∈s.rs,XK s.t.Z3 r.1=true) (hO:C.ownsRow b 110 1 (.slice D (j.length+1) F) (j.length+1) (j.flatMap Sf.pr ++ [pT s.p])) (M:E->s.rs= []):SO C b ts E (j ++ [s]) D F:=by
 refine⟨?_,fun x d=> ?_,?_,?_,fun x d=> ?_,fun I x d=> ?_⟩
 ·simpa [Sf.pr] using hO
 ·rcases List.mem_append.1 d with d | d
  ·exact((h.sh x d).later hb).keeps J (by decide) (by decide) (by decide)
  ·rw [List.mem_singleton.1 d];exact(u.mono K).keeps J (by decide) (by decide) (by decide)
 ·rw [List.pairwise_append];refine⟨h.nd,List.pairwise_singleton _ _,fun a ha x d=> ?_⟩
  rw [List.mem_singleton.1 d];have G:=h.sh a ha;refine⟨fun e=> ?_,fun k O T=> ?_⟩
  ·have U:=G.YK.lt;have Z:=u.pb;omega
  ·have U:=YB G.own O;have Z:=ZD u.own k T;omega
 ·rw [List.map_append,h.tb,List.length_append,List.length_singleton,List.take_succ_eq_append_getElem hj,<-ht];rfl
 ·rcases List.mem_append.1 d with d | d
  ·exact h.gd x d
  ·rw [List.mem_singleton.1 d];exact N
 ·rcases List.mem_append.1 d with d | d
  ·exact h.em I x d
  ·rw [List.mem_singleton.1 d];exact M I
theorem SO.Dz {w:World}{b:Nat}{ts:List Tb}{E:Prop}{u:List Sf}{L:oA}{c:Nat}(h:SO w b ts E u L c):Qk w u L:=fun D=>by
 obtain⟨I,rfl,_,G⟩:=(YS h.own rfl) D;obtain⟨g,d⟩:=Xi h.own D;injection d with d
 subst d;refine⟨(aD g 0),rfl,⟨110,by simp,Yx h.own (by simp [Value.ownBlock])⟩,fun j s m=> ?_⟩
 obtain⟨F,m⟩:=List.getElem?_eq_some_iff.1 m
 have C:=G (j*1+0) _ (by rw [Zl Sf.pk u j 0 F (by decide)];rfl);rw [Nat.mul_one,Nat.add_zero,m] at C;exact C
theorem SO.done {w:World}{b base g:Nat}{o:Ob}{E:Prop}{I d:List Sf}{L:oA}{c:Nat}(C:WO w base g I)(h:SO w b o.Z8 E d L c)(J:d.length=o.Z8.length)(u:Zc o=true)(G:base<=b):
  WO (w.setCell (aD g 0) (.slice L d.length c)) base g d/\WQ d/\d.map (·.t)=o.Z8:=by
 obtain⟨K,c0,D,_⟩:=C.st;have F:ZS [109] w (w.setCell (aD g 0) (.slice L d.length c)):=ZS.Zx D.Xr (by simp) _;have j:d.map (·.t)=o.Z8:=by rw [h.tb,J,List.take_length]
 refine⟨⟨⟨L,c,D.Zx 0 _,h.Dz.keeps F (by decide)⟩,C.gb,fun s m=>((h.sh s m).keeps F (by decide) (by decide) (by decide)).mono G,h.nd⟩,⟨?_,fun s m=> ?_,h.gd⟩,j⟩
 ·have:=(Vv u).2.1;omega
 ·rw [j];exact Ht u (by rw [<-j];exact List.mem_map_of_mem m)
theorem XT.NF {w:World}{C u:Nat}{t:YX}(h:XT w C u t):ZT w (Xs w VT) Zz (t.1.Z3.map Cl.da) t.2.1/\ZT w (Xs w VT) YF (t.1.ZW.map Ru.da) t.2.2.2.1:=by
 obtain⟨X,x,Y,y,j,m,s⟩:=Tb.YY h.VW;have e:YX.cs t=t.1.cs X x Y y:=j;unfold YX.cs Tb.cs at e;injection e with _ e
 injection e with _ e
 injection e with _ e
 injection e with e1 e
 injection e with e2 e
 injection e1 with e1
 injection e2 with e2
 rw [e1,e2];exact⟨m.YW (fun k d=>d.Rp (by decide)) (fun _ _=>rfl),s.YW (fun k d=>d.Rp (by decide)) (fun _ _=>rfl)⟩
theorem Hi:(prog.info? 110).map (fun i=>(i.zero,i.size,i.bytes))=some (some (.pointer none),1,8):=by kernel_rfl
def Df (base g:Nat)(ss:List Sf)(o:Ob)(w:World)(e:Ending)(w':World):Prop:=e= .returned (i6 0)/\ ∃ ss',WO w' base g ss'/\WQ ss'/\ss'.map (·.t)=o.Z8/\ZS [109] w w'/\Below base w w'/\(ss= []-> ∀ s∈ss',s.rs= [])
theorem Lh (l d:List Cl)(row:List Vl):(Vz l d row).length=d.length:=by simp [Vz]
theorem RQ (base g:Nat)(ss:List Sf)(o:Ob)(A0:oA)(k0:Nat)(A1:oA)(k1:Nat)(w:World)(h:WO w base g ss)(hg:WQ ss)(aC:Zc o=true)(hS:ZT w (· < w.heap.size) Ze (o.Z7.map Sc.da) A0)(hT:ZT w (· < w.heap.size) Zn (o.Z8.map Tb.da) A1):
  cQ 16 #[pT g,.agg #[.slice A0 o.Z7.length k0,.slice A1 o.Z8.length k1]] w (Df base g ss o w):=by
 obtain⟨i0,bT,bV,bW,bX⟩:=info_parts Vo;obtain⟨j0,bA,bC,bD,bE⟩:=info_parts Hi;have bv:base<=w.heap.size:=by
  obtain⟨L,c,hB,_⟩:=h.st;exact Nat.le_trans h.gb (Nat.le_of_lt hB.lt)
 have ax:=hid h;have HG:=hid hg;have HS:=hid hS;have HT:=hid hT;have aI:=hid aC;have aX:Hid (o.Zo 1099511627776):=hid ((UU aC).up (by omega));have bU:o.Z8.length<=64:=(Vv aC).2.1;have HE:Hid (Sj o=0):=hid (by unfold Sj;rw [aC];rfl)
 have bg:=iN 26 2;have bh:=iN 73 5;clear h hg aC hS hT;go_enter func16,ntmps16
 go_upto_region 3 with fail
 refine Wh _ fun W0 hW=> ?_
 have aG:=bP hW;have P0:Hid (ZP W0 w.heap.size 26 [.slice A0 o.Z7.length k0,.slice A1 o.Z8.length k1]):=nC hW;clear hW;go_wp2_with (first | (refine lO P0 bg underlying26 ?_) | fail);have hC:=Vp o A0 k0 A1 k1 W0 (HS.o.later aG.o) (HT.o.later aG.o) aX.o;rw [HE.o] at hC;refine hC.mono ?_
 rintro e W ⟨rfl,hb⟩;have HB:=bt aG hb;have P1:=bl P0 hb;clear hC hb aG P0;have bN:base<=W.heap.size:=Nat.le_trans bv HB.o.size;have p1:=ce P1 1;go_wp2_with fail;clear p1;go_loopw [6,27] (fun v6 bY wr=> ∃ (d:List Sf) (Lp:oA) (lc:Nat),d.length<=o.Z8.length/\v6= .slice Lp d.length lc/\bY=i6 d.length/\Hid (SO wr W.heap.size o.Z8 (ss= []) d Lp lc)/\Hid (Bw W wr)) (fun _ i _=>o.Z8.length - (intOf i).toNat)
 case atStart=>exact⟨[],none,0,Nat.zero_le _,rfl,rfl,hid (SO.nil _ _ _ _),hid br⟩
 case round=>
  obtain⟨d,Lp,lc,hj,rfl,rfl,ap,ac⟩:=hrel;generalize wr=wo at*;by_cases hlt:d.length<o.Z8.length
  ·have b0:(d.length:Int)< (o.Z8.length:Int):=by omega
   have am:=bt HB ac.o;obtain⟨ad,vs,rfl,hv,D⟩:=(HT.o.below am.o).at_ (j:=d.length) (by simpa using hlt);have aY:=hid (Rb aI.o hlt);have aW:Hid (∀ t:Tb,t=o.Z8[d.length]->t=o.Z8[d.length]):=hid (fun _ h=>h);have aV:Hid (∀ (i:Nat) (hi:i<o.Z8.length) (t':Tb),XA o o.Z8[d.length].Z9 o.Z8[d.length].name=some i->t'=o.Z8[i]->t'=o.Z8[d.length]):=hid fun i hi t' h1 h2=>by
    rw [aY.o] at h1;injection h1 with h1
    subst h1;exact h2
   have aO:Hid (Sk o o.Z8[d.length].Z9 o.Z8[d.length].name=0):=hid (by unfold Sk;rw [aI.o,aY.o];rfl);have aP:=hid (List.getElem_mem hlt);rw [List.getElem_map] at hv;obtain⟨t,ht⟩: ∃ t,t=o.Z8[d.length]:=⟨_,rfl⟩
   have aW:=hid ht;rw [<-ht] at hv aV aO aP;clear ht aY;obtain⟨X,x,Y,y,rfl,hX,hY⟩:=Tb.YY hv;have bf:Hid (∀ i u,([sT t.Z9,sT t.name,sT t.ZN,.slice X t.Z3.length x,.slice Y t.ZW.length y]:lV)[i]?=some u->wo.cell? ((ad.add (d.length*5)).add i)=some u):=hid fun i u hu=>by rw [ZG];exact D i u hu
   have HL:Hid ((prog.info? 73).map (·.size)=some ([sT t.Z9,sT t.name,sT t.ZN,.slice X t.Z3.length x,.slice Y t.ZW.length y]:lV).length):=bh;clear hv D hX hY;go_upto_region 10 with (first | (with_reducible refine ZK rfl 73 _ rfl (ad.add (d.length*5)) rfl [sT t.Z9,sT t.name,sT t.ZN,.slice X t.Z3.length x,.slice Y t.ZW.length y] _ bf.o underlying73 rfl HL.o ?_) | fail)
   refine Wh _ fun V1 N=> ?_
   have T1:Hid (ZP V1 wo.heap.size 73 [sT t.Z9,sT t.name,sT t.ZN,.slice X t.Z3.length x,.slice Y t.ZW.length y]):=nC N;have aH:=bP N;clear N bf;have a6:=bt am aH.o;have P2:=bl P1 (bt ac aH.out).o;have t0:=ce T1 0;have t1:=ce T1 1;go_wp2_with (first | (refine lO P2 bg underlying26 ?_) | fail);have hF:=TL o A0 k0 (some ad) k1 t.Z9 t.name V1 (HS.o.later a6.o) (HT.o.later a6.o) aX.o;refine hF.mono ?_
   rintro e V2 ⟨t',T,U,Y2,y2,er,rfl,he,hb,-,-,bz⟩;rw [aO.o] at he;subst he;obtain⟨⟨i,hi,h1,h2⟩,bB⟩:=bz rfl;have bS:=(aV.o i hi t' h1 h2).symm;subst bS;have bo:=hid bB;have bd:=bt aH hb;have T2:=bl T1 hb;clear hF bz hb h1 h2 bB hi i t0 t1 P2 aV aO aH a6 T1;unfold Tb.cs;go_upto_region 11 with fail
   refine Wh _ fun m N=> ?_
   have O3:Hid (ZP m V2.heap.size 73 [sT t.Z9,sT t.name,sT t.ZN,.slice T t.Z3.length U,.slice Y2 t.ZW.length y2]):=nC N;have ah:=bt bd (bP N).o;have T3:=bl T2 (bP N).o;have ak:=hid (bo.o.below (bP N).o);have aL:=hid ak.o.NF.1;have bn:=hid ak.o.NF.2;clear N T2 bo ak bd;go_upto_region 12 with (first | (refine lO O3 bh underlying73 ?_) | fail)
   refine Wh _ fun V4 N=> ?_
   have B4:Hid (ZP V4 m.heap.size 112 [sT t.Z9,sT t.name,sT t.ZN,.slice T t.Z3.length U,.slice Y2 t.ZW.length y2,.slice none 0 0]):=nC N;have F:=bP N;have T4:=bl T3 F.o;clear N T3;have t0:=ce T4 0;have t1:=ce T4 1;have aA:=bt am ah.o;go_wp2_with fail;refine(Rf base g ss t.Z9 t.name V4 (ax.o.later (aA.o.trans (F.o.mono aA.o.size))) (by have:=HG.o.n;omega)).mono ?_
   rintro e I ⟨rfl,rfl⟩;clear t0 t1 T4
   cases hf:ss.find? (Ur t.Z9 t.name) with
   | none=>
    have Bx:=B4;have aw:=hid (World.ownsRow_nil I m.heap.size 61 1);have az:Hid (∀ r∈([]:List X3),ZT I (Xs I VT) Zh (r.1.map Vl.da) r.2.1):=hid (fun r D=>by cases D);have aJ:Hid (∀ r∈([]:List X3),XK t.Z3 r.1=true):=hid (fun r D=>by cases D);clear hf B4;dsimp only [Option.map];have aU:Hid (TV I wo.heap.size ⟨m.heap.size,t,T,U,Y2,y2,[],none,0⟩):=hid ⟨Bx.o,ah.o.size,ZI (ts:= []) aL.o (ZS.ZA F.o lr) (by simp),ZI (ts:= []) bn.o (ZS.ZA F.o lr) (by simp),aw.o.Yp ah.o.size,az.o⟩;have Z:=bt ah F.o;have aR:=hid (ap.o.later Z.o);have aE:d.length<=64:=by omega
    have G:Hid (Below I.heap.size I (I.alloc (.cells #[pT m.heap.size] 110))):=hid (br.alloc lr _);have aa:=hid (aR.o.own.ZC G.o);have au:Hid (ZP (I.alloc (.cells #[pT m.heap.size] 110)) I.heap.size 110 [pT m.heap.size]):=hid (ZP.new I _ _);have ag:W.heap.size<=(I.alloc (.cells #[pT m.heap.size] 110)).heap.size:=Nat.le_trans ac.o.size (Nat.le_trans Z.o.size G.o.size);go_wp2_with (first | (at_builtin;refine WC rfl _ _ _ rfl W.heap.size 110 j0 _ 1 8 underlying107 bA bC bD bE rfl (by decide) (.slice Lp d.length lc) d.length _ rfl aa.o (aD I.heap.size 0) 1 1 [pT m.heap.size] rfl rfl (ZP.news au.o) (by simp [Value.oneCell']) (by unfold maxLen;omega) (by omega) ag ?_;intro A7 c7 w7 av ab aB) | fail);have an:Hid (ZS [110] I w7):=hid ((ZS.ZA G.o lr).trans (ZS.grown aa.o ab.o (by simp) ab.o.size));have ar:Hid (Bw W w7):=hid ((bt ac (Z.o.trans (G.o.mono Z.out.size))).o.grown ab.o ag (ZD aa.o));have aQ:=hid (ap.o.add (s:=⟨m.heap.size,t,T,U,Y2,y2,[],none,0⟩) Z.o an.o (by omega) aW.o ac.o.size aU.o ⟨by simp,aJ.o⟩ av.o (fun _=>rfl));go_roundw
    case rel=>exact⟨d ++ [⟨m.heap.size,t,T,U,Y2,y2,[],none,0⟩],A7,c7,by simp;omega,by simp,by simp,aQ,ar⟩
    case measure=>simp [intOf];omega
   | some old=>
    have ao:=hid (List.mem_of_find?_eq_some hf);clear hf;dsimp only [Option.map];obtain⟨op,O,oX,ox,oY,oy,J,oR,a8⟩:=old;have ae:=hid ((ax.o.later (aA.o.trans (F.o.mono aA.o.size))).sh _ ao.o);have b3:J.length<=64:=(HG.o.r _ ao.o).1;have bH:Hid (∀ r∈J,XK O.Z3 r.1=true):=hid (HG.o.r _ ao.o).2;have be:Hid (Io (ss.map (·.t)) O):=hid (HG.o.t _ ao.o);have z5:I.cell? (aD op 5)=some (.slice oR J.length a8):=cd ae.o.YK 5;go_wp2_with fail;clear z5 ae;go_loopw [56] (fun bZ wq=> ∃ (C:List X3) (R:oA) (rc:Nat),C.length<=J.length/\bZ=i6 C.length/\Hid (Bw m wq)/\Hid (ZP wq m.heap.size 112 [sT t.Z9,sT t.name,sT t.ZN,.slice T t.Z3.length U,.slice Y2 t.ZW.length y2,.slice R C.length rc])/\Hid (wq.ownsRow m.heap.size 61 1 (.slice R C.length rc) C.length (C.flatMap X3.cs))/\Hid (∀ r∈C,ZT wq (Xs wq VT) Zh (r.1.map Vl.da) r.2.1)/\Hid (∀ r∈C,XK t.Z3 r.1=true)) (fun i _=>J.length - (intOf i).toNat)
    case atStart=>exact⟨[],none,0,Nat.zero_le _,rfl,F,B4,hid (World.ownsRow_nil I m.heap.size 61 1),hid (fun r D=>by cases D),hid (fun r D=>by cases D)⟩
    case round=>
     clear F B4;obtain⟨C,R,rc,hk,rfl,F,Bx,aw,az,aJ⟩:=hrel;by_cases hlk:C.length<J.length
     ·have b1:(C.length:Int)< (J.length:Int):=by omega
      have bp:=bt aA F.o;have ae:=hid ((ax.o.later bp.o).sh _ ao.o);have bk:Hid (wr.ownsRow base 61 1 (.slice oR J.length a8) J.length (J.flatMap X3.cs)):=hid ae.o.own;obtain⟨bM,rfl,_,af⟩:=(YS bk.o rfl) (by omega);have hc:=af (C.length*1+0) _ (by rw [Zl X3.k J C.length 0 hlk (by decide)];rfl)
      rw [Nat.mul_one,Nat.add_zero] at hc;have a7:=List.getElem_mem hlk;have bm:=hid ((ae.o.Rz _ a7).XJ);have aT:=hid (bH.o _ a7);clear af a7;generalize J[C.length]=row at*;have bs:Hid (ZT wr (· < wr.heap.size) Zz (O.Z3.map Cl.da) oX):=hid ae.o.I6;have ba:Hid (ZP wr op 112 [sT O.Z9,sT O.name,sT O.ZN,.slice oX O.Z3.length ox,.slice oY O.ZW.length oy,.slice (some bM) J.length a8]):=hid ae.o.YK;have bu:=bl O3 F.o;have bq:=hid ((ZI (ts:= []) aL.o (ZS.ZA F.o lr) (by simp)).XJ);have aj:Hid (∀ V,Bw wr V->(fun V=>Bw wr V/\V.cell? (aD op 3)=some (.slice oX O.Z3.length ox)/\V.cell? (aD V2.heap.size 3)=some (.slice T t.Z3.length U)) V):=hid fun V h=>⟨h,cb ba h 3,cb bu h 3⟩
      have bO:t.Z3.length<=1099511627776:=(aX.o.2.2 t aP.o).1;go_upto_region 17 with fail
      refine wp_region_held_drew (S:=fun V=>Bw wr V/\V.cell? (aD op 3)=some (.slice oX O.Z3.length ox)/\V.cell? (aD V2.heap.size 3)=some (.slice T t.Z3.length U)) (by kernel_rfl) (aj.o _ br.drew) (fun E=> ?_)
      (try simp only [pp]);refine tk 0 61 E ?_;refine tk 1 62 E ?_;refine tk 2 63 E ?_;refine tk 3 64 E ?_;refine tk 4 65 E ?_;refine tk 5 66 E ?_;refine tk 6 67 E ?_;refine tk 7 68 E ?_;refine on 8 69 fun K hK=> ?_
      go_simp;refine(Gp O.Z3 t.Z3 row.1 oX ox T U row.2.1 row.2.2 _ (bs.o.later E.1) (bq.o.later E.1) (bm.o.later E.1) be.o.tm.1 bO be.o.co (PS aI.o aP.o) aT.o).mono ?_
      rintro e M ⟨Bn,bc,rfl,ho,hb⟩;have aq:=E.1.trans (hb.mono E.1.size);refine hK.out _ _ (aj.o _ aq) (fun E=> ?_);clear hK K hb;(try simp only [pp])
      refine tk 9 60 E ?_;refine tk 10 70 E ?_;refine tk 11 71 E ?_;refine tk 12 15 E ?_;refine tk 13 16 E ?_;refine wpAnyH_done (by kernel_rfl) ?_ _
      have bL:Hid (ZT M (Xs M VT) Zh ((Vz O.Z3 t.Z3 row.1).map Vl.da) Bn):=hid (RJ (c:=bc) (by rw [Lh];exact ho) (by decide));have bK:=hid (QJ aT.o t.Z3);have ai:=bt F aq;have bb:=bl Bx aq;have aS:=hid (aw.o.ZC aq);have aZ:Hid (∀ r∈C,ZT M (Xs M VT) Zh (r.1.map Vl.da) r.2.1):=hid fun r D=>ZI (ts:= []) (az.o r D) (ZS.ZA aq lr) (by simp)
      clear E aj ho aq hc bp ae bk bm bs ba bu bq F Bx aw az aT;have x5:=ce bb 5;have G:Hid (Below M.heap.size M (M.alloc (.cells #[.slice Bn t.Z3.length bc] 61))):=hid (br.alloc lr _);have aa:=hid (aS.o.ZC G.o);have bF:=bl bb G.o;have au:Hid (ZP (M.alloc (.cells #[.slice Bn t.Z3.length bc] 61)) M.heap.size 61 [.slice Bn t.Z3.length bc]):=hid (ZP.new M _ _);have ag:m.heap.size<=(M.alloc (.cells #[.slice Bn t.Z3.length bc] 61)).heap.size:=Nat.le_trans ai.o.size G.o.size;go_wp2_with (first | (at_builtin;refine WC rfl _ _ _ rfl m.heap.size 61 i0 _ 1 24 underlying67 bT bV bW bX rfl (by decide) (.slice R C.length rc) C.length _ rfl aa.o (aD M.heap.size 0) 1 1 [.slice Bn t.Z3.length bc] rfl rfl (ZP.news au.o) (by simp [Value.oneCell']) (by unfold maxLen;omega) (by omega) ag ?_;intro A7 c7 w7 av ab aB;have an:=hid (ZS.grown (ts:= [61]) aa.o ab.o (by simp) ab.o.size);have aF:=hid (bF.o.keeps an.o (by decide));have x7:=ce aF 5;have f7:w7.frozen? (aD m.heap.size 5)=false:=aF.o.frozen 5) | fail);have ar:Hid (Bw m w7):=hid ((ai.o.trans (G.o.mono ai.o.size)).grown ab.o ag (ZD aa.o));have bj:Hid (ZS [112] w7 (w7.setCell (aD m.heap.size 5) (.slice A7 (C.length+1) c7))):=hid (ZS.Zx aF.o.Xr (by simp) _);have bi:Hid (ZS [112,61] M (w7.setCell (aD m.heap.size 5) (.slice A7 (C.length+1) c7))):=hid (((ZS.ZA G.o lr).trans (an.o.X6 (by simp))).trans (bj.o.X6 (by simp)));go_roundw
      case rel=>exact⟨C ++ [((Vz O.Z3 t.Z3 row.1,Bn,bc):X3)],A7,c7,by simp;omega,by simp,hid (ar.o.setCell (p:=(aD m.heap.size 5)) lr _),hid (by have h:=aF.o.Zx 5 (.slice A7 (C.length+1) c7);simpa using h),hid (by have h:=av.o.keeps bj.o (by decide);simpa [X3.cs,Lh] using h),hid (fun r D=>by
       rcases List.mem_append.1 D with D | D
       ·exact ZI (aZ.o r D) bi.o (by decide)
       ·rw [List.mem_singleton.1 D];exact ZI bL.o bi.o (by decide)),hid (fun r D=>by
       rcases List.mem_append.1 D with D | D
       ·exact aJ.o r D
       ·rw [List.mem_singleton.1 D];exact bK.o)⟩
      case measure=>simp [intOf];omega
     ·have b2:C.length=J.length:=by omega
      have aU:Hid (TV wr wo.heap.size ⟨m.heap.size,t,T,U,Y2,y2,C,R,rc⟩):=hid ⟨Bx.o,ah.o.size,ZI (ts:= []) aL.o (ZS.ZA F.o lr) (by simp),ZI (ts:= []) bn.o (ZS.ZA F.o lr) (by simp),aw.o.Yp ah.o.size,az.o⟩;have Z:=bt ah F.o;have aR:=hid (ap.o.later Z.o);have aE:d.length<=64:=by omega
      have G:Hid (Below wr.heap.size wr (wr.alloc (.cells #[pT m.heap.size] 110))):=hid (br.alloc lr _);have aa:=hid (aR.o.own.ZC G.o);have au:Hid (ZP (wr.alloc (.cells #[pT m.heap.size] 110)) wr.heap.size 110 [pT m.heap.size]):=hid (ZP.new wr _ _);have ag:W.heap.size<=(wr.alloc (.cells #[pT m.heap.size] 110)).heap.size:=Nat.le_trans ac.o.size (Nat.le_trans Z.o.size G.o.size);go_wp2_with (first | (at_builtin;refine WC rfl _ _ _ rfl W.heap.size 110 j0 _ 1 8 underlying107 bA bC bD bE rfl (by decide) (.slice Lp d.length lc) d.length _ rfl aa.o (aD wr.heap.size 0) 1 1 [pT m.heap.size] rfl rfl (ZP.news au.o) (by simp [Value.oneCell']) (by unfold maxLen;omega) (by omega) ag ?_;intro A7 c7 w7 av ab aB) | fail);have an:Hid (ZS [110] wr w7):=hid ((ZS.ZA G.o lr).trans (ZS.grown aa.o ab.o (by simp) ab.o.size));have ar:Hid (Bw W w7):=hid ((bt ac (Z.o.trans (G.o.mono Z.out.size))).o.grown ab.o ag (ZD aa.o));have aQ:=hid (ap.o.add (s:=⟨m.heap.size,t,T,U,Y2,y2,C,R,rc⟩) Z.o an.o (by omega) aW.o ac.o.size aU.o ⟨by show C.length<=64;omega,aJ.o⟩ av.o (fun h=>absurd ao.o (by rw [h];simp)))
      go_roundw
      case rel=>exact⟨d ++ [⟨m.heap.size,t,T,U,Y2,y2,C,R,rc⟩],A7,c7,by simp;omega,by simp,by simp,aQ,ar⟩
      case measure=>simp [intOf];omega
  ·have bI:=hid (show d.length=o.Z8.length by omega);have am:=bt HB ac.o;have ay:=hid (ax.o.later am.o);obtain⟨L,c,aK,_⟩:=ay.o.st;have q0:=aK.cell0;have qf:=aK.frozen 0;have aM:=hid (SO.done ay.o ap.o bI.o aI.o bN);have bJ:Hid (ZS [109] w (wo.setCell (aD g 0) (.slice Lp d.length lc))):=hid ((ZS.ZA am.o lr).trans (ZS.Zx aK.Xr (by simp) _));have bG:=hid ((am.o.mono bv).setCell (p:=(aD g 0)) ax.o.gb (.slice Lp d.length lc));clear aK;go_wp2;go_ret;exact⟨rfl,d,aM.o.1,aM.o.2.1,aM.o.2.2,bJ.o,bG.o,ap.o.em⟩
end Go.Proofs.YtnhmoibjlakhjaaGreat
