/- Lemmas, each under its own conditions. -/
import Derived.Test.YtnhmoibjlakhjaaGreatW28
import Derived.Shelf.SlSortCmp.NoneTotal
set_option linter.all false
namespace Go.Proofs.YtnhmoibjlakhjaaGreat
open Go.Proofs.Tryz
open Lib (hid)
set_option maxRecDepth 100000
set_option maxHeartbeats 16000000
open Go.RowKit Go.Maps
def JI (c:Ca)(w:World)(e:Ending)(w':World):Prop:=
 ∃ (l:List Gr) (A:oA) (k:Nat),e= .returned (.slice A l.length k)/\l.Perm (Vd c)/\w'.ownsRow w.heap.size 53 6 (.slice A l.length k) l.length (l.flatMap Gr.cs)/\Bw w w'
theorem Qg (r:Ro)(ZQ:lU):(XN r ZQ).length<=r.ZU.length:=by
 unfold XN;split
 ·exact List.length_filter_le _ _
 ·simp
theorem TW {P:Program}{o:Oper}{a:Act}{w w':World}{K:Act->World->Prop}{Q:Exit->Act->World->Prop}{t:TypeId}(m x:Operand)(s:o.op=Op.mapEntry t m x){d key v:Value}(u:a.eval m=d)(C:a.eval x=key)
  (j:(Instr.mapEntry t d key).run P w= .ok v w') (h:K (a.put o.dst v) w'):Oper.wp P o a w K Q:=by
 unfold Oper.wp;simp [execOp,s,u,C,j,Result.andThen];exact h
theorem UM {P:Program}{o:Oper}{a:Act}{w w':World}{K:Act->World->Prop}{Q:Exit->Act->World->Prop}{t:TypeId}(m x v:Operand)(s:o.op=Op.entryStore t m x v){d st val:Value}(u:a.eval m=d)(D:a.eval x=st)(C:a.eval v=val)
  (j:(Instr.entryStore t d st val).run P w= .ok () w') (h:K (a.put o.dst undef) w'):Oper.wp P o a w K Q:=by
 unfold Oper.wp;simp [execOp,s,u,D,C,j,Result.andThen];exact h
theorem Below.Ox (w W:World){o:Obj}(h:W=w.alloc o):Bw w W.drew:=by
 subst h;exact(br.alloc lr _).drew
theorem Pq (c:Ca)(A:Wd)(w:World)(hc:UH w w.heap.size c A)(ht:c.Zo 1099511627776):
  cQ 37 #[.agg (c.cs A).toArray] w (JI c w):=by
 have HC:=hid hc;have HT:=hid ht;have ab:Hid (Vd c=if Xz c then XQ c c.Z4.length [] else []):=hid rfl;have aB:=iN 53 6;have ck:=iN 73 5;have bA:=iN 33 7;clear hc ht;unfold Ca.cs;have P0:Hid (ZP (w.alloc (.cells #[i6 c.ZO,i6 c.ZR,.slice A.a0 c.ob.Z7.length A.k0,.slice A.a1 c.ob.Z8.length A.k1,.slice A.a2 c.ro.ZU.length A.k2,.slice A.a3 c.ro.ZY.length A.k3,.slice A.a4 c.Z4.length A.k4] 33)) w.heap.size 33 [i6 c.ZO,i6 c.ZR,.slice A.a0 c.ob.Z7.length A.k0,.slice A.a1 c.ob.Z8.length A.k1,.slice A.a2 c.ro.ZU.length A.k2,.slice A.a3 c.ro.ZY.length A.k3,.slice A.a4 c.Z4.length A.k4]):=hid (ZP.new w _ _);have aX:Hid (Below w.heap.size w (w.alloc (.cells #[i6 c.ZO,i6 c.ZR,.slice A.a0 c.ob.Z7.length A.k0,.slice A.a1 c.ob.Z8.length A.k1,.slice A.a2 c.ro.ZU.length A.k2,.slice A.a3 c.ro.ZY.length A.k3,.slice A.a4 c.Z4.length A.k4] 33))):=hid (br.alloc lr _);have ch:= @run_makeMap prog;go_enter func37,ntmps37
 go_wp2_with fail;go_step3
 go_wp2_with (first | (refine lO P0 bA underlying33 ?_) | fail);generalize (w.alloc (.cells #[i6 c.ZO,i6 c.ZR,.slice A.a0 c.ob.Z7.length A.k0,.slice A.a1 c.ob.Z8.length A.k1,.slice A.a2 c.ro.ZU.length A.k2,.slice A.a3 c.ro.ZY.length A.k3,.slice A.a4 c.Z4.length A.k4] 33))=W0 at*;have cS:=OM c A W0 (HC.o.later aX.o) HT.o;unfold Ca.cs at cS;refine cS.mono ?_
 rintro e d ⟨rfl,hb⟩;have aR:=bt aX hb;have P1:=bl P0 hb;clear hb aX P0 cS W0
 cases hst:Xz c
 ·have af:Hid (JI c w (.returned (.slice none 0 0)) d):=hid ⟨[],none,0,rfl,by rw [ab.o,hst];exact List.Perm.refl _,Xv _,aR.o⟩;clear hst;go_wp2;rw [Exit.noGoto_ret];go_ret;exact af.o
 have b4:Hid (Vd c=XQ c c.Z4.length []):=hid (by rw [ab.o,hst];rfl);have cn:c.Z4.length<=64:=(Yl hst).1;have ax:=hid hst;clear hst ab;have cv:=P1.o.lt;have q6:((d.alloc (.map #[] 0)).alloc (.map #[] 0)).cell? (aD w.heap.size 6)=some (.slice A.a4 c.Z4.length A.k4):=((P1.o.alloc _).alloc _).cell 6;go_wp2_with fail;have M0:Hid (YQ prog 156 QT (d.alloc (.map #[] 0)) (i6 0) d.heap.size 0 (QR [])):=hid (YQ.made prog 156 QT d (i6 0));have J0:Hid (Im c (d.alloc (.map #[] 0)) ((d.alloc (.map #[] 0)).alloc (.map #[] 0)) (d.heap.size+1) 0 (fun _=> .slice none 0 0)):=hid ⟨br.alloc lr _,by
  have:=YQ.made prog 9 Uw (d.alloc (.map #[] 0)) (.slice none 0 0);rw [show (d.alloc (.map #[] 0)).heap.size=d.heap.size+1 from by simp] at this;exact this,fun _=>Or.inl rfl,fun i _ h=>absurd h (Nat.not_lt_zero _)⟩
 have bu:Hid (Below w.heap.size w (d.alloc (.map #[] 0))):=hid (aR.o.alloc aR.o.size _);have Pb:Hid (ZP (d.alloc (.map #[] 0)) w.heap.size 33 [i6 c.ZO,i6 c.ZR,.slice A.a0 c.ob.Z7.length A.k0,.slice A.a1 c.ob.Z8.length A.k1,.slice A.a2 c.ro.ZU.length A.k2,.slice A.a3 c.ro.ZY.length A.k3,.slice A.a4 c.Z4.length A.k4]):=hid (P1.o.alloc _);have bZ:(d.alloc (.map #[] 0)).heap.size=d.heap.size+1:=by simp
 have aU:=hid bZ;clear q6 ch bZ;go_loopw [20] (fun i wr=> ∃ (j:Nat) (nx:lU->Value),j<=c.Z4.length/\i=i6 j/\Hid (Im c (d.alloc (.map #[] 0)) wr (d.heap.size+1) j nx)) (fun i _=>c.Z4.length - (intOf i).toNat)
 case atStart=>exact⟨0,_,Nat.zero_le _,rfl,J0⟩
 case round=>
  clear J0;obtain⟨j,nx,hj,rfl,O⟩:=hrel;have aS:=bt bu O.o.below;have K0:Hid (ZP wr w.heap.size 33 [i6 c.ZO,i6 c.ZR,.slice A.a0 c.ob.Z7.length A.k0,.slice A.a1 c.ob.Z8.length A.k1,.slice A.a2 c.ro.ZU.length A.k2,.slice A.a3 c.ro.ZY.length A.k3,.slice A.a4 c.Z4.length A.k4]):=bl Pb O.o.below;by_cases hlt:j<c.Z4.length
  ·obtain⟨ad,vs,aj,hv,hr⟩:=((HC.o.later aS.o).gr).at_ (j:=j) (by simpa using hlt);rw [List.getElem_map] at hv;have bJ:Hid (c.Z4[j].ZM.length<=1099511627776):=hid (by have:=Ub ax.o (List.getElem_mem hlt);omega)
   have b3:Hid (∀ v,c.Z4[j].ZM=v->True):=hid fun _ _=>trivial
   generalize hgj:c.Z4[j]=g at*;have aZ:=hid hgj;obtain rfl:=Gr.YY hv;have HG:Hid (∀ i' u,(g.cs)[i']?=some u->wr.cell? ((ad.add (j*6)).add i')=some u):=hid fun i' u hu=>by rw [ZG];exact hr i' u hu
   unfold Gr.cs at HG;have HL:Hid ((prog.info? 53).map (·.size)=some ([sT g.Z9,sT g.ZZ,i6 g.right,sT g.ZM,sT g.to,.bool g.Zq]:lV).length):=aB;obtain⟨C,n1,c1,bm⟩: ∃ C n1 c1,nx g.ZM= .slice C n1 c1:=by
    rcases O.o.all g.ZM with h | ⟨C,c1,h,_⟩
    ·exact⟨_,_,_,h⟩
    ·exact⟨_,_,_,h⟩
   have aO:(Instr.lookup 154 (.map (some (d.heap.size+1))) (sT g.ZM) false).run prog (wr.alloc (.cells #[sT g.Z9,sT g.ZZ,i6 g.right,sT g.ZM,sT g.to,.bool g.Zq] 53))= .ok (.slice C n1 c1) (wr.alloc (.cells #[sT g.Z9,sT g.ZZ,i6 g.right,sT g.ZM,sT g.to,.bool g.Zq] 53)):=by
    have:=(O.o.map.alloc (.cells #[sT g.Z9,sT g.ZZ,i6 g.right,sT g.ZM,sT g.to,.bool g.Zq] 53)).look VQ underlying154 (by kernel_rfl) (x:=g.ZM) (by have:=bJ.o;unfold maxLen;omega);rw [bm] at this;exact this
   have cf:=hid bm;clear hv hr hgj bm b3;rw [aj];by_cases hn:n1=0
   ·subst hn;go_wp2_with (first | (with_reducible refine ZK rfl 53 _ rfl (ad.add (j*6)) rfl [sT g.Z9,sT g.ZZ,i6 g.right,sT g.ZM,sT g.to,.bool g.Zq] _ HG.o underlying53 rfl HL.o ?_) | fail);refine Wh _ fun T M=> ?_
    have bL:=hid M;have bs:Hid (Bw w T.drew):=hid (by rw [M];exact(aS.o.alloc aS.o.size _).drew);have P5:=rB M (K0.o.alloc _);have G5:=nC M;rw [aj] at P5;have bI:T.drew.cell? (aD wr.heap.size 3)=some (sT g.ZM)/\T.drew.cell? (aD w.heap.size 4)=some (.slice A.a2 c.ro.ZU.length A.k2)/\T.drew.cell? (aD w.heap.size 5)=some (.slice A.a3 c.ro.ZY.length A.k3):=⟨G5.o.cell 3,P5.o.cell 4,P5.o.cell 5⟩
    clear M aO HG HL;refine Zp 11 (S:=fun w'=>w'.cell? (aD wr.heap.size 3)=some (sT g.ZM)/\w'.cell? (aD w.heap.size 4)=some (.slice A.a2 c.ro.ZU.length A.k2)/\w'.cell? (aD w.heap.size 5)=some (.slice A.a3 c.ro.ZY.length A.k3)) (by kernel_rfl) bI (fun s=> ?_)
    (try simp only [pp]);refine YU 0 31 s ?_;refine YU 1 32 s ?_;refine YU 2 33 s ?_;refine YU 3 34 s ?_;refine YU 4 35 s ?_;refine YU 5 36 s ?_;refine YU 6 37 s ?_;refine OH 7 38 fun K D=> ?_
    go_simp;refine(Qw c.ro A.a2 A.k2 A.a3 A.k3 g.ZM T.drew (HC.o.later bs.o).nm (HC.o.later bs.o).mb HT.o.2.1).mono ?_
    rintro e W6 ⟨A6,c6,rfl,cj,aV⟩;have aY:W6.cell? (aD wr.heap.size 3)=some (sT g.ZM)/\W6.cell? (aD w.heap.size 4)=some (.slice A.a2 c.ro.ZU.length A.k2)/\W6.cell? (aD w.heap.size 5)=some (.slice A.a3 c.ro.ZY.length A.k3):=⟨(aV.cell (p:=(aD wr.heap.size 3)) (by show wr.heap.size<T.heap.size;exact G5.o.lt)).trans s.1,(aV.cell (p:=(aD w.heap.size 4)) (by show w.heap.size<T.heap.size;exact P5.o.lt)).trans s.2.1,(aV.cell (p:=(aD w.heap.size 5)) (by show w.heap.size<T.heap.size;exact P5.o.lt)).trans s.2.2⟩
    have ca:=hid cj;have bC:=hid (O.o.later ((Below.Ox wr T bL.o).trans (aV.mono (by rw [bL.o];simp))))
    refine D.out _ _ aY ?_
    clear D K;(try simp only [pp])
    have s:=aY;refine YU 8 30 s ?_;refine YU 9 39 s ?_;refine Zu.pure (i:=10) (oi:=⟨some 40,_,_,_,_,_⟩) (v:= ?_) rfl (by kernel_rfl) (by kernel_rfl) (by kernel_rfl) (by kernel_rfl) (fun _ _ _ h=>h) (Or.inl ⟨by rfl,?_⟩) (fun _=>s) ?_
    rotate_left
    ·intro w cp;go_simp <;> with_reducible rfl
    (try simp only [pp]);obtain⟨W7,aP,bO,bT⟩:=bC.o.map.put VQ underlying154 (by unfold maxLen;omega) (x:=g.ZM) (by have:=bJ.o;unfold maxLen;omega) (.slice A6 (XN c.ro g.ZM).length c6)
    have b5:=hid (bC.o.put hlt (by rw [aU.o];exact Nat.le_refl _) (v:= .slice A6 (XN c.ro g.ZM).length c6) (by rw [aZ.o];exact⟨A6,c6,rfl,ca.o⟩) (by rw [aZ.o];exact bO) bT);refine Zu.WR (i:=11) (o:=⟨none,_,_,_,_,_⟩) (by kernel_rfl) (by kernel_rfl) rfl (fun K D=> ?_)
    rw [if_pos (by rfl)];refine VP _ _ _ rfl rfl rfl rfl aP ?_
    refine D.out _ _ (Zu.done (by kernel_rfl) ?_ _);clear D K aP bO bT s aY bI;go_wp2;go_roundw
    case rel=>exact⟨j+1,_,by omega,by go_num,b5⟩
    case measure=>simp [intOf];omega
   ·have cw:((n1:Int) == 0)=false:=by simpa using hn
    go_wp2_with (first | (with_reducible refine ZK rfl 53 _ rfl (ad.add (j*6)) rfl [sT g.Z9,sT g.ZZ,i6 g.right,sT g.ZM,sT g.to,.bool g.Zq] _ HG.o underlying53 rfl HL.o ?_) | fail);go_roundw
    case rel=>exact⟨j+1,nx,by omega,by go_num,hid ((O.o.later (br.alloc lr _)).keep hlt (by rw [aZ.o,cf.o];intro e;injection e with _ e;exact hn e))⟩
    case measure=>simp [intOf];omega
  ·obtain rfl:j=c.Z4.length:=by omega
   go_wp2_with fail;go_step3
   go_wp2_with fail;rename World=>W3
   have bU:d.heap.size<W3.heap.size:=Nat.lt_of_lt_of_le (by have:=aU.o;omega) O.o.below.size;have H0:Hid (Wx d.heap.size [] [] (.slice none 0 0) W3 W3):=hid ⟨br.x _,M0.o.below O.o.below (by have:=aU.o;omega),Xv _⟩
   have b2:Hid (∀ i (hi:i<c.Z4.length),Sw W3 W3.heap.size c.ro c.Z4[i].ZM (nx c.Z4[i].ZM)):=hid fun i hi=>O.o.met i hi hi
   have bB:Hid (YQ prog 9 Uw W3 (.slice none 0 0) (d.heap.size+1) c.Z4.length nx):=hid O.o.map;have bV:d.heap.size+1<W3.heap.size:=O.o.map.lt;have b7:Hid (YQ prog 156 QT W3 (i6 0) d.heap.size 0 (QR [])):=hid H0.o.held;have aQ:w.heap.size<W3.heap.size:=K0.o.lt;clear M0 O bu Pb aU P1 aR hj hlt;go_loopw [7] (fun v wx=> ∃ (l:List Gr) (C:oA) (k1:Nat),v= .slice C l.length k1/\l.length<=c.Z4.length/\Hid (Vd c=XQ c (c.Z4.length - l.length) l)/\Hid (EE c.Z4 l<=c.Z4.length - l.length)/\Hid (Wx d.heap.size l l (.slice C l.length k1) W3 wx)) (fun v _=>c.Z4.length - EX v)
   case atStart=>exact⟨[],none,0,rfl,Nat.zero_le _,b4,hid (by rw [FQ];exact Nat.le_refl _),H0⟩
   case round=>
    clear H0;obtain⟨l,C,k1,rfl,cu,HF,bG,HK⟩:=hrel;have aa:Hid (∀ W,Wx d.heap.size l l (.slice C l.length k1) W3 W->Bw w W/\ZP W w.heap.size 33 [i6 c.ZO,i6 c.ZR,.slice A.a0 c.ob.Z7.length A.k0,.slice A.a1 c.ob.Z8.length A.k1,.slice A.a2 c.ro.ZU.length A.k2,.slice A.a3 c.ro.ZY.length A.k3,.slice A.a4 c.Z4.length A.k4]):=hid fun W h=>
     ⟨aS.o.trans (h.bx.low (Nat.le_of_lt aQ) (fun c e=>by injection e;omega)),h.bx.YK K0.o aQ (fun e=>by injection e;omega)⟩
    have q6:wr.cell? (aD w.heap.size 6)=some (.slice A.a4 c.Z4.length A.k4):=(aa.o _ HK.o).2.cell 6;go_wp2_with fail;clear q6;rename World=>wo
    go_loopw [7,45] (fun v i wy=> ∃ (j:Nat),j<=c.Z4.length/\v= .slice C l.length k1/\i=i6 j/\Hid (∀ i (hi:i<c.Z4.length),i<j->XU c l c.Z4[i]=false)/\Hid (Wx d.heap.size l l (.slice C l.length k1) W3 wy)) (fun _ i _=>c.Z4.length - (intOf i).toNat)
    case atStart=>exact⟨0,Nat.zero_le _,rfl,rfl,hid (fun i hi h=>absurd h (Nat.not_lt_zero _)),HK⟩
    case round=>
     clear HK;obtain⟨j,hj,rfl,rfl,a8,HK⟩:=hrel;by_cases hlt:j<c.Z4.length
     ·obtain⟨bM,bN⟩:=aa.o _ HK.o;have az:=hid bM;have bF:=hid bN;obtain⟨ad,vs,aj,hv,hr⟩:=((HC.o.later az.o).gr).at_ (j:=j) (by simpa using hlt);rw [List.getElem_map] at hv;have ak:c.Z4[j]∈c.Z4:=List.getElem_mem hlt;obtain⟨_,_,_,cq,_,t0,it,bk,b0⟩:=Ub ax.o ak;have ap:Hid (c.Z4[j].FJ):=hid (ER ax.o ak);have aW:=hid (b2.o j hlt);have an:Hid (XU c l c.Z4[j]=false-> ∀ i (hi:i<c.Z4.length),i<j+1->XU c l c.Z4[i]=false):=hid fun h i hi cr=>by
       rcases Nat.lt_or_ge i j with h1 | h1
       ·exact a8.o i hi h1
       ·obtain rfl:i=j:=by omega
        exact h
      have aG:Hid (XU c l c.Z4[j]=true->c.Z4.find? (XU c l)=some c.Z4[j]):=hid fun h=>KH hlt a8.o h
      have ac:Hid (XU c l c.Z4[j]=(!(l.any fun x=>Yq x == Yq c.Z4[j]) && (match Uu c c.Z4[j].Z9 c.Z4[j].ZZ with | some t=>VD c (XN c.ro c.Z4[j].ZM) t || TJ l (XN c.ro c.Z4[j].ZM) t c.Z4[j].right true | none=>false))):=hid rfl;generalize hgj:c.Z4[j]=g at*;rw [bk] at ac;have bK:=hid bk;have cc:=hid b0;have b8:=hid ak;obtain rfl:=Gr.YY hv;have HG:Hid (∀ i' u,(g.cs)[i']?=some u->wr.cell? ((ad.add (j*6)).add i')=some u):=hid fun i' u hu=>by rw [ZG];exact hr i' u hu
      unfold Gr.cs at HG;have HL:Hid ((prog.info? 53).map (·.size)=some ([sT g.Z9,sT g.ZZ,i6 g.right,sT g.ZM,sT g.to,.bool g.Zq]:lV).length):=aB;have K1:Hid (ZP (wr.alloc (.cells #[sT g.Z9,sT g.ZZ,i6 g.right,sT g.ZM,sT g.to,.bool g.Zq] 53)) w.heap.size 33 [i6 c.ZO,i6 c.ZR,.slice A.a0 c.ob.Z7.length A.k0,.slice A.a1 c.ob.Z8.length A.k1,.slice A.a2 c.ro.ZU.length A.k2,.slice A.a3 c.ro.ZY.length A.k3,.slice A.a4 c.Z4.length A.k4]):=hid (bF.o.alloc _);clear hv hr hgj bk b0 ak bM bN;rw [aj];rw [aj] at K1;go_wp2_with (first | (with_reducible refine ZK rfl 53 _ rfl (ad.add (j*6)) rfl [sT g.Z9,sT g.ZZ,i6 g.right,sT g.ZM,sT g.to,.bool g.Zq] _ HG.o underlying53 rfl HL.o ?_) | (refine lO K1 bA underlying33 ?_) | fail);refine Zi _ fun T M=> ?_
      have a7:Hid (Wx d.heap.size l l (.slice C l.length k1) W3 T):=hid (by rw [M];exact HK.o.later (br.alloc lr _));have G5:=nC M;have b6:=HK;clear M HG HL K1 az bF HK;have cT:=Tc c A g.Z9 g.ZZ T (HC.o.later (aa.o _ a7.o).1) HT.o.1.2.1;unfold Ca.cs at cT;rw [aj] at cT;refine cT.mono ?_
      rintro e W6 ⟨t,X,x,Y,y,rfl,hb,ht⟩;obtain rfl:=ht t0 bK.o;rw [show (Uu c g.Z9 g.ZZ).isSome=true from by rw [bK.o];rfl]
      have bD:=hid (a7.o.later hb);have G6:=bl G5 hb;clear hb cT a7 G5 ht;unfold Tb.cs;have bq:Hid (ZP (W6.alloc (.cells #[sT t.Z9,sT t.name,sT t.ZN,.slice X t.Z3.length x,.slice Y t.ZW.length y] 73)) wr.heap.size 53 [sT g.Z9,sT g.ZZ,i6 g.right,sT g.ZM,sT g.to,.bool g.Zq]):=hid (G6.o.alloc _);go_wp2_with (first | (refine lO bq aB underlying53 ?_) | fail);refine Zi _ fun V7 M=> ?_
      have bz:Hid (W3.heap.size<=wr.heap.size):=hid (b6.o.bx.size);have bE:Hid (Wx d.heap.size l l (.slice C l.length k1) W3 V7):=hid (by rw [M];exact bD.o.later (br.alloc lr _));have G7:=rB M (G6.o.alloc _);have T7:=nC M;clear M bD G6 bq;have cO:=Rl g V7;unfold Gr.cs at cO;refine cO.mono ?_
      rintro e V8 ⟨rfl,hb⟩;have am:=hid (bE.o.later hb);have G8:=bl G7 hb;have T8:=bl T7 hb;clear hb cO bE G7 T7;have K8:=hid (aa.o _ am.o).2;have B8:=hid (aa.o _ am.o).1
      cases hany:(l.any fun y=>Yq y == Yq g)
      ·have bW:(Instr.lookup 153 (.map (some d.heap.size)) (.agg (Xm g).toArray) false).run prog V8= .ok (i6 0) V8:=am.o.look g ap.o false hany;have U:=hid hany;have bX:(Instr.lookup 154 (.map (some (d.heap.size+1))) (sT g.ZM) false).run prog V8= .ok (nx g.ZM) V8:=
        (bB.o.same (am.o.bx.block _ bV (fun e=>by injection e;omega))).look VQ underlying154 (by kernel_rfl) (x:=g.ZM) (by unfold maxLen;omega)
       obtain⟨I,ic,bi,bY⟩:=aW.o.round am.o.bx b7.o;rw [bi] at bX;have b9:=hid bi;have bH:=hid bY;have bS:(XN c.ro g.ZM).length<=1099511627776:=Nat.le_trans (Qg _ _) HT.o.2.1.1;clear hany bi bY;have q0:=ce K8 0;have q1:=ce K8 1;have q2:=ce K8 2;have q3:=ce K8 3;have q4:=ce K8 4;have q5:=ce K8 5;have q6:=ce K8 6;have g3:=ce G8 3;have s0:=ce T8 0;have s1:=ce T8 1;have s2:=ce T8 2;have s3:=ce T8 3;have s4:=ce T8 4;go_wp2_with fail;have cB:=PZ c A (XN c.ro g.ZM) I ic t X x Y y it V8 (HC.o.later B8.o) bH.o bS HT.o.1.1 cc.o;unfold Ca.cs Tb.cs at cB;rw [aj] at cB;refine cB.mono ?_
       rintro e L ⟨rfl,hb⟩;have aT:=hid (am.o.later hb);have G9:=bl G8 hb;have T9:=bl T8 hb;have bb:=hid (bH.o.later hb);clear hb cB bW bX q0 q1 q2 q3 q4 q5 q6 g3 s0 s1 s2 s3 s4
       cases hbo:VD c (XN c.ro g.ZM) t
       ·have bv:=hid hbo;have cg:(Instr.lookup 154 (.map (some (d.heap.size+1))) (sT g.ZM) false).run prog L= .ok (.slice I (XN c.ro g.ZM).length ic) L:=by
         have:=(bB.o.same (aT.o.bx.block _ bV (fun e=>by injection e;omega))).look VQ underlying154 (by kernel_rfl) (x:=g.ZM) (by unfold maxLen;omega);exact this.trans (by rw [b9.o])
        have g3:=ce G9 3;have g2:=ce G9 2;clear hbo;have s0:=ce T9 0;have s1:=ce T9 1;have s2:=ce T9 2;have s3:=ce T9 3;have s4:=ce T9 4;go_wp2_with fail;have cG:=Od l C k1 (XN c.ro g.ZM) I ic t X x Y y g.right true L (FF (YS aT.o.own rfl)) (by omega) bb.o bS;unfold Tb.cs at cG;refine cG.mono ?_
        rintro e V ⟨rfl,hb⟩;have aC:=hid (aT.o.later hb);have b1:=bl G9 hb;clear hb cG cg g2 g3 s0 s1 s2 s3 s4
        cases hgi:TJ l (XN c.ro g.ZM) t g.right true
        ·have HM:Hid (XU c l g=false):=hid (by rw [ac.o,U.o];simp only [bv.o,hgi];rfl);clear hgi;go_wp2_with fail;go_roundw
         case rel=>exact⟨j+1,by omega,rfl,by go_num,hid (an.o HM.o),aC⟩
         case measure=>simp [intOf];omega
        ·have HM:Hid (XU c l g=true):=hid (by rw [ac.o,U.o];simp only [bv.o,hgi];rfl);clear hgi;go_wp2_with fail;have aE:Hid (Wx d.heap.size l l (.slice C l.length k1) W3 V.drew):=hid (aC.o.later br.drew);have G:Hid (ZP V.drew wr.heap.size 53 [sT g.Z9,sT g.ZZ,i6 g.right,sT g.ZM,sT g.to,.bool g.Zq]):=b1;have aJ:V.drew.cell? (aD wr.heap.size 0)=some (sT g.Z9)/\V.drew.cell? (aD wr.heap.size 1)=some (sT g.ZZ)/\V.drew.cell? (aD wr.heap.size 2)=some (i6 g.right)/\V.drew.cell? (aD wr.heap.size 3)=some (sT g.ZM)/\V.drew.cell? (aD wr.heap.size 4)=some (sT g.to)/\V.drew.cell? (aD wr.heap.size 5)=some (.bool g.Zq)/\(Instr.lookup 153 (.map (some d.heap.size)) (.agg (Xm g).toArray) false).run prog V.drew= .ok (i6 0) V.drew:=⟨G.o.cell 0,G.o.cell 1,G.o.cell 2,G.o.cell 3,G.o.cell 4,G.o.cell 5,aE.o.look g ap.o false U.o⟩
         refine Zp 7 (S:=fun w'=>w'.cell? (aD wr.heap.size 0)=some (sT g.Z9)/\w'.cell? (aD wr.heap.size 1)=some (sT g.ZZ)/\w'.cell? (aD wr.heap.size 2)=some (i6 g.right)/\w'.cell? (aD wr.heap.size 3)=some (sT g.ZM)/\w'.cell? (aD wr.heap.size 4)=some (sT g.to)/\w'.cell? (aD wr.heap.size 5)=some (.bool g.Zq)/\(Instr.lookup 153 (.map (some d.heap.size)) (.agg (Xm g).toArray) false).run prog w'= .ok (i6 0) w') (by kernel_rfl) aJ (fun s=> ?_)
         (try simp only [pp]);refine YU 0 83 s ?_;refine YU 1 84 s ?_;refine OH 2 85 fun K D=> ?_
         go_simp;have ay:=Rl g V.drew;unfold Gr.cs at ay;refine ay.mono ?_
         rintro e Wf ⟨rfl,hb⟩;have aF:=hid (aE.o.later hb);have E:=bl G hb;have ar:Wf.cell? (aD wr.heap.size 0)=some (sT g.Z9)/\Wf.cell? (aD wr.heap.size 1)=some (sT g.ZZ)/\Wf.cell? (aD wr.heap.size 2)=some (i6 g.right)/\Wf.cell? (aD wr.heap.size 3)=some (sT g.ZM)/\Wf.cell? (aD wr.heap.size 4)=some (sT g.to)/\Wf.cell? (aD wr.heap.size 5)=some (.bool g.Zq)/\(Instr.lookup 153 (.map (some d.heap.size)) (.agg (Xm g).toArray) false).run prog Wf= .ok (i6 0) Wf:=⟨E.o.cell 0,E.o.cell 1,E.o.cell 2,E.o.cell 3,E.o.cell 4,E.o.cell 5,aF.o.look g ap.o false U.o⟩
         obtain⟨v0,st,F,J,ag,aI,ah,aH,aK,aL⟩:=aF.o.bump bU g ap.o U.o (by unfold maxLen;omega);have ai:some wr.heap.size≠some d.heap.size:=fun e=>by injection e with e;have:=bz.o;omega
         have N:=hid (E.o.grown aK ai);have a6:=hid (E.o.grown aL ai);have aq:F.cell? (aD wr.heap.size 0)=some (sT g.Z9)/\F.cell? (aD wr.heap.size 1)=some (sT g.ZZ)/\F.cell? (aD wr.heap.size 2)=some (i6 g.right)/\F.cell? (aD wr.heap.size 3)=some (sT g.ZM)/\F.cell? (aD wr.heap.size 4)=some (sT g.to)/\F.cell? (aD wr.heap.size 5)=some (.bool g.Zq)/\(Instr.lookup 153 (.map (some d.heap.size)) (.agg (Xm g).toArray) false).run prog F= .ok (i6 0) F:=⟨N.o.cell 0,N.o.cell 1,N.o.cell 2,N.o.cell 3,N.o.cell 4,N.o.cell 5,aI⟩
         have av:=hid aH;clear ay hb aH aK aL;refine D.out _ _ ar ?_
         clear D K;(try simp only [pp])
         clear s;have s:=ar;refine YU 3 86 s ?_;refine YU 4 87 s ?_;refine OH 5 88 fun K D=> ?_
         rw [if_pos (by rfl)];refine TW _ _ rfl rfl rfl ag ?_
         refine D.out _ _ aq ?_
         clear D K s;have s:=aq;(try simp only [pp])
         refine YU 6 89 s ?_;refine Zu.WR (i:=7) (o:=⟨none,_,_,_,_,_⟩) (by kernel_rfl) (by kernel_rfl) rfl (fun K D=> ?_)
         rw [if_pos (by rfl)];refine UM _ _ _ rfl rfl rfl rfl ah ?_
         refine D.out _ _ (Zu.done (by kernel_rfl) ?_ _);clear D K ag aI ah s aq ar aJ;have aw:=hid (av.o.later ((Below.refl J.heap.size J).alloc lr (.cells #[sT g.Z9,sT g.ZZ,i6 g.right,sT g.ZM,sT g.to,.bool g.Zq] 53))).own;have ae:=hid (ZP.news (ZP.new J 53 [sT g.Z9,sT g.ZZ,i6 g.right,sT g.ZM,sT g.to,.bool g.Zq]));obtain⟨i0,bg,bn,bo,bp⟩:=info_parts Ug;have be:W3.heap.size<=(J.alloc (.cells #[sT g.Z9,sT g.ZZ,i6 g.right,sT g.ZM,sT g.to,.bool g.Zq] 53)).heap.size:=by have:=av.o.bx.size;simp;omega
         go_wp2_with (first | (refine lO a6 aB underlying53 ?_) | (at_builtin;refine Zb rfl _ _ _ rfl W3.heap.size 53 i0 _ 6 80 underlying31 bg bn bo bp rfl (by decide) (.slice C l.length k1) l.length _ rfl aw.o (aD J.heap.size 0) 1 1 [sT g.Z9,sT g.ZZ,i6 g.right,sT g.ZM,sT g.to,.bool g.Zq] rfl rfl ae.o (by simp [Value.oneCell']) (by unfold maxLen;omega) (by omega) be ?_;intro A9 c9 w9 ba bf) | fail);have aA:=hid (aG.o HM.o);have ci:=LI (l:=l) (List.mem_of_find?_eq_some aA.o) U.o;have bh:=bG.o;have Z:(l ++ [g]).length=l.length+1:=by simp
         have bc:Vd c=XQ c (c.Z4.length - (l ++ [g]).length) (l ++ [g]):=by
          obtain⟨m,hm⟩: ∃ m,c.Z4.length - l.length=m+1:=⟨c.Z4.length - l.length - 1,by omega⟩
          rw [HF.o,hm,SV aA.o,Z,show c.Z4.length - (l.length+1)=m from by omega]
         have bd:w9.ownsRow W3.heap.size 53 6 (.slice A9 (l ++ [g]).length c9) (l ++ [g]).length ((l ++ [g]).flatMap Gr.cs):=by
          rw [Z,List.flatMap_append,List.flatMap_singleton];exact ba.out
         have au:=hid ((av.o.later ((Below.refl J.heap.size J).alloc lr (.cells #[sT g.Z9,sT g.ZZ,i6 g.right,sT g.ZM,sT g.to,.bool g.Zq] 53))).Do bd bf.o);rw [aj];go_roundw
         case rel=>exact⟨l ++ [g],A9,c9,by rw [Z],by rw [Z];omega,hid bc,hid (by rw [Z];omega),au⟩
         case measure=>simp only [EX];omega
       ·have HM:Hid (XU c l g=true):=hid (by rw [ac.o,U.o];simp only [hbo];rfl);clear hbo;go_wp2_with fail;have aE:Hid (Wx d.heap.size l l (.slice C l.length k1) W3 L.drew):=hid (aT.o.later br.drew);have G:Hid (ZP L.drew wr.heap.size 53 [sT g.Z9,sT g.ZZ,i6 g.right,sT g.ZM,sT g.to,.bool g.Zq]):=G9;have aJ:L.drew.cell? (aD wr.heap.size 0)=some (sT g.Z9)/\L.drew.cell? (aD wr.heap.size 1)=some (sT g.ZZ)/\L.drew.cell? (aD wr.heap.size 2)=some (i6 g.right)/\L.drew.cell? (aD wr.heap.size 3)=some (sT g.ZM)/\L.drew.cell? (aD wr.heap.size 4)=some (sT g.to)/\L.drew.cell? (aD wr.heap.size 5)=some (.bool g.Zq)/\(Instr.lookup 153 (.map (some d.heap.size)) (.agg (Xm g).toArray) false).run prog L.drew= .ok (i6 0) L.drew:=⟨G.o.cell 0,G.o.cell 1,G.o.cell 2,G.o.cell 3,G.o.cell 4,G.o.cell 5,aE.o.look g ap.o false U.o⟩
        refine Zp 7 (S:=fun w'=>w'.cell? (aD wr.heap.size 0)=some (sT g.Z9)/\w'.cell? (aD wr.heap.size 1)=some (sT g.ZZ)/\w'.cell? (aD wr.heap.size 2)=some (i6 g.right)/\w'.cell? (aD wr.heap.size 3)=some (sT g.ZM)/\w'.cell? (aD wr.heap.size 4)=some (sT g.to)/\w'.cell? (aD wr.heap.size 5)=some (.bool g.Zq)/\(Instr.lookup 153 (.map (some d.heap.size)) (.agg (Xm g).toArray) false).run prog w'= .ok (i6 0) w') (by kernel_rfl) aJ (fun s=> ?_)
        (try simp only [pp]);refine YU 0 83 s ?_;refine YU 1 84 s ?_;refine OH 2 85 fun K D=> ?_
        go_simp;have ay:=Rl g L.drew;unfold Gr.cs at ay;refine ay.mono ?_
        rintro e Wf ⟨rfl,hb⟩;have aF:=hid (aE.o.later hb);have E:=bl G hb;have ar:Wf.cell? (aD wr.heap.size 0)=some (sT g.Z9)/\Wf.cell? (aD wr.heap.size 1)=some (sT g.ZZ)/\Wf.cell? (aD wr.heap.size 2)=some (i6 g.right)/\Wf.cell? (aD wr.heap.size 3)=some (sT g.ZM)/\Wf.cell? (aD wr.heap.size 4)=some (sT g.to)/\Wf.cell? (aD wr.heap.size 5)=some (.bool g.Zq)/\(Instr.lookup 153 (.map (some d.heap.size)) (.agg (Xm g).toArray) false).run prog Wf= .ok (i6 0) Wf:=⟨E.o.cell 0,E.o.cell 1,E.o.cell 2,E.o.cell 3,E.o.cell 4,E.o.cell 5,aF.o.look g ap.o false U.o⟩
        obtain⟨v0,st,F,J,ag,aI,ah,aH,aK,aL⟩:=aF.o.bump bU g ap.o U.o (by unfold maxLen;omega);have ai:some wr.heap.size≠some d.heap.size:=fun e=>by injection e with e;have:=bz.o;omega
        have N:=hid (E.o.grown aK ai);have a6:=hid (E.o.grown aL ai);have aq:F.cell? (aD wr.heap.size 0)=some (sT g.Z9)/\F.cell? (aD wr.heap.size 1)=some (sT g.ZZ)/\F.cell? (aD wr.heap.size 2)=some (i6 g.right)/\F.cell? (aD wr.heap.size 3)=some (sT g.ZM)/\F.cell? (aD wr.heap.size 4)=some (sT g.to)/\F.cell? (aD wr.heap.size 5)=some (.bool g.Zq)/\(Instr.lookup 153 (.map (some d.heap.size)) (.agg (Xm g).toArray) false).run prog F= .ok (i6 0) F:=⟨N.o.cell 0,N.o.cell 1,N.o.cell 2,N.o.cell 3,N.o.cell 4,N.o.cell 5,aI⟩
        have av:=hid aH;clear ay hb aH aK aL;refine D.out _ _ ar ?_
        clear D K;(try simp only [pp])
        clear s;have s:=ar;refine YU 3 86 s ?_;refine YU 4 87 s ?_;refine OH 5 88 fun K D=> ?_
        rw [if_pos (by rfl)];refine TW _ _ rfl rfl rfl ag ?_
        refine D.out _ _ aq ?_
        clear D K s;have s:=aq;(try simp only [pp])
        refine YU 6 89 s ?_;refine Zu.WR (i:=7) (o:=⟨none,_,_,_,_,_⟩) (by kernel_rfl) (by kernel_rfl) rfl (fun K D=> ?_)
        rw [if_pos (by rfl)];refine UM _ _ _ rfl rfl rfl rfl ah ?_
        refine D.out _ _ (Zu.done (by kernel_rfl) ?_ _);clear D K ag aI ah s aq ar aJ;have aw:=hid (av.o.later ((Below.refl J.heap.size J).alloc lr (.cells #[sT g.Z9,sT g.ZZ,i6 g.right,sT g.ZM,sT g.to,.bool g.Zq] 53))).own;have ae:=hid (ZP.news (ZP.new J 53 [sT g.Z9,sT g.ZZ,i6 g.right,sT g.ZM,sT g.to,.bool g.Zq]));obtain⟨i0,bg,bn,bo,bp⟩:=info_parts Ug;have be:W3.heap.size<=(J.alloc (.cells #[sT g.Z9,sT g.ZZ,i6 g.right,sT g.ZM,sT g.to,.bool g.Zq] 53)).heap.size:=by have:=av.o.bx.size;simp;omega
        go_wp2_with (first | (refine lO a6 aB underlying53 ?_) | (at_builtin;refine Zb rfl _ _ _ rfl W3.heap.size 53 i0 _ 6 80 underlying31 bg bn bo bp rfl (by decide) (.slice C l.length k1) l.length _ rfl aw.o (aD J.heap.size 0) 1 1 [sT g.Z9,sT g.ZZ,i6 g.right,sT g.ZM,sT g.to,.bool g.Zq] rfl rfl ae.o (by simp [Value.oneCell']) (by unfold maxLen;omega) (by omega) be ?_;intro A9 c9 w9 ba bf) | fail);have aA:=hid (aG.o HM.o);have ci:=LI (l:=l) (List.mem_of_find?_eq_some aA.o) U.o;have bh:=bG.o;have Z:(l ++ [g]).length=l.length+1:=by simp
        have bc:Vd c=XQ c (c.Z4.length - (l ++ [g]).length) (l ++ [g]):=by
         obtain⟨m,hm⟩: ∃ m,c.Z4.length - l.length=m+1:=⟨c.Z4.length - l.length - 1,by omega⟩
         rw [HF.o,hm,SV aA.o,Z,show c.Z4.length - (l.length+1)=m from by omega]
        have bd:w9.ownsRow W3.heap.size 53 6 (.slice A9 (l ++ [g]).length c9) (l ++ [g]).length ((l ++ [g]).flatMap Gr.cs):=by
         rw [Z,List.flatMap_append,List.flatMap_singleton];exact ba.out
        have au:=hid ((av.o.later ((Below.refl J.heap.size J).alloc lr (.cells #[sT g.Z9,sT g.ZZ,i6 g.right,sT g.ZM,sT g.to,.bool g.Zq] 53))).Do bd bf.o);rw [aj];go_roundw
        case rel=>exact⟨l ++ [g],A9,c9,by rw [Z],by rw [Z];omega,hid bc,hid (by rw [Z];omega),au⟩
        case measure=>simp only [EX];omega
      ·have bW:(Instr.lookup 153 (.map (some d.heap.size)) (.agg (Xm g).toArray) false).run prog V8= .ok (i6 1) V8:=am.o.look g ap.o true hany;have HM:Hid (XU c l g=false):=hid (by rw [ac.o,hany];rfl)
       clear hany;go_wp2_with fail;go_roundw
       case rel=>exact⟨j+1,by omega,rfl,by go_num,hid (an.o HM.o),am⟩
       case measure=>simp [intOf];omega
     ·obtain rfl:j=c.Z4.length:=by omega
      have ao:Hid (Vd c=l):=hid (by rw [HF.o,Oz (I5 fun i hi=>a8.o i hi hi)]);have az:=hid (aa.o _ HK.o).1;go_wp2_with fail;by_cases h0:0<l.length
      ·refine(JT W3.heap.size l C k1 wr HK.o.own h0 (by omega)).mono ?_
       rintro e w' ⟨rfl,l',hp,_,ho,hb,_,_⟩;have aM:l.length=l'.length:=hp.length_eq.symm;have af:Hid (JI c w (.returned (.slice C l.length k1)) w'):=hid (by
        rw [aM] at ho ⊢;exact⟨l',C,k1,rfl,by rw [ao.o];exact hp,ho.Yp (Nat.le_of_lt aQ),az.o.trans (hb.mono (Nat.le_of_lt aQ))⟩)
       clear hp ho hb aM;go_wp2;(try rw [Exit.noGoto_ret])
       go_ret;exact af.o
      ·obtain rfl:l= []:=by
        cases l with
        | nil=>rfl
        | cons a l=>exact absurd (Nat.succ_pos _) h0
       have bj:=AnyF.slices_SortFunc_none Tryz.NB C k1 (.func (.func 90) #[] #[]) wr;change cQ 89 _ _ _ at bj
       refine bj.mono ?_
       rintro e w' ⟨rfl,rfl⟩;have af:Hid (JI c w (.returned (.slice C ([]:List Gr).length k1)) w'):=hid ⟨[],C,k1,rfl,by rw [ao.o],HK.o.own.Yp (Nat.le_of_lt aQ),az.o⟩;clear bj;go_wp2;(try rw [Exit.noGoto_ret])
       go_ret;exact af.o
theorem Q9 (c:Ca)(A:Wd)(w:World)(M:UH w w.heap.size c A)(O:c.Zo 1099511627776):
  cQ 44 #[.agg (c.cs A).toArray] w fun e w'=>e= .returned (.bool (Xf c))/\Bw w w':=by
 have I:=hid M;have L:=hid O;have E:Hid (Xf c=(Xz c && (Vd c).length == c.Z4.length)):=hid rfl;clear M O;generalize Xf c=res at*;unfold Ca.cs;have j:Hid (ZP (w.alloc (.cells #[i6 c.ZO,i6 c.ZR,sl A.a0 c.ob.Z7 A.k0,sl A.a1 c.ob.Z8 A.k1,sl A.a2 c.ro.ZU A.k2,sl A.a3 c.ro.ZY A.k3,sl A.a4 c.Z4 A.k4] 33)) w.heap.size 33 [i6 c.ZO,i6 c.ZR,sl A.a0 c.ob.Z7 A.k0,sl A.a1 c.ob.Z8 A.k1,sl A.a2 c.ro.ZU A.k2,sl A.a3 c.ro.ZY A.k3,sl A.a4 c.Z4 A.k4]):=hid (ZP.new w _ _);have u:Hid (Below w.heap.size w (w.alloc (.cells #[i6 c.ZO,i6 c.ZR,sl A.a0 c.ob.Z7 A.k0,sl A.a1 c.ob.Z8 A.k1,sl A.a2 c.ro.ZU A.k2,sl A.a3 c.ro.ZY A.k3,sl A.a4 c.Z4 A.k4] 33))):=hid (br.alloc lr _);go_enter func44,ntmps44
 go_wp2_with fail;generalize (w.alloc (.cells #[i6 c.ZO,i6 c.ZR,sl A.a0 c.ob.Z7 A.k0,sl A.a1 c.ob.Z8 A.k1,sl A.a2 c.ro.ZU A.k2,sl A.a3 c.ro.ZY A.k3,sl A.a4 c.Z4 A.k4] 33))=W0 at*;have C:=fun W h=>OM c A W h L.o
 have J:=fun W h=>Pq c A W h L.o
 unfold Ca.cs at C J;have D:=u.o.size
 cases hst:Xz c
 ·have G:Hid (res=false):=hid (by rw [E.o,hst];rfl);rw [hst] at C;clear hst J E;refine wp_region_held_drew (S:=fun w'=>Bw W0 w'/\w'.cell? (aN w 0)=some (i6 c.ZO)/\w'.cell? (aN w 1)=some (i6 c.ZR)/\w'.cell? (aN w 2)=some (sl A.a0 c.ob.Z7 A.k0)/\w'.cell? (aN w 3)=some (sl A.a1 c.ob.Z8 A.k1)/\w'.cell? (aN w 4)=some (sl A.a2 c.ro.ZU A.k2)/\w'.cell? (aN w 5)=some (sl A.a3 c.ro.ZY A.k3)/\w'.cell? (aN w 6)=some (sl A.a4 c.Z4 A.k4)) (by kernel_rfl) (⟨(Below.refl W0.heap.size W0).drew,cb j ((Below.refl W0.heap.size W0).drew) 0,cb j ((Below.refl W0.heap.size W0).drew) 1,cb j ((Below.refl W0.heap.size W0).drew) 2,cb j ((Below.refl W0.heap.size W0).drew) 3,cb j ((Below.refl W0.heap.size W0).drew) 4,cb j ((Below.refl W0.heap.size W0).drew) 5,cb j ((Below.refl W0.heap.size W0).drew) 6⟩) (fun d=> ?_)
  (try simp only [pp]);refine tk 0 3 d ?_;refine on 1 4 fun K s=> ?_
  go_simp;refine(C _ (I.o.later (u.o.trans (d.1.mono D)))).mono ?_
  rintro e U ⟨rfl,hb⟩;have m:=d.1.trans (hb.mono d.1.size);refine s.out _ _ ⟨m,cb j (m) 0,cb j (m) 1,cb j (m) 2,cb j (m) 3,cb j (m) 4,cb j (m) 5,cb j (m) 6⟩ (fun d=> ?_);clear hb m;clear s K;(try simp only [pp])
  refine tb 2 5 (.bool false) d ?_;refine sk 3 6 d ?_;refine sk 4 7 d ?_;refine sk 5 8 d ?_;refine sk 6 9 d ?_;refine sk 7 10 d ?_;refine sk 8 11 d ?_;refine sk 9 12 d ?_;refine tk 10 13 d ?_;refine tk 11 2 d ?_;refine wpAnyH_done (by kernel_rfl) ?_ _
  have F:=hid (u.o.trans (d.1.mono D));clear d;go_wp2;go_ret;exact⟨by rw [G.o];rfl,F.o⟩
 ·have G:Hid (res=((Vd c).length == c.Z4.length)):=hid (by rw [E.o,hst];rfl);rw [hst] at C;clear hst E;refine wp_region_held_drew (S:=fun w'=>Bw W0 w'/\w'.cell? (aN w 0)=some (i6 c.ZO)/\w'.cell? (aN w 1)=some (i6 c.ZR)/\w'.cell? (aN w 2)=some (sl A.a0 c.ob.Z7 A.k0)/\w'.cell? (aN w 3)=some (sl A.a1 c.ob.Z8 A.k1)/\w'.cell? (aN w 4)=some (sl A.a2 c.ro.ZU A.k2)/\w'.cell? (aN w 5)=some (sl A.a3 c.ro.ZY A.k3)/\w'.cell? (aN w 6)=some (sl A.a4 c.Z4 A.k4)) (by kernel_rfl) (⟨(Below.refl W0.heap.size W0).drew,cb j ((Below.refl W0.heap.size W0).drew) 0,cb j ((Below.refl W0.heap.size W0).drew) 1,cb j ((Below.refl W0.heap.size W0).drew) 2,cb j ((Below.refl W0.heap.size W0).drew) 3,cb j ((Below.refl W0.heap.size W0).drew) 4,cb j ((Below.refl W0.heap.size W0).drew) 5,cb j ((Below.refl W0.heap.size W0).drew) 6⟩) (fun d=> ?_)
  (try simp only [pp]);refine tk 0 3 d ?_;refine on 1 4 fun K s=> ?_
  go_simp;refine(C _ (I.o.later (u.o.trans (d.1.mono D)))).mono ?_
  rintro e U ⟨rfl,hb⟩;have m:=d.1.trans (hb.mono d.1.size);refine s.out _ _ ⟨m,cb j (m) 0,cb j (m) 1,cb j (m) 2,cb j (m) 3,cb j (m) 4,cb j (m) 5,cb j (m) 6⟩ (fun d=> ?_);clear hb m;clear s K;(try simp only [pp])
  refine tb 2 5 (.bool true) d ?_;refine tk 3 6 d ?_;refine tk 6 9 d ?_;refine tk 7 10 d ?_;refine tk 8 11 d ?_;refine on 4 7 fun K s=> ?_
  go_simp;refine(J _ (I.o.later (u.o.trans (d.1.mono D)))).mono ?_
  rintro e Z ⟨l,V,k2,rfl,N,_,hb⟩;have T:=hid N.length_eq;have m:=d.1.trans (hb.mono d.1.size);refine s.out _ _ ⟨m,cb j (m) 0,cb j (m) 1,cb j (m) 2,cb j (m) 3,cb j (m) 4,cb j (m) 5,cb j (m) 6⟩ (fun d=> ?_);clear hb m N;clear s K;(try simp only [pp])
  refine tk 5 8 d ?_;refine tk 9 12 d ?_;refine tk 10 13 d ?_;refine tk 11 2 d ?_;refine wpAnyH_done (by kernel_rfl) ?_ _
  have F:=hid (u.o.trans (d.1.mono D));clear d;go_wp2;go_ret;refine⟨?_,F.o⟩
  rw [G.o,<-T.o];simp
  rw [Bool.eq_iff_iff];simp only [beq_iff_eq];omega
theorem KC (c:Ca)(A:Wd)(w:World)(s:UH w w.heap.size c A)(u:c.Zo 1099511627776):
  cQ 65 #[.agg (c.cs A).toArray] w fun e w'=>e= .returned (i6 (if Xf c then 0 else 1))/\Bw w w':=by
 have D:=hid s;have E:=hid u;have C:=iN 33 7;clear s u;have d:Hid (Below w.heap.size w (w.alloc (.cells #[i6 c.ZO,i6 c.ZR,sl A.a0 c.ob.Z7 A.k0,sl A.a1 c.ob.Z8 A.k1,sl A.a2 c.ro.ZU A.k2,sl A.a3 c.ro.ZY A.k3,sl A.a4 c.Z4 A.k4] 33))):=hid (br.alloc lr _);have m:Hid (ZP (w.alloc (.cells #[i6 c.ZO,i6 c.ZR,sl A.a0 c.ob.Z7 A.k0,sl A.a1 c.ob.Z8 A.k1,sl A.a2 c.ro.ZU A.k2,sl A.a3 c.ro.ZY A.k3,sl A.a4 c.Z4 A.k4] 33)) w.heap.size 33 [i6 c.ZO,i6 c.ZR,sl A.a0 c.ob.Z7 A.k0,sl A.a1 c.ob.Z8 A.k1,sl A.a2 c.ro.ZU A.k2,sl A.a3 c.ro.ZY A.k3,sl A.a4 c.Z4 A.k4]):=hid (ZP.new w _ _);have h:=Q9 c A _ (D.o.later d.o) E.o;unfold Ca.cs at h ⊢;generalize Xf c=res at*;go_enter func65,ntmps65
 go_wp2_with (first | (refine lO m C underlying33 ?_) | fail);refine h.mono ?_
 rintro e w' ⟨rfl,hb⟩;have j:=bt d hb;clear h hb m d
 cases res
 ·go_wp2;go_ret;exact⟨rfl,j.o⟩
 ·go_wp2;go_ret;exact⟨rfl,j.o⟩
theorem Ol (c:Ca)(A:Wd)(ZQ s n:lU)(w:World)(hc:UH w w.heap.size c A)(m:c.Zo 1099511627776):
  cQ 13 #[.agg (c.cs A).toArray,sT ZQ,sT s,sT n] w fun e w'=>e= .returned (.bool (VK c ZQ s n))/\Bw w w':=by
 have C:=hid hc;have F:=hid m;have aj:=m.2.1.1;have am:=m.2.2;have d:Hid (VK c ZQ s n=match Uu c s n with | some t=>(Xf c && (c.ro.ZU.contains ZQ && VD c (XN c.ro ZQ) t)) | none=>false):=hid (by unfold VK;cases Uu c s n <;> simp only [Bool.and_assoc])
 have ag:=iN 33 7;have ak:=iN 73 5;clear hc m;generalize VK c ZQ s n=res at*;unfold Ca.cs;have T:Hid (ZP (w.alloc (.cells #[i6 c.ZO,i6 c.ZR,sl A.a0 c.ob.Z7 A.k0,sl A.a1 c.ob.Z8 A.k1,sl A.a2 c.ro.ZU A.k2,sl A.a3 c.ro.ZY A.k3,sl A.a4 c.Z4 A.k4] 33)) w.heap.size 33 [i6 c.ZO,i6 c.ZR,sl A.a0 c.ob.Z7 A.k0,sl A.a1 c.ob.Z8 A.k1,sl A.a2 c.ro.ZU A.k2,sl A.a3 c.ro.ZY A.k3,sl A.a4 c.Z4 A.k4]):=hid (ZP.new w _ _);have M:Hid (Below w.heap.size w (w.alloc (.cells #[i6 c.ZO,i6 c.ZR,sl A.a0 c.ob.Z7 A.k0,sl A.a1 c.ob.Z8 A.k1,sl A.a2 c.ro.ZU A.k2,sl A.a3 c.ro.ZY A.k3,sl A.a4 c.Z4 A.k4] 33))):=hid (br.alloc lr _);go_enter func13,ntmps13
 go_wp2_with (first | (refine lO T ag underlying33 ?_) | fail);generalize (w.alloc (.cells #[i6 c.ZO,i6 c.ZR,sl A.a0 c.ob.Z7 A.k0,sl A.a1 c.ob.Z8 A.k1,sl A.a2 c.ro.ZU A.k2,sl A.a3 c.ro.ZY A.k3,sl A.a4 c.Z4 A.k4] 33))=W0 at*;have V:=Tc c A s n W0 (C.o.later M.o) F.o.1.2.1;unfold Ca.cs at V;refine V.mono ?_
 rintro e W1 ⟨t,X,x,Y,y,rfl,hb,m⟩;have N:=bt M hb;have G:=bl T hb;have O:=hid m;clear hb V M T m;unfold Tb.cs;have an:=G.o.lt;have p4:(W1.alloc (.cells #[sT t.Z9,sT t.name,sT t.ZN,sl X t.Z3 x,sl Y t.ZW y] 73)).cell? (aN w 4)=some (sl A.a2 c.ro.ZU A.k2):=(G.o.alloc _).cell 4;have p5:(W1.alloc (.cells #[sT t.Z9,sT t.name,sT t.ZN,sl X t.Z3 x,sl Y t.ZW y] 73)).cell? (aN w 5)=some (sl A.a3 c.ro.ZY A.k3):=(G.o.alloc _).cell 5;go_wp2_with fail;refine Zi _ fun W2 L=> ?_
 have J:=rL L (N.o.alloc N.o.size _);have P2:=rB L (G.o.alloc _);have T2:=nC L;clear L N G p4 p5;refine(Qw c.ro A.a2 A.k2 A.a3 A.k3 ZQ W2 (C.o.later J.o).nm (C.o.later J.o).mb F.o.2.1).mono ?_
 rintro e W3 ⟨I,ic,rfl,ae,hb⟩;have K:=bt J hb;have h:=bl P2 hb;have T3:=bl T2 hb;have ab:=hid ae;have ai:(XN c.ro ZQ).length<=1099511627776:=Nat.le_trans (Qg _ _) F.o.2.1.1;clear hb ae J P2 T2
 cases htp:Uu c s n with
 | none=>
  have E:Hid (res=false):=hid (by rw [d.o,htp]);rw [htp] at d;clear htp O d;go_wp2;go_ret;exact⟨by rw [E.o];rfl,K.o⟩
 | some t0=>
  obtain rfl:=O.o t0 htp;rw [htp] at d;have ah:=hid htp;replace d:Hid (res=((Xf c && (c.ro.ZU.contains ZQ && VD c (XN c.ro ZQ) t)))):=hid d.o;clear htp O;have q0:=ce h 0;have q1:=ce h 1;have q2:=ce h 2;have q3:=ce h 3;have q4:=ce h 4;have q5:=ce h 5;have q6:=ce h 6;go_wp2_with fail;have Z:=Q9 c A W3 (C.o.later K.o) F.o;unfold Ca.cs at Z;refine Z.mono ?_
  rintro e W4 ⟨rfl,hb⟩;have u:=bt K hb;have j:=bl h hb;have D:=bl T3 hb;have aa:=hid (ab.o.later hb);clear hb Z K h T3 ab q0 q1 q2 q3 q4 q5 q6
  cases hwh:Xf c
  ·have E:Hid (res=false):=hid (by rw [d.o,hwh];rfl);clear d hwh;go_wp2;go_ret;exact⟨by rw [E.o];rfl,u.o⟩
  rw [hwh,Bool.true_and] at d;have ac:Hid (∃ i,Xd c.ob.Z7 t.Z9=some i):=hid (Option.isSome_iff_exists.1 (S4 (Yl (by unfold Xf at hwh;simp only [Bool.and_eq_true] at hwh;exact hwh.1)).2.1 (Rc ah.o).1));clear hwh;have p4:=ce j 4;go_wp2_with fail;refine(Zf c.ro.ZU A.a2 A.k2 ZQ W4 (C.o.later u.o).nm aj).mono ?_
  rintro e w5 ⟨rfl,rfl⟩;generalize c.ro.ZU.contains ZQ=b2 at*
  cases b2
  ·have E:Hid (res=false):=hid d.o;clear d;go_wp2;go_ret;exact⟨by rw [E.o];rfl,u.o⟩
  rw [Bool.true_and] at d;clear p4;have q0:=ce j 0;have q1:=ce j 1;have q2:=ce j 2;have q3:=ce j 3;have q4:=ce j 4;have q5:=ce j 5;have q6:=ce j 6;have s0:=ce D 0;have s1:=ce D 1;have s2:=ce D 2;have s3:=ce D 3;have s4:=ce D 4;go_wp2_with fail;obtain⟨it,ad⟩:=ac.o;have U:=PZ c A (XN c.ro ZQ) I ic t X x Y y it w5 (C.o.later u.o) aa.o ai F.o.1.1 ad;unfold Ca.cs Tb.cs at U;refine U.mono ?_
  rintro e W6 ⟨rfl,hb⟩;have af:=bt u hb;clear hb U q0 q1 q2 q3 q4 q5 q6 s0 s1 s2 s3 s4 u j D aa ac ad;generalize VD c (XN c.ro ZQ) t=b3 at*;go_wp2;go_ret;exact⟨by rw [d.o];rfl,af.o⟩
theorem Vb: ∀ (xs:lV)(o:Nat)(d:lV),(XP xs o d).length=xs.length
 | _,_,[]=>rfl
 | xs,o,v ::r=>by rw [XP,Vb _ _ r,List.length_set]
theorem XF {base g n c k:Nat}{T:TypeId} : ∀ (d:lV){w:World}{xs:lV}(o:Nat),w.ownsRow base T k (.slice (some (aD g 0)) n c) n xs->o+d.length<=xs.length->(w.setCells g o d).ownsRow base T k (.slice (some (aD g 0)) n c) n (XP xs o d)
 | [],_,_,_,h,_=>h
 | v ::r,w,xs,o,h,hl=>by
  rw [List.length_cons] at hl;exact XF r (o+1) (XG h (by omega) v) (by rw [List.length_set];omega)
theorem I4 {α:Type}{enc:α->lV}{k:Nat}(d: ∀ x,(enc x).length=k)(l:List α)(j:Nat)(h:j<l.length)(a:α):XP (l.flatMap enc) (j*k) (enc a)=(l.set j a).flatMap enc:=by
 have m:l=l.take j ++ (l[j] ::l.drop (j+1)):=by rw [List.getElem_cons_drop,List.take_append_drop]
 have s:l.set j a=l.take j ++ (a ::l.drop (j+1)):=by rw [List.set_eq_take_append_cons_drop,if_pos h]
 have u:((l.take j).flatMap enc).length=j*k:=by rw [Zm d,List.length_take,Nat.min_eq_left (Nat.le_of_lt h)]
 rw [s];conv=>lhs;rw [m]
 rw [List.flatMap_append,List.flatMap_cons,List.flatMap_append,List.flatMap_cons,<-u];exact Xp (enc a) _ (enc l[j]) _ (by rw [d,d])
theorem GP {α:Type}{enc:α->lV}{k:Nat}(d: ∀ x,(enc x).length=k){w:World}{base g n c:Nat}{T:TypeId}{l:List α}(h:w.ownsRow base T k (.slice (some (aD g 0)) n c) n (l.flatMap enc)){j:Nat}(m:j<l.length)(a:α):
  (w.setCells g (j*k) (enc a)).ownsRow base T k (.slice (some (aD g 0)) n c) n ((l.set j a).flatMap enc):=by
 have s:=XF (enc a) (j*k) h (by
  rw [Zm d,d];calc j*k+k=(j+1)*k:=by rw [Nat.add_mul,Nat.one_mul]
   _<=l.length*k:=Nat.mul_le_mul_right k m)
 rwa [I4 d l j m a] at s
theorem Xi {w:World}{base:Nat}{T:TypeId}{size n c:Nat}{A:oA}{xs:lV}(h:w.ownsRow base T size (.slice A n c) n xs)(d:0<n): ∃ g,A=some (aD g 0):=by
 obtain⟨g,cap,j,_,_⟩:=h.form d;exact⟨g,by injection j⟩
theorem Tb.Yn {w:World}{B:Nat}{l:List Tb}{A:oA}(h:ZT w (· < B) Zn (l.map Tb.da) A): ∃ ts:List YX,ts.map (·.1)=l/\Zj w B A YX.cs ts/\ ∀ t∈ts,ZT w (· < B) Zz (t.1.Z3.map Cl.da) t.2.1/\ZT w (· < B) YF (t.1.ZW.map Ru.da) t.2.2.2.1:=
 WF (enc:=YX.cs) (sh:=Zn) Tb.da (·.1) (fun t:YX=>ZT w (· < B) Zz (t.1.Z3.map Cl.da) t.2.1/\ZT w (· < B) YF (t.1.ZW.map Ru.da) t.2.2.2.1) (fun t s m=>by
  obtain⟨X,x,Y,y,rfl,d,j⟩:=Tb.YY m;exact⟨(t,X,x,Y,y),rfl,rfl,d,j⟩) YX.k h
theorem Tb.Nl {w:World}{S:Nat->Prop}{t:YX}(d:ZT w S Zz (t.1.Z3.map Cl.da) t.2.1)(h:ZT w S YF (t.1.ZW.map Ru.da) t.2.2.2.1):ZE w S Zn t.1.da (YX.cs t):=by
 obtain⟨t,X,x,Y,y⟩:=t;refine ZE.mk (Yv.YO _) (ZE.mk (Yv.YO _) (ZE.mk (Yv.YO _) (ZE.mk ?_ (ZE.one ?_))))
 ·have:=Yv.Wn x d;rwa [List.length_map] at this
 ·have:=Yv.Wn y h;rwa [List.length_map] at this
def CT:List TypeId:= [89,73,119,40,9,147,53]
structure Ta (w:World) (c:Ca) (A:Wd):Prop where
 sc:ZT w (Xs w CT) Ze (c.ob.Z7.map Sc.da) A.a0
 tb:ZT w (Xs w CT) Zn (c.ob.Z8.map Tb.da) A.a1
 nm:ZT w (Xs w CT) [.Z2] (YV c.ro.ZU) A.a2
 mb:ZT w (Xs w CT) YM (c.ro.ZY.map Mb.da) A.a3
 gr:ZT w (Xs w CT) Ya (c.Z4.map Gr.da) A.a4
theorem ZT.XJ {w:World}{us:List TypeId}{sh:List Sh}{ds:List (List Da)}{A:oA}(h:ZT w (Xs w us) sh ds A):rA w sh ds A:=h.YW (fun _ ⟨_,_,d⟩=>d.lt) (fun _ _=>rfl)
theorem Ta.VE {w:World}{c:Ca}{A:Wd}(h:Ta w c A):UH w w.heap.size c A:=⟨h.sc.XJ,h.tb.XJ,h.nm.XJ,h.mb.XJ,h.gr.XJ⟩
theorem Ta.keeps {us:List TypeId}{w w':World}{c:Ca}{A:Wd}(h:Ta w c A)(d:ZS us w w')(hd: ∀ t,t∈CT->t∉us):Ta w' c A:=⟨ZI h.sc d hd,ZI h.tb d hd,ZI h.nm d hd,ZI h.mb d hd,ZI h.gr d hd⟩
theorem Ta.later {w w':World}{c:Ca}{A:Wd}(h:Ta w c A)(hb:Bw w w'):Ta w' c A:=h.keeps (us:= []) (ZS.ZA hb lr) (by simp)
theorem ZT.RW {w:World}{us:List TypeId}{sh:List Sh}{ds:List (List Da)}{A:oA}(h:ZT w (Xs w us) sh ds A)(j: ∀ t,t∈us->t∈CT):ZT w (Xs w CT) sh ds A:=h.YW (fun _ ⟨t,m,d⟩=>⟨t,j t m,d⟩) (fun _ _=>rfl)
def CG:List TypeId:= [89,73,119,40,9,147]
structure Qn (w:World) (c:Ca) (A:Wd):Prop where
 sc:ZT w (Xs w CG) Ze (c.ob.Z7.map Sc.da) A.a0
 tb:ZT w (Xs w CG) Zn (c.ob.Z8.map Tb.da) A.a1
 nm:ZT w (Xs w CG) [.Z2] (YV c.ro.ZU) A.a2
 mb:ZT w (Xs w CG) YM (c.ro.ZY.map Mb.da) A.a3
theorem Qn.keeps {us:List TypeId}{w w':World}{c:Ca}{A:Wd}(h:Qn w c A)(d:ZS us w w')(hd: ∀ t,t∈CG->t∉us):Qn w' c A:=⟨ZI h.sc d hd,ZI h.tb d hd,ZI h.nm d hd,ZI h.mb d hd⟩
theorem Qn.later {w w':World}{c:Ca}{A:Wd}(h:Qn w c A)(hb:Bw w w'):Qn w' c A:=h.keeps (us:= []) (ZS.ZA hb lr) (by simp)
theorem Qn.Gg {w:World}{c:Ca}{A:Wd}(h:Qn w c A)(d:ZT w (Xs w CT) Ya (c.Z4.map Gr.da) A.a4):Ta w c A:=⟨h.sc.RW (by decide),h.tb.RW (by decide),h.nm.RW (by decide),h.mb.RW (by decide),d⟩
theorem Nv.Dv {w:World}{o:Ob}{d j:oA}(h:Nv w o d j):ZT w (Xs w CT) Ze (o.Z7.map Sc.da) d:=h.sc.RW (by decide)
theorem Nv.Dt {w:World}{o:Ob}{j d:oA}(h:Nv w o j d):ZT w (Xs w CT) Zn (o.Z8.map Tb.da) d:=h.tb.RW (by decide)
theorem Uz {us:List TypeId}{α:Type}{enc:α->lV}{w:World}{base c n:Nat}{T:TypeId}{sh:List Sh}{A:oA}(da:α->List Da)(d: ∀ x,(enc x).length=sh.length){l:List α}(h:w.ownsRow base T sh.length (.slice A n c) n (l.flatMap enc))(u:n=l.length)(m:T∈us)
  (s: ∀ a∈l,ZE w (Xs w us) sh (da a) (enc a)):ZT w (Xs w us) sh (l.map da) A:=by
 have j:=Ye (S:=Xs w us) (sh:=sh) da id d h u s;rw [List.map_id] at j;exact j.YW (fun k d=>by
  rcases d with d | d
  ·exact d
  ·exact d.Rp (by simpa using m)) (fun _ _=>rfl)
theorem MU {us:List TypeId}{w:World}{base c:Nat}{l:List Sc}{A:oA}(h:w.ownsRow base 89 2 (.slice A l.length c) l.length (l.flatMap Sc.cs))(d:89∈us:=by decide):ZT w (Xs w us) Ze (l.map Sc.da) A:=Uz (sh:=Ze) Sc.da Sc.k h rfl d fun a _=>Sc.VW a
theorem Qp {us:List TypeId}{w:World}{base c:Nat}{l:List Mb}{A:oA}(h:w.ownsRow base 147 2 (.slice A l.length c) l.length (l.flatMap Mb.cs))(d:147∈us:=by decide):ZT w (Xs w us) YM (l.map Mb.da) A:=Uz (sh:=YM) Mb.da Mb.k h rfl d fun a _=>Mb.VW a
theorem Xn {us:List TypeId}{w:World}{base c:Nat}{l:List Gr}{A:oA}(h:w.ownsRow base 53 6 (.slice A l.length c) l.length (l.flatMap Gr.cs))(d:53∈us:=by decide):ZT w (Xs w us) Ya (l.map Gr.da) A:=Uz (sh:=Ya) Gr.da Gr.k h rfl d fun a _=>Gr.VW a
theorem UR {us:List TypeId}{w:World}{base c:Nat}{l:List lU}{A:oA}(h:w.ownsRow base 9 1 (.slice A l.length c) l.length (l.flatMap Yy))(d:9∈us:=by decide):ZT w (Xs w us) [.Z2] (YV l) A:=Uz (sh:= [.Z2]) (fun b=> [Da.Z2 b]) Yy.k h rfl d fun a _=>ZE.one (Yv.YO _)
theorem To: ∀ {a:lU},YR a a=0
 | []=>rfl
 | a ::l=>by
  have h:=To (a:=l);simp only [YR] at h ⊢;simp [Lib.compareBytes,h]
theorem Tx {α:Type}{c:α->α->Int}{a:α}{l:List α}(h:Zt c (a ::l)=true):Zt c l=true:=by
 cases l with
 | nil=>rfl
 | cons b l=>rw [Zt,Bool.and_eq_true] at h;exact h.2
theorem UP {α:Type}{c:α->α->Int}(d:U3 c): ∀ {l:List α}{a:α},Zt c (a ::l)=true-> ∀ x∈l,c a x<0
 | [],_,_,x,j=>by cases j
 | b ::l,a,h,x,j=>by
  rw [Zt,Bool.and_eq_true,decide_eq_true_eq] at h;rcases List.mem_cons.1 j with rfl | j
  ·exact h.1
  ·have u:=UP d h.2 x j;have s:=d.trans a b x (by omega) (by omega);rcases Int.lt_or_eq_of_le s with m | m
   ·exact m
   ·have C:c x a=0:=by rw [d.MJ a x,m];rfl
    have D:=d.trans x a b (by omega) (by omega);have E:=d.MJ b x;omega
theorem WE:U3 Xg:=(Xx.RI fun x:Tb=>x.Z9).EW (Xx.RI fun x:Tb=>x.name)
theorem Ua {a b:Tb}(d:a.Z9=b.Z9)(h:a.name=b.name):Xg a b=0:=by
 unfold Xg;rw [d,h,To,To];rfl
theorem NG: ∀ {l:List Tb}{j:Nat}(d:j<l.length),Zt Xg l=true->(l.findIdx? fun x=>x.Z9 == l[j].Z9 && x.name == l[j].name)=some j
 | a ::l,0,d,h=>by simp [List.findIdx?_cons]
 | a ::l,j+1,d,h=>by
  have m:j<l.length:=by simpa using d
  have u:=UP WE h l[j] (List.getElem_mem m);have C:=NG m (Tx h);have s:(a.Z9 == l[j].Z9 && a.name == l[j].name)=false:=by
   cases hb:(a.Z9 == l[j].Z9 && a.name == l[j].name) with
   | false=>rfl
   | true=>
    simp only [Bool.and_eq_true,beq_iff_eq] at hb;rw [Ua hb.1 hb.2] at u;omega
  rw [List.findIdx?_cons];simp only [List.getElem_cons_succ,s,C];rfl
theorem Mu {o:Ob}(h:Zc o=true):Zt Xg o.Z8=true/\Zt Wk o.Z7=true:=by
 unfold Zc at h;simp only [Bool.and_eq_true] at h;exact⟨h.1.1.1.2,h.1.1.2⟩
theorem Rb {o:Ob}(h:Zc o=true){j:Nat}(d:j<o.Z8.length):XA o o.Z8[j].Z9 o.Z8[j].name=some j:=NG d (Mu h).1
theorem Gr.Yn {w:World}{B:Nat}{l:List Gr}{A:oA}(h:ZT w (· < B) Ya (l.map Gr.da) A):Zj w B A Gr.cs l:=by
 obtain⟨s,d,j,_⟩:=WF (enc:=Gr.cs) (sh:=Ya) Gr.da id (fun _=>True) (fun x u m=>⟨x,rfl,Gr.YY m,trivial⟩) Gr.k h;rw [List.map_id] at d;rwa [d] at j
def Gj:List TypeId:= [119,40,9]
structure Nu (w w':World) (b:Nat) (t:TypeId):Prop where
 WT: ∀ k,k≠b->w'.heap[k]?=w.heap[k]?
 size:w'.heap.size=w.heap.size
 Xr:Za w b t
 Rw:Below b w w'
theorem Nu.keeps {w w':World}{b:Nat}{t:TypeId}(h:Nu w w' b t):ZS [t] w w':=⟨Nat.le_of_eq h.size.symm,fun k t' d j=>h.WT k (by rintro rfl;exact j (by simp [d.same h.Xr]))⟩
theorem UN {P:Program}{ops:Array Oper}{rest:List Oper}{op:Oper}{a:Act}{w:World}{Q:Exit->Act->World->Prop}(C:op.guard=none)(s:TypeId)(x y:Operand)(I:op.op= .store s x y)
  {α:Type} {enc:α->lV} {k:Nat} (m: ∀ x,(enc x).length=k) (g j:Nat) (v:α) (K:a.eval x= .pointer (some (aD g (j*k)))) (L:a.eval y= .agg (enc v).toArray) {base n c:Nat} {T:TypeId} {l:List α} (d:Hid (w.ownsRow base T k (.slice (some (aD g 0)) n c) n (l.flatMap enc))) (M:l.length=n) (G:j<l.length)
  (F:Hid ((P.info? s).map (·.size)=some k)) (E: ∀ u∈enc v,u.oneCell'=true)
  (h: ∀ w',Hid (Nu w w' g T)->Hid (w'.ownsRow base T k (.slice (some (aD g 0)) n c) n ((l.set j v).flatMap enc))->wpList P ops Q rest (a.put op.dst undef) w'):wpList P ops Q (op ::rest) a w:=by
 have D:j*k+k<=c*k:=by
  have N:=(Yw d.o).1;calc j*k+k=(j+1)*k:=by rw [Nat.add_mul,Nat.one_mul]
   _<=c*k:=Nat.mul_le_mul_right k (by omega)
 have hb:=ZJ d.o;refine wpList_store_mid C s x y I g (j*k) (enc v).toArray K L (by rw [List.size_toArray,m];exact Y8 d.o _ _ D) (by rw [List.size_toArray,m];exact F.o) (all_oneCell_toArray E) (h _ (hid ?_) (hid (GP m d.o G v)));exact⟨fun q J=>YZ w g J _ _,YT w g _ _,hb.2.2.1,ZF lr _ _⟩
theorem F6 {w:World}{us:List TypeId}{sh:List Sh}{ds:List Da}{d:lV}(h:ZE w (Xs w us) sh ds d):ZE w (· < w.heap.size) sh ds d:=ZE.YW (fun _ ⟨_,_,j⟩=>j.lt) (fun _ _=>rfl) sh ds d h
theorem KS {w w':World}{sh:List Sh}{ds:List Da}{d:lV}(h:ZE w (· < w.heap.size) sh ds d)(hb:Bw w w'):ZE w' (· < w'.heap.size) sh ds d:=ZE.YW (fun k j=>Nat.lt_of_lt_of_le j hb.size) (fun p m=>hb.cell m) sh ds d h
theorem UE (c:Ca)(A:Wd)(w:World)(hc:UH w w.heap.size c A)(F:c.Zo 1099511627776)(bm:Zc c.ob=true):
  cQ 185 #[.agg (c.cs A).toArray] w fun e w'=> ∃ A':Wd,e= .returned (.agg (c.cs A').toArray)/\Qn w' c A'/\w'.ownsRow w.heap.size 53 6 (.slice A'.a4 c.Z4.length A'.k4) c.Z4.length (c.Z4.flatMap Gr.cs)/\Bw w w':=by
 have HC:=hid hc;have HT:=hid F;have bU:=F.1.1;have b3:=F.1.2.1;have bT:=F.2.1.1;have bS:=F.2.1.2.1;have bM:=F.2.2;have aF:=hid bm;have aH:=iN 33 7;have aw:=iN 73 5;clear hc F bm;unfold Ca.cs;go_enter func185,ntmps185
 go_wp2_with fail;refine Zi _ fun W d=> ?_
 have aq:=bQ d;have P1:=nD d;have Q1:=nF d;clear d;refine(Um A.a0 A.k0 c.ob.Z7 W (Sc.Yn (HC.o.later aq.o).sc) bU).mono ?_
 rintro e W2 ⟨B0,l0,rfl,C,hb⟩;have aS:=bt aq hb;have a7:=hid (C.Yp aq.o.size);have P2:=bl P1 hb;have Q2:=bl Q1 hb;clear C hb aq P1 Q1;have p2:=ce P2 2;have f2:=P2.o.frozen 2;have p3:(W2.setCell (aN w 2) (sl B0 c.ob.Z7 l0)).cell? (aN w 3)=some (sl A.a1 c.ob.Z8 A.k1):=(P2.o.Zx 2 _).cell 3;go_wp2_with fail;refine Zi _ fun W3 d=> ?_
 have ar:Hid (Bw w W3):=hid (by rw [d];exact aS.o.setCell lr _);have P3:=rB d (P2.o.Zx 2 _);have Q3:Hid (ZP W3 (w.heap.size+1) 33 [i6 0,i6 0,sN,sN,sN,sN,sN]):=hid (by rw [d];exact Q2.o.WT (by show _≠w.heap.size;omega) _)
 have a8:Hid (W3.ownsRow w.heap.size 89 2 (sl B0 c.ob.Z7 l0) c.ob.Z7.length (c.ob.Z7.flatMap Sc.cs)):=hid (by rw [d];exact a7.o.keeps (ts:= [33]) (ZS.Zx P2.o.Xr (by simp) _) (by decide));clear d aS P2 Q2 a7 p2 f2 p3;obtain⟨aj,af,ao,ab⟩:=Tb.Yn (HC.o).tb;have bO:aj.length=c.ob.Z8.length:=by rw [<-af,List.length_map]
 have aV:=hid af;have aX:=hid ab;have cT:=Mr A.a1 A.k1 aj W3 (ao.later ar.o) (by omega);rw [bO] at cT;clear af ab ao;refine cT.mono ?_
 rintro e W4 ⟨B1,l1,rfl,C,hb⟩;have aT:=bt ar hb;have bd:=hid (C.Yp ar.o.size);have ba:=hid (a8.o.ZC hb);have P4:=bl P3 hb;have Q4:=bl Q3 hb;clear C hb cT ar P3 Q3 a8;have p3:=ce P4 3;have f3:=P4.o.frozen 3;have bW:(W4.setCell (aN w 3) (sl B1 c.ob.Z8 l1)).cell? (aN w 3)=some (sl B1 c.ob.Z8 l1):=(P4.o.Zx 3 _).cell 3;go_wp2_with fail;refine Wh _ fun W5 d=> ?_
 have au:Hid (Bw w W5):=hid (by rw [d];exact aT.o.setCell lr _);have P5:=rB d (P4.o.Zx 3 _);have Q5:Hid (ZP W5 (w.heap.size+1) 33 [i6 0,i6 0,sN,sN,sN,sN,sN]):=hid (by rw [d];exact Q4.o.WT (by show _≠w.heap.size;omega) _)
 have an:Hid (ZS [33] W4 W5):=hid (by rw [d];exact ZS.Zx P4.o.Xr (by simp) _);have bb:=hid (ba.o.keeps an.o (by decide));have be:=hid (bd.o.keeps an.o (by decide));have aY:Hid (∀ i (h:i<aj.length),ZE W5 (· < w.heap.size) Zn aj[i].1.da (YX.cs aj[i])):=hid fun i h=>by
  obtain⟨hX,hY⟩:=aX.o _ (List.getElem_mem h);exact Tb.Nl (hX.below au.o) (hY.below au.o)
 clear d aT P4 Q4 ba bd aX an p3 f3 bW;go_loopw [21] (fun i wr=> ∃ (j:Nat) (ts:List YX),j<=c.ob.Z8.length/\i=i6 j/\Hid (ts.map (·.1)=c.ob.Z8)/\Hid (wr.ownsRow w.heap.size 73 5 (sl B1 c.ob.Z8 l1) c.ob.Z8.length (ts.flatMap YX.cs))/\Hid (∀ i (h:i<ts.length),(i<j->ZE wr (Xs wr Gj) Zn ts[i].1.da (YX.cs ts[i]))/\(j<=i->ZE wr (· < w.heap.size) Zn ts[i].1.da (YX.cs ts[i])))/\Hid (wr.ownsRow w.heap.size 89 2 (sl B0 c.ob.Z7 l0) c.ob.Z7.length (c.ob.Z7.flatMap Sc.cs))/\Hid (Bw w wr)/\Hid (ZP wr w.heap.size 33 [i6 c.ZO,i6 c.ZR,sl B0 c.ob.Z7 l0,sl B1 c.ob.Z8 l1,sl A.a2 c.ro.ZU A.k2,sl A.a3 c.ro.ZY A.k3,sl A.a4 c.Z4 A.k4])/\Hid (ZP wr (w.heap.size+1) 33 [i6 0,i6 0,sN,sN,sN,sN,sN])) (fun i _=>c.ob.Z8.length - (intOf i).toNat)
 case atStart=>exact⟨0,aj,Nat.zero_le _,rfl,aV,be,hid (fun i h=>⟨fun h2=>absurd h2 (Nat.not_lt_zero _),fun _=>aY.o i h⟩),bb,au,P5,Q5⟩
 case round=>
  clear aV be aY bb au P5 Q5;obtain⟨j,ts,hj,rfl,HD,G,ah,ai,E,I,HQ⟩:=hrel;have ag:ts.length=c.ob.Z8.length:=by rw [<-HD.o,List.length_map]
  by_cases hlt:j<c.ob.Z8.length
  ·obtain⟨gt,rfl⟩:=Xi G.o (by omega);have aQ:j<ts.length:=by omega
   have am:Hid (ts[j].1=c.ob.Z8[j]):=hid (by
    have s:=HD.o;have h2:(ts.map (·.1))[j]?=c.ob.Z8[j]?:=by rw [s]
    rw [List.getElem?_map,List.getElem?_eq_getElem aQ,List.getElem?_eq_getElem hlt] at h2;simpa using h2)
   have aW:Hid (Sk c.ob ts[j].1.Z9 ts[j].1.name=0):=hid (by
    unfold Sk;rw [if_pos aF.o,am.o,Rb aF.o hlt];rfl)
   have aR:Hid (∀ i,XA c.ob ts[j].1.Z9 ts[j].1.name=some i->i=j):=hid fun i h=>by
    rw [am.o,Rb aF.o hlt] at h;injection h with h
    exact h.symm
   have aB:Hid (∀ t∈ts,ZE wr (· < wr.heap.size) Zn t.1.da (YX.cs t)):=hid fun t F=>by
    obtain⟨i,hi,rfl⟩:=List.getElem_of_mem F;rcases Nat.lt_or_ge i j with s | s
    ·exact F6 ((ah.o i hi).1 s)
    ·exact ZE.YW (fun k m=>Nat.lt_of_lt_of_le m E.o.size) (fun _ _=>rfl) _ _ _ ((ah.o i hi).2 s)
   have av:Hid (∀ i' u,(YX.cs ts[j])[i']?=some u->wr.cell? (((aD gt (j*5)):Addr).add i')=some u):=hid fun i' u hu=>by
    have hi':i'<5:=(List.getElem?_eq_some_iff.1 hu).1;rw [Addr.add_mid];exact WD G.o aQ i' hi' u hu
   generalize htj:ts[j]=tj at*;obtain⟨t,X,x,Y,y⟩:=tj;unfold YX.cs Tb.cs at av;simp only at av aW aR am;have bY:=hid htj;have HL:Hid ((prog.info? 73).map (·.size)=some ([sT t.Z9,sT t.name,sT t.ZN,sl X t.Z3 x,sl Y t.ZW y]:lV).length):=aw;have k2:(wr.alloc (.cells #[sT t.Z9,sT t.name,sT t.ZN,sl X t.Z3 x,sl Y t.ZW y] 73)).cell? (aN w 2)=some (sl B0 c.ob.Z7 l0):=(I.o.alloc _).cell 2;have k3:(wr.alloc (.cells #[sT t.Z9,sT t.name,sT t.ZN,sl X t.Z3 x,sl Y t.ZW y] 73)).cell? (aN w 3)=some (sl (some (aD gt 0)) c.ob.Z8 l1):=(I.o.alloc _).cell 3;clear htj;go_wp2_with (first | (with_reducible refine ZK rfl 73 _ rfl (aD gt (j*5)) rfl [sT t.Z9,sT t.name,sT t.ZN,sl X t.Z3 x,sl Y t.ZW y] _ av.o underlying73 rfl HL.o ?_) | fail);refine Zi _ fun W6 d=> ?_
   have aa:=bP d;have T6:=nC d;clear d k2 k3 av HL;have bc:=hid (ai.o.ZC aa.o);have bf:=hid (G.o.ZC aa.o);have bj:rA W6 Zn (c.ob.Z8.map Tb.da) (some (aD gt 0)):=by
    have s:=Ye (S:=(· < W6.heap.size)) (sh:=Zn) Tb.da (·.1) YX.k bf.o ag.symm (fun a ha=>KS (aB.o a ha) aa.o);rw [HD.o] at s;exact s.YW (fun k m=>by
     rcases m with m | m
     ·exact m
     ·obtain⟨_,_,hp⟩:=m.Rp (us:= [73]) (by simp);exact hp.lt) (fun _ _=>rfl)
   refine(TL c.ob B0 l0 (some (aD gt 0)) l1 t.Z9 t.name W6 (MU (us:=CG) bc.o).XJ bj HT.o.1).mono ?_
   rintro e W7 ⟨t',L,N,M,O,er,rfl,bn,hb,_,_,hf⟩;obtain rfl:er=0:=by rw [bn,aW.o]
   obtain⟨⟨i,hi,bp,bq⟩,ap⟩:=hf rfl;obtain rfl:=(aR.o i bp).symm;obtain rfl:t'=t:=by rw [bq,<-am.o]
   have aK:=hid ap;have Z:=bt aa hb;have T7:=bl T6 hb;have bG:=hid (G.o.ZC Z.o);have bX:=hid (ai.o.ZC Z.o);have P7:=bl I Z.o;have Q7:=bl HQ Z.o;have bN:gt<wr.heap.size:=(ZJ G.o).2.1;have aP:w.heap.size<=gt:=(ZJ G.o).1;have bZ:=I.o.lt;have b0:=HQ.o.lt;have b1:W6.heap.size<=W7.heap.size:=hb.size;have aM:=G;have aJ:=ai;have bD:=I;have bE:=HQ;clear hb bn hf bp bq ap aa T6 bc bf bj G ai I HQ;unfold Tb.cs;go_wp2_with (first | ((refine sO T7 aw ?_);intro wS V;have k3:wS.cell? (aN w 3)=some (sl (some (aD gt 0)) c.ob.Z8 l1):=(V.o.other P7.o (by omega)).cell 3;have N7:=hid V.o.YK;have bH:=hid (Y9 bG.o fun q hq=>V.o.WT q (by have e:=YB aM.o hq;omega))) | (refine lO N7 aw underlying73 ?_) | (refine UN rfl 73 _ _ rfl YX.k gt j (t',L,N,M,O) rfl rfl bH ag aQ aw (YX.one _) ?_;intro J HU bI) | fail);have ay:Hid (ZS [73] wr J):=hid (((ZS.ZA Z.o lr).trans V.o.keeps).trans HU.o.keeps);have b2:wS.heap.size=W7.heap.size:=V.o.size;have bV:J.heap.size=wS.heap.size:=HU.o.size;have aU:Hid (Bw w J):=hid ((V.o.below (E.o.trans (Z.o.mono E.o.size)) (by have:=E.o.size;omega)).trans (HU.o.Rw.mono aP))
   have PU:Hid (ZP J w.heap.size 33 [i6 c.ZO,i6 c.ZR,sl B0 c.ob.Z7 l0,sl (some (aD gt 0)) c.ob.Z8 l1,sl A.a2 c.ro.ZU A.k2,sl A.a3 c.ro.ZY A.k3,sl A.a4 c.Z4 A.k4]):=hid (bD.o.keeps ay.o (by decide));have QU:Hid (ZP J (w.heap.size+1) 33 [i6 0,i6 0,sN,sN,sN,sN,sN]):=hid (bE.o.keeps ay.o (by decide));have bF:=hid (aJ.o.keeps ay.o (by decide));have bu:Hid ((ts.set j (t',L,N,M,O)).map (·.1)=c.ob.Z8):=hid (by
    rw [List.map_set,HD.o,am.o,List.set_getElem_self])
   have bs:Hid (∀ i (h:i< (ts.set j (t',L,N,M,O)).length),(i<j+1->ZE J (Xs J Gj) Zn (ts.set j (t',L,N,M,O))[i].1.da (YX.cs (ts.set j (t',L,N,M,O))[i]))/\(j+1<=i->ZE J (· < w.heap.size) Zn (ts.set j (t',L,N,M,O))[i].1.da (YX.cs (ts.set j (t',L,N,M,O))[i]))):=hid fun i h=>by
    have bo:i<ts.length:=by rw [List.length_set] at h;exact h
    by_cases hij:i=j
    ·subst hij;refine⟨fun _=> ?_,fun h=>absurd h (by omega)⟩
     rw [List.getElem_set_self];have s:ZE J (Nw J W6.heap.size Gj) Zn t'.da (YX.cs (t',L,N,M,O)):=((aK.o.keeps V.o.keeps (by decide) (by decide) (by decide)).keeps HU.o.keeps (by decide) (by decide) (by decide)).VW;exact ZE.YW (fun k m=>m.Rp (fun _ h=>h)) (fun _ _=>rfl) _ _ _ s
    ·rw [List.getElem_set_ne (fun e=>hij e.symm)];refine⟨fun s=>((ah.o i bo).1 (by omega)).keeps ay.o (by decide),fun s=> ?_⟩
     exact ZE.YW (fun k m=>m) (fun p hp=>by
      have e1:=E.o.cell hp;have e2:=aU.o.cell hp;rw [e2,e1]) _ _ _ ((ah.o i bo).2 (by omega))
   go_roundw
   case rel=>exact⟨j+1,ts.set j (t',L,N,M,O),by omega,by go_num,bu,bI,bs,bF,aU,PU,QU⟩
   case measure=>simp [intOf];omega
  ·obtain rfl:j=c.ob.Z8.length:=by omega
   have aL:Hid (ZT wr (Xs wr CG) Zn (c.ob.Z8.map Tb.da) B1):=hid (by
    have s:=Ye (S:=Xs wr CG) (sh:=Zn) Tb.da (·.1) YX.k G.o ag.symm (fun a ha=>by
     obtain⟨i,hi,rfl⟩:=List.getElem_of_mem ha;exact ZE.YW (fun _ ⟨t,F,hp⟩=>⟨t,(by decide: ∀ t,t∈Gj->t∈CG) t F,hp⟩) (fun _ _=>rfl) _ _ _ ((ah.o i hi).1 (by omega)))
    rw [HD.o] at s;exact s.YW (fun k m=>by
     rcases m with m | m
     ·exact m
     ·exact m.Rp (by decide)) (fun _ _=>rfl))
   have aI:Hid (ZT wr (Xs wr CG) Ze (c.ob.Z7.map Sc.da) B0):=hid (MU ai.o);clear G ah ai HD hlt;go_wp2_with fail;have bk:wr.drew.cell? (aN w 4)=some (sl A.a2 c.ro.ZU A.k2)/\wr.drew.cell? (aN w 5)=some (sl A.a3 c.ro.ZY A.k3):=⟨I.o.cell 4,I.o.cell 5⟩
   refine Zp 10 (S:=fun w'=>w'.cell? (aN w 4)=some (sl A.a2 c.ro.ZU A.k2)/\w'.cell? (aN w 5)=some (sl A.a3 c.ro.ZY A.k3)) (by kernel_rfl) bk (fun D=> ?_)
   (try simp only [pp]);refine YU 0 43 D ?_;refine YU 1 44 D ?_;refine YU 2 45 D ?_;refine YU 4 47 D ?_;refine YU 5 48 D ?_;refine YU 6 49 D ?_;refine OH 3 46 fun K T=> ?_
   go_simp;refine(Xk A.a2 A.k2 c.ro.ZU wr.drew (XS (HC.o.later E.o.drew).nm) bT).mono ?_
   rintro e V1 ⟨B2,l2,rfl,C,hb⟩;have bB:=hid (C.Yp (show w.heap.size<=wr.drew.heap.size from E.o.size));have ad:Hid (Bw wr V1):=hid (br.drew.trans hb);have bg:=bl I ad.o;have aG:V1.cell? (aN w 4)=some (sl A.a2 c.ro.ZU A.k2)/\V1.cell? (aN w 5)=some (sl A.a3 c.ro.ZY A.k3):=⟨bg.o.cell 4,bg.o.cell 5⟩
   clear C hb;refine T.out _ _ aG ?_
   clear T K;(try simp only [pp])
   clear D;have D:=aG;refine OH 7 50 fun K T=> ?_
   go_simp;refine(Xc A.a3 A.k3 c.ro.ZY V1 (Mb.Yn (HC.o.later (E.o.trans (ad.o.mono E.o.size))).mb) bS).mono ?_
   rintro e V2 ⟨B3,l3,rfl,C,hb⟩;have ae:=bt ad hb;have aZ:=hid (C.Yp (Nat.le_trans E.o.size ad.o.size));have a6:=hid (bB.o.ZC hb);have U:=bl I ae.o;have ak:V2.cell? (aN w 4)=some (sl A.a2 c.ro.ZU A.k2)/\V2.cell? (aN w 5)=some (sl A.a3 c.ro.ZY A.k3):=⟨U.o.cell 4,U.o.cell 5⟩
   clear C hb;refine T.out _ _ ak ?_
   clear T K;(try simp only [pp])
   clear D;have D:=ak;refine TU 8 51 (fun _=>D) ?_;refine TU 9 52 (fun _=>D) ?_;refine Zu.WR (i:=10) (o:=⟨none,_,_,_,_,_⟩) (by kernel_rfl) (by kernel_rfl) rfl (fun K T=> ?_)
   have e4:V2.cell? (aN w 4)=some (sl A.a2 c.ro.ZU A.k2):=ak.1;have e5:V2.cell? (aN w 5)=some (sl A.a3 c.ro.ZY A.k3):=ak.2;have f4:=U.o.frozen 4;have f5:=U.o.frozen 5;go_simp;refine T.out _ _ (Zu.done (by kernel_rfl) ?_ _);clear T K D ak aG bk e4 e5 f4 f5;refine Qv _ fun V3 hV=> ?_
   have ax:Hid (ZS [33] V2 V3):=hid (by rw [hV];exact(ZS.Zx U.o.Xr (by simp) _).trans (ZS.Zx (U.o.Xr.setCell _ _) (by simp) _));have aO:Hid (ZP V3 w.heap.size 33 [i6 c.ZO,i6 c.ZR,sl B0 c.ob.Z7 l0,sl B1 c.ob.Z8 l1,sl B2 c.ro.ZU l2,sl B3 c.ro.ZY l3,sl A.a4 c.Z4 A.k4]):=hid (by rw [hV];exact(U.o.Zx 4 _).Zx 5 _);have bh:Hid (ZP V3 (w.heap.size+1) 33 [i6 0,i6 0,sN,sN,sN,sN,sN]):=hid (by rw [hV];exact((HQ.o.below ae.o HQ.o.lt).WT (by show _≠w.heap.size;omega) _).WT (by show _≠w.heap.size;omega) _)
   have ac:Hid (Bw w V3):=hid (by rw [hV];exact((E.o.trans (ae.o.mono E.o.size)).setCell lr _).setCell lr _);clear hV;have g6:=ce aO 6;go_wp2_with fail;refine(UT A.a4 A.k4 c.Z4 V3 (Gr.Yn (HC.o.later ac.o).gr) bM).mono ?_
   rintro e V4 ⟨B4,l4,rfl,C,hb⟩;have bv:=hid (C.Yp ac.o.size);have aC:=bt ac hb;have az:=bl aO hb;have bK:=bl bh hb;have bz:Hid (ZS [33] wr V4):=hid (((ZS.ZA ae.o lr).trans ax.o).trans (ZS.ZA hb lr));have bC:=hid ((a6.o.keeps ax.o (by decide)).ZC hb);have bA:=hid ((aZ.o.keeps ax.o (by decide)).ZC hb);clear C hb g6 aO bh a6 aZ ax ac;have g6:=ce az 6;have f6:=az.o.frozen 6;have bJ:Hid (ZP (V4.setCell (aN w 6) (sl B4 c.Z4 l4)) w.heap.size 33 [i6 c.ZO,i6 c.ZR,sl B0 c.ob.Z7 l0,sl B1 c.ob.Z8 l1,sl B2 c.ro.ZU l2,sl B3 c.ro.ZY l3,sl B4 c.Z4 l4]):=hid (az.o.Zx 6 _);have bL:Hid (ZP (V4.setCell (aN w 6) (sl B4 c.Z4 l4)) (w.heap.size+1) 33 [i6 0,i6 0,sN,sN,sN,sN,sN]):=hid (bK.o.WT (by show _≠w.heap.size;omega) _)
   have aE:Hid (Below w.heap.size w (V4.setCell (aN w 6) (sl B4 c.Z4 l4))):=hid (aC.o.setCell lr _);have an:Hid (ZS [33] V4 (V4.setCell (aN w 6) (sl B4 c.Z4 l4))):=hid (ZS.Zx az.o.Xr (by simp) _);go_wp2_with (first | (refine lO bJ aH underlying33 ?_) | ((refine sO bL aH ?_);intro wZ HZ) | fail);refine bodyPost_ret (rS (hid HZ.o.YK) underlying33 aH) rfl ?_
   have aA:=an.o.trans HZ.o.keeps;have bi:=bz.o.trans aA;exact⟨⟨B0,l0,B1,l1,B2,l2,B3,l3,B4,l4⟩,rfl,⟨ZI aI.o bi (by decide),ZI aL.o bi (by decide),ZI (UR (us:=CG) bC.o) aA (by decide),ZI (Qp (us:=CG) bA.o) aA (by decide)⟩,bv.o.keeps aA (by decide),HZ.o.below aE.o (by omega)⟩
def D3 (n:Nat)(w:World)(e:Ending)(w':World):Prop:= ∃ (i:Nat) (b:Bool),e= .returned (.tuple #[i6 i,.bool b])/\i<=n/\(b=true->i<n)/\Bw w w'
theorem WG {α:Type}{enc:α->lV}{k:Nat}(C: ∀ x,(enc x).length=k){w:World}{B:Nat}{d:Addr}{l:List α}(h: ∀ (i:Nat)(u:Value),(l.flatMap enc)[i]?=some u->w.cell? (d.add i)=some u){j:Nat}(s:j<l.length)(i:Nat)(m:i<k)(u:Value)(D:(enc l[j])[i]?=some u):w.cell? ((d.add (j*k)).add i)=some u:=by
 rw [ZG];exact h _ _ (by rw [Zl C l j i s m];exact D)
theorem I9 (l:List Gr)(A:oA)(c:Nat)(x:Gr)(w:World)(hA:Zj w w.heap.size A Gr.cs l)(hn:l.length<=1099511627776):
  cQ 184 #[.slice A l.length c,.agg (x.cs).toArray,.func (.func 90) #[] #[]] w (D3 l.length w):=by
 have HA:=hid hA;have ab:Hid (ZP (w.alloc (.cells #[sT x.Z9,sT x.ZZ,i6 x.right,sT x.ZM,sT x.to,.bool x.Zq] 53)) w.heap.size 53 [sT x.Z9,sT x.ZZ,i6 x.right,sT x.ZM,sT x.to,.bool x.Zq]):=hid (ZP.new w _ _);have Z:Hid (Below w.heap.size w (w.alloc (.cells #[sT x.Z9,sT x.ZZ,i6 x.right,sT x.ZM,sT x.to,.bool x.Zq] 53))):=hid (br.alloc lr _);clear hA;unfold Gr.cs;go_enter func184,ntmps184
 go_wp2_with fail;go_loopw [9,10] (fun a b wr=> ∃ m d:Nat,a=i6 m/\b=i6 d/\m<=d/\d<=l.length/\Hid (Bw w wr)/\Hid (ZP wr w.heap.size 53 [sT x.Z9,sT x.ZZ,i6 x.right,sT x.ZM,sT x.to,.bool x.Zq])) (fun a b _=>(intOf b).toNat - (intOf a).toNat)
 case atStart=>exact⟨0,l.length,rfl,rfl,Nat.zero_le _,Nat.le_refl _,Z,ab⟩
 case round=>
  clear Z ab;obtain⟨m,d,rfl,rfl,ah,U,L,E⟩:=hrel;by_cases hlt:m<d
  ·obtain⟨j,rfl,C,T⟩:=(HA.o.later L.o) (by omega);have aa:(m+d) / 2<l.length:=by omega
   have D:=fun i d u V=>WG (B:=wr.heap.size) Gr.k T aa i d u V
   generalize l[(m+d) / 2]=q at D;have c0:wr.cell? (j.add ((m+d) / 2*6))=some (sT q.Z9):=by have:=D 0 (by omega) _ rfl;rwa [ZG,Nat.add_zero] at this
   have c1:wr.cell? ⟨(j.add ((m+d) / 2*6)).block,(j.add ((m+d) / 2*6)).off+1,none⟩=some (sT q.ZZ):=by rw [<-Yr j ((m+d) / 2*6) 1 (by omega),<-ZG];exact D 1 (by omega) _ rfl
   have c2:wr.cell? ⟨(j.add ((m+d) / 2*6)).block,(j.add ((m+d) / 2*6)).off+2,none⟩=some (i6 q.right):=by rw [<-Yr j ((m+d) / 2*6) 2 (by omega),<-ZG];exact D 2 (by omega) _ rfl
   have c3:wr.cell? ⟨(j.add ((m+d) / 2*6)).block,(j.add ((m+d) / 2*6)).off+3,none⟩=some (sT q.ZM):=by rw [<-Yr j ((m+d) / 2*6) 3 (by omega),<-ZG];exact D 3 (by omega) _ rfl
   have c4:wr.cell? ⟨(j.add ((m+d) / 2*6)).block,(j.add ((m+d) / 2*6)).off+4,none⟩=some (sT q.to):=by rw [<-Yr j ((m+d) / 2*6) 4 (by omega),<-ZG];exact D 4 (by omega) _ rfl
   have M:wr.cell? ⟨(j.add ((m+d) / 2*6)).block,(j.add ((m+d) / 2*6)).off+5,none⟩=some (.bool q.Zq):=by rw [<-Yr j ((m+d) / 2*6) 5 (by omega),<-ZG];exact D 5 (by omega) _ rfl
   have C:j.block<wr.heap.size:=C;have C:(j.add ((m+d) / 2*6)).block<wr.heap.size:=by rw [ZL];exact C
   have F:Hid (∀ W,Bw wr W->Bw wr W/\W.cell? (j.add ((m+d) / 2*6))=some (sT q.Z9)/\W.cell? ⟨(j.add ((m+d) / 2*6)).block,(j.add ((m+d) / 2*6)).off+1,none⟩=some (sT q.ZZ)/\W.cell? ⟨(j.add ((m+d) / 2*6)).block,(j.add ((m+d) / 2*6)).off+2,none⟩=some (i6 q.right)/\W.cell? ⟨(j.add ((m+d) / 2*6)).block,(j.add ((m+d) / 2*6)).off+3,none⟩=some (sT q.ZM)/\W.cell? ⟨(j.add ((m+d) / 2*6)).block,(j.add ((m+d) / 2*6)).off+4,none⟩=some (sT q.to)/\W.cell? ⟨(j.add ((m+d) / 2*6)).block,(j.add ((m+d) / 2*6)).off+5,none⟩=some (.bool q.Zq)/\W.cell? (aN w 0)=some (sT x.Z9)/\W.cell? (aN w 1)=some (sT x.ZZ)/\W.cell? (aN w 2)=some (i6 x.right)/\W.cell? (aN w 3)=some (sT x.ZM)/\W.cell? (aN w 4)=some (sT x.to)/\W.cell? (aN w 5)=some (.bool x.Zq)):=hid fun W h=>⟨h,((h).cell C).trans c0,((h).cell (p:=⟨(j.add ((m+d) / 2*6)).block,(j.add ((m+d) / 2*6)).off+1,none⟩) C).trans c1,((h).cell (p:=⟨(j.add ((m+d) / 2*6)).block,(j.add ((m+d) / 2*6)).off+2,none⟩) C).trans c2,((h).cell (p:=⟨(j.add ((m+d) / 2*6)).block,(j.add ((m+d) / 2*6)).off+3,none⟩) C).trans c3,((h).cell (p:=⟨(j.add ((m+d) / 2*6)).block,(j.add ((m+d) / 2*6)).off+4,none⟩) C).trans c4,((h).cell (p:=⟨(j.add ((m+d) / 2*6)).block,(j.add ((m+d) / 2*6)).off+5,none⟩) C).trans M,cb E (h) 0,cb E (h) 1,cb E (h) 2,cb E (h) 3,cb E (h) 4,cb E (h) 5⟩
   have G:=fun W=>RY q x W
   simp only [Gr.cs] at G;have af:(0:Int)<=((m:Int)+ (d:Int)) / 2:=by omega
   have ae:((m:Int)+ (d:Int)) / 2< (l.length:Int):=by omega
   have ag:(((m:Int)+ (d:Int)) / 2).toNat=(m+d) / 2:=by omega
   clear D T c0 c1 c2 c3 c4 M;go_wp2_with fail;refine wp_region_held_drew (S:=fun w'=>Bw wr w'/\w'.cell? (j.add ((m+d) / 2*6))=some (sT q.Z9)/\w'.cell? ⟨(j.add ((m+d) / 2*6)).block,(j.add ((m+d) / 2*6)).off+1,none⟩=some (sT q.ZZ)/\w'.cell? ⟨(j.add ((m+d) / 2*6)).block,(j.add ((m+d) / 2*6)).off+2,none⟩=some (i6 q.right)/\w'.cell? ⟨(j.add ((m+d) / 2*6)).block,(j.add ((m+d) / 2*6)).off+3,none⟩=some (sT q.ZM)/\w'.cell? ⟨(j.add ((m+d) / 2*6)).block,(j.add ((m+d) / 2*6)).off+4,none⟩=some (sT q.to)/\w'.cell? ⟨(j.add ((m+d) / 2*6)).block,(j.add ((m+d) / 2*6)).off+5,none⟩=some (.bool q.Zq)/\w'.cell? (aN w 0)=some (sT x.Z9)/\w'.cell? (aN w 1)=some (sT x.ZZ)/\w'.cell? (aN w 2)=some (i6 x.right)/\w'.cell? (aN w 3)=some (sT x.ZM)/\w'.cell? (aN w 4)=some (sT x.to)/\w'.cell? (aN w 5)=some (.bool x.Zq)) (by kernel_rfl) (F.o _ br.drew) (fun s=> ?_)
   (try simp only [pp]);refine tk 0 24 s ?_;refine tk 1 25 s ?_;refine tk 2 26 s ?_;refine tk 3 27 s ?_;refine tk 4 28 s ?_;refine tk 5 29 s ?_;refine on 6 30 fun K N=> ?_
   go_simp;refine(G _).mono ?_
   rintro e w3 ⟨rfl,O⟩;have J:=s.1.trans (O.below.mono s.1.size);refine N.out _ _ (F.o _ J) (fun s=> ?_);clear O J;clear N K;(try simp only [pp])
   refine tk 7 31 s ?_;refine wpAnyH_done (by kernel_rfl) ?_ _
   have I:=bt L s.1;have ac:=bl E s.1;clear s F G;generalize RZ q x=r at*;by_cases hr0:r<0
   ·go_wp2;go_roundw
    case rel=>exact⟨(m+d) / 2+1,d,by rw [show ((m:Int)+ (d:Int)) / 2+1=(((m+d) / 2+1:Nat):Int) by omega],rfl,by omega,U,I,ac⟩
    case measure=>simp [intOf];omega
   ·go_wp2;go_roundw
    case rel=>exact⟨m,(m+d) / 2,rfl,by rw [show ((m:Int)+ (d:Int)) / 2=(((m+d) / 2:Nat):Int) by omega],by omega,by omega,I,ac⟩
    case measure=>simp [intOf];omega
  ·obtain rfl:d=m:=by omega
   by_cases hlo:d<l.length
   ·obtain⟨j,rfl,C,T⟩:=(HA.o.later L.o) (by omega);have D:=fun i h2 u V=>WG (B:=wr.heap.size) Gr.k T hlo i h2 u V
    generalize l[d]=q at D;have c0:wr.cell? (j.add (d*6))=some (sT q.Z9):=by have:=D 0 (by omega) _ rfl;rwa [ZG,Nat.add_zero] at this
    have c1:wr.cell? ⟨(j.add (d*6)).block,(j.add (d*6)).off+1,none⟩=some (sT q.ZZ):=by rw [<-Yr j (d*6) 1 (by omega),<-ZG];exact D 1 (by omega) _ rfl
    have c2:wr.cell? ⟨(j.add (d*6)).block,(j.add (d*6)).off+2,none⟩=some (i6 q.right):=by rw [<-Yr j (d*6) 2 (by omega),<-ZG];exact D 2 (by omega) _ rfl
    have c3:wr.cell? ⟨(j.add (d*6)).block,(j.add (d*6)).off+3,none⟩=some (sT q.ZM):=by rw [<-Yr j (d*6) 3 (by omega),<-ZG];exact D 3 (by omega) _ rfl
    have c4:wr.cell? ⟨(j.add (d*6)).block,(j.add (d*6)).off+4,none⟩=some (sT q.to):=by rw [<-Yr j (d*6) 4 (by omega),<-ZG];exact D 4 (by omega) _ rfl
    have M:wr.cell? ⟨(j.add (d*6)).block,(j.add (d*6)).off+5,none⟩=some (.bool q.Zq):=by rw [<-Yr j (d*6) 5 (by omega),<-ZG];exact D 5 (by omega) _ rfl
    have C:j.block<wr.heap.size:=C;have C:(j.add (d*6)).block<wr.heap.size:=by rw [ZL];exact C
    have F:Hid (∀ W,Bw wr W->Bw wr W/\W.cell? (j.add (d*6))=some (sT q.Z9)/\W.cell? ⟨(j.add (d*6)).block,(j.add (d*6)).off+1,none⟩=some (sT q.ZZ)/\W.cell? ⟨(j.add (d*6)).block,(j.add (d*6)).off+2,none⟩=some (i6 q.right)/\W.cell? ⟨(j.add (d*6)).block,(j.add (d*6)).off+3,none⟩=some (sT q.ZM)/\W.cell? ⟨(j.add (d*6)).block,(j.add (d*6)).off+4,none⟩=some (sT q.to)/\W.cell? ⟨(j.add (d*6)).block,(j.add (d*6)).off+5,none⟩=some (.bool q.Zq)/\W.cell? (aN w 0)=some (sT x.Z9)/\W.cell? (aN w 1)=some (sT x.ZZ)/\W.cell? (aN w 2)=some (i6 x.right)/\W.cell? (aN w 3)=some (sT x.ZM)/\W.cell? (aN w 4)=some (sT x.to)/\W.cell? (aN w 5)=some (.bool x.Zq)):=hid fun W h=>⟨h,((h).cell C).trans c0,((h).cell (p:=⟨(j.add (d*6)).block,(j.add (d*6)).off+1,none⟩) C).trans c1,((h).cell (p:=⟨(j.add (d*6)).block,(j.add (d*6)).off+2,none⟩) C).trans c2,((h).cell (p:=⟨(j.add (d*6)).block,(j.add (d*6)).off+3,none⟩) C).trans c3,((h).cell (p:=⟨(j.add (d*6)).block,(j.add (d*6)).off+4,none⟩) C).trans c4,((h).cell (p:=⟨(j.add (d*6)).block,(j.add (d*6)).off+5,none⟩) C).trans M,cb E (h) 0,cb E (h) 1,cb E (h) 2,cb E (h) 3,cb E (h) 4,cb E (h) 5⟩
    have G:=fun W=>RY q x W
    simp only [Gr.cs] at G;have af:(0:Int)<=(d:Int):=by omega
    have ae:(d:Int)< (l.length:Int):=by omega
    clear D T c0 c1 c2 c3 c4 M;go_wp2_with fail;refine wp_region_held_drew (S:=fun w'=>Bw wr w'/\w'.cell? (j.add (d*6))=some (sT q.Z9)/\w'.cell? ⟨(j.add (d*6)).block,(j.add (d*6)).off+1,none⟩=some (sT q.ZZ)/\w'.cell? ⟨(j.add (d*6)).block,(j.add (d*6)).off+2,none⟩=some (i6 q.right)/\w'.cell? ⟨(j.add (d*6)).block,(j.add (d*6)).off+3,none⟩=some (sT q.ZM)/\w'.cell? ⟨(j.add (d*6)).block,(j.add (d*6)).off+4,none⟩=some (sT q.to)/\w'.cell? ⟨(j.add (d*6)).block,(j.add (d*6)).off+5,none⟩=some (.bool q.Zq)/\w'.cell? (aN w 0)=some (sT x.Z9)/\w'.cell? (aN w 1)=some (sT x.ZZ)/\w'.cell? (aN w 2)=some (i6 x.right)/\w'.cell? (aN w 3)=some (sT x.ZM)/\w'.cell? (aN w 4)=some (sT x.to)/\w'.cell? (aN w 5)=some (.bool x.Zq)) (by kernel_rfl) (F.o _ br.drew) (fun s=> ?_)
    (try simp only [pp]);refine tk 0 35 s ?_;refine tk 1 36 s ?_;refine tk 2 37 s ?_;refine tk 3 38 s ?_;refine tb 4 39 (.bool true) s ?_;refine tk 5 40 s ?_;refine tk 6 41 s ?_;refine tk 7 42 s ?_;refine tk 8 43 s ?_;refine tk 9 44 s ?_;refine tk 10 45 s ?_;refine on 11 46 fun K N=> ?_
    go_simp;refine(G _).mono ?_
    rintro e w3 ⟨rfl,O⟩;have J:=s.1.trans (O.below.mono s.1.size);refine N.out _ _ (F.o _ J) (fun s=> ?_);clear O J;clear N K;(try simp only [pp])
    refine tk 12 47 s ?_;refine tk 13 48 s ?_;refine tk 14 6 s ?_;refine tk 15 7 s ?_;refine wpAnyH_done (by kernel_rfl) ?_ _
    have I:=bt L s.1;clear s F G;go_wp2;go_ret2;exact⟨d,_,rfl,U,fun _=>hlo,I.o⟩
   ·have ae: ¬ (d:Int)< (l.length:Int):=by omega
    go_wp2_with fail;refine wp_region_held_drew (S:=fun w'=>Bw wr w') (by kernel_rfl) (br.drew) (fun s=> ?_)
    (try simp only [pp]);refine tk 0 35 s ?_;refine tk 1 36 s ?_;refine tk 2 37 s ?_;refine tk 3 38 s ?_;refine tb 4 39 (.bool false) s ?_;refine sk 5 40 s ?_;refine sk 6 41 s ?_;refine sk 7 42 s ?_;refine sk 8 43 s ?_;refine sk 9 44 s ?_;refine sk 10 45 s ?_;refine sk 11 46 s ?_;refine sk 12 47 s ?_;refine tk 13 48 s ?_;refine tk 14 6 s ?_;refine tk 15 7 s ?_;refine wpAnyH_done (by kernel_rfl) ?_ _
    have I:=bt L s;clear s;go_wp2;go_ret2;exact⟨d,_,rfl,U,fun h=>absurd h (by simp),I.o⟩
theorem PW (l:List Mb)(A:oA)(c:Nat)(x:Mb)(w:World)(hA:Zj w w.heap.size A Mb.cs l)(hn:l.length<=1099511627776):
  cQ 190 #[.slice A l.length c,.agg (x.cs).toArray,.func (.func 153) #[] #[]] w (D3 l.length w):=by
 have HA:=hid hA;have Z:Hid (ZP (w.alloc (.cells #[sT x.ZQ,sT x.of] 147)) w.heap.size 147 [sT x.ZQ,sT x.of]):=hid (ZP.new w _ _);have V:Hid (Below w.heap.size w (w.alloc (.cells #[sT x.ZQ,sT x.of] 147))):=hid (br.alloc lr _);clear hA;unfold Mb.cs;go_enter func190,ntmps190
 go_wp2_with fail;go_loopw [9,10] (fun a b wr=> ∃ m d:Nat,a=i6 m/\b=i6 d/\m<=d/\d<=l.length/\Hid (Bw w wr)/\Hid (ZP wr w.heap.size 147 [sT x.ZQ,sT x.of])) (fun a b _=>(intOf b).toNat - (intOf a).toNat)
 case atStart=>exact⟨0,l.length,rfl,rfl,Nat.zero_le _,Nat.le_refl _,V,Z⟩
 case round=>
  clear V Z;obtain⟨m,d,rfl,rfl,ag,T,J,L⟩:=hrel;by_cases hlt:m<d
  ·obtain⟨s,rfl,C,O⟩:=(HA.o.later J.o) (by omega);have aa:(m+d) / 2<l.length:=by omega
   have D:=fun i d u U=>WG (B:=wr.heap.size) Mb.k O aa i d u U
   generalize l[(m+d) / 2]=q at D;have c0:wr.cell? (s.add ((m+d) / 2*2))=some (sT q.ZQ):=by have:=D 0 (by omega) _ rfl;rwa [ZG,Nat.add_zero] at this
   have c1:wr.cell? ⟨(s.add ((m+d) / 2*2)).block,(s.add ((m+d) / 2*2)).off+1,none⟩=some (sT q.of):=by rw [<-Yr s ((m+d) / 2*2) 1 (by omega),<-ZG];exact D 1 (by omega) _ rfl
   have C:s.block<wr.heap.size:=C;have C:(s.add ((m+d) / 2*2)).block<wr.heap.size:=by rw [ZL];exact C
   have E:Hid (∀ W,Bw wr W->Bw wr W/\W.cell? (s.add ((m+d) / 2*2))=some (sT q.ZQ)/\W.cell? ⟨(s.add ((m+d) / 2*2)).block,(s.add ((m+d) / 2*2)).off+1,none⟩=some (sT q.of)/\W.cell? (aN w 0)=some (sT x.ZQ)/\W.cell? (aN w 1)=some (sT x.of)):=hid fun W h=>⟨h,((h).cell C).trans c0,((h).cell (p:=⟨(s.add ((m+d) / 2*2)).block,(s.add ((m+d) / 2*2)).off+1,none⟩) C).trans c1,cb L (h) 0,cb L (h) 1⟩
   have F:=fun W=>RP q x W
   simp only [Mb.cs] at F;have ae:(0:Int)<=((m:Int)+ (d:Int)) / 2:=by omega
   have ac:((m:Int)+ (d:Int)) / 2< (l.length:Int):=by omega
   have af:(((m:Int)+ (d:Int)) / 2).toNat=(m+d) / 2:=by omega
   clear D O c0 c1;go_wp2_with fail;refine wp_region_held_drew (S:=fun w'=>Bw wr w'/\w'.cell? (s.add ((m+d) / 2*2))=some (sT q.ZQ)/\w'.cell? ⟨(s.add ((m+d) / 2*2)).block,(s.add ((m+d) / 2*2)).off+1,none⟩=some (sT q.of)/\w'.cell? (aN w 0)=some (sT x.ZQ)/\w'.cell? (aN w 1)=some (sT x.of)) (by kernel_rfl) (E.o _ br.drew) (fun j=> ?_)
   (try simp only [pp]);refine tk 0 24 j ?_;refine tk 1 25 j ?_;refine tk 2 26 j ?_;refine tk 3 27 j ?_;refine tk 4 28 j ?_;refine tk 5 29 j ?_;refine on 6 30 fun K M=> ?_
   go_simp;refine(F _).mono ?_
   rintro e w3 ⟨rfl,N⟩;have I:=j.1.trans (N.below.mono j.1.size);refine M.out _ _ (E.o _ I) (fun j=> ?_);clear N I;clear M K;(try simp only [pp])
   refine tk 7 31 j ?_;refine wpAnyH_done (by kernel_rfl) ?_ _
   have G:=bt J j.1;have ab:=bl L j.1;clear j E F;generalize XI q x=r at*;by_cases hr0:r<0
   ·go_wp2;go_roundw
    case rel=>exact⟨(m+d) / 2+1,d,by rw [show ((m:Int)+ (d:Int)) / 2+1=(((m+d) / 2+1:Nat):Int) by omega],rfl,by omega,T,G,ab⟩
    case measure=>simp [intOf];omega
   ·go_wp2;go_roundw
    case rel=>exact⟨m,(m+d) / 2,rfl,by rw [show ((m:Int)+ (d:Int)) / 2=(((m+d) / 2:Nat):Int) by omega],by omega,by omega,G,ab⟩
    case measure=>simp [intOf];omega
  ·obtain rfl:d=m:=by omega
   by_cases hlo:d<l.length
   ·obtain⟨s,rfl,C,O⟩:=(HA.o.later J.o) (by omega);have D:=fun i h2 u U=>WG (B:=wr.heap.size) Mb.k O hlo i h2 u U
    generalize l[d]=q at D;have c0:wr.cell? (s.add (d*2))=some (sT q.ZQ):=by have:=D 0 (by omega) _ rfl;rwa [ZG,Nat.add_zero] at this
    have c1:wr.cell? ⟨(s.add (d*2)).block,(s.add (d*2)).off+1,none⟩=some (sT q.of):=by rw [<-Yr s (d*2) 1 (by omega),<-ZG];exact D 1 (by omega) _ rfl
    have C:s.block<wr.heap.size:=C;have C:(s.add (d*2)).block<wr.heap.size:=by rw [ZL];exact C
    have E:Hid (∀ W,Bw wr W->Bw wr W/\W.cell? (s.add (d*2))=some (sT q.ZQ)/\W.cell? ⟨(s.add (d*2)).block,(s.add (d*2)).off+1,none⟩=some (sT q.of)/\W.cell? (aN w 0)=some (sT x.ZQ)/\W.cell? (aN w 1)=some (sT x.of)):=hid fun W h=>⟨h,((h).cell C).trans c0,((h).cell (p:=⟨(s.add (d*2)).block,(s.add (d*2)).off+1,none⟩) C).trans c1,cb L (h) 0,cb L (h) 1⟩
    have F:=fun W=>RP q x W
    simp only [Mb.cs] at F;have ae:(0:Int)<=(d:Int):=by omega
    have ac:(d:Int)< (l.length:Int):=by omega
    clear D O c0 c1;go_wp2_with fail;refine wp_region_held_drew (S:=fun w'=>Bw wr w'/\w'.cell? (s.add (d*2))=some (sT q.ZQ)/\w'.cell? ⟨(s.add (d*2)).block,(s.add (d*2)).off+1,none⟩=some (sT q.of)/\w'.cell? (aN w 0)=some (sT x.ZQ)/\w'.cell? (aN w 1)=some (sT x.of)) (by kernel_rfl) (E.o _ br.drew) (fun j=> ?_)
    (try simp only [pp]);refine tk 0 35 j ?_;refine tk 1 36 j ?_;refine tk 2 37 j ?_;refine tk 3 38 j ?_;refine tb 4 39 (.bool true) j ?_;refine tk 5 40 j ?_;refine tk 6 41 j ?_;refine tk 7 42 j ?_;refine tk 8 43 j ?_;refine tk 9 44 j ?_;refine tk 10 45 j ?_;refine on 11 46 fun K M=> ?_
    go_simp;refine(F _).mono ?_
    rintro e w3 ⟨rfl,N⟩;have I:=j.1.trans (N.below.mono j.1.size);refine M.out _ _ (E.o _ I) (fun j=> ?_);clear N I;clear M K;(try simp only [pp])
    refine tk 12 47 j ?_;refine tk 13 48 j ?_;refine tk 14 6 j ?_;refine tk 15 7 j ?_;refine wpAnyH_done (by kernel_rfl) ?_ _
    have G:=bt J j.1;clear j E F;go_wp2;go_ret2;exact⟨d,_,rfl,T,fun _=>hlo,G.o⟩
   ·have ac: ¬ (d:Int)< (l.length:Int):=by omega
    go_wp2_with fail;refine wp_region_held_drew (S:=fun w'=>Bw wr w') (by kernel_rfl) (br.drew) (fun j=> ?_)
    (try simp only [pp]);refine tk 0 35 j ?_;refine tk 1 36 j ?_;refine tk 2 37 j ?_;refine tk 3 38 j ?_;refine tb 4 39 (.bool false) j ?_;refine sk 5 40 j ?_;refine sk 6 41 j ?_;refine sk 7 42 j ?_;refine sk 8 43 j ?_;refine sk 9 44 j ?_;refine sk 10 45 j ?_;refine sk 11 46 j ?_;refine sk 12 47 j ?_;refine tk 13 48 j ?_;refine tk 14 6 j ?_;refine tk 15 7 j ?_;refine wpAnyH_done (by kernel_rfl) ?_ _
    have G:=bt J j;clear j;go_wp2;go_ret2;exact⟨d,_,rfl,T,fun h=>absurd h (by simp),G.o⟩
end Go.Proofs.YtnhmoibjlakhjaaGreat
