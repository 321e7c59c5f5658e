/- Lemmas, each under its own conditions. -/
import Derived.Test.YtnhmoibjlakhjaaGreatW24
import Derived.RangeFuncNested
import Derived.RangeFuncBound
import Derived.Shelf.RegionOpen
import Derived.OwnWalkIn
import Derived.LoopNIn
import Derived.LoopIn
set_option linter.all false
namespace Go.Proofs.YtnhmoibjlakhjaaGreat
open Go.Proofs.Tryz
open Lib (hid)
set_option maxRecDepth 100000
set_option maxHeartbeats 16000000
open Go.RowKit
attribute [local go_sem] Oper.semAt_some
def Se (s n:lU)(r:Ru):Bool:=r.ZV == 4 && r.Z9 == s && r.ZZ == n
def SJ (s n:lU)(t:Tb):List (Tb×Ru):=(t.ZW.filter (Se s n)).map fun r=>(t,r)
def VS (o:Ob)(s n:lU):List (Tb×Ru):=o.Z8.flatMap (SJ s n)
abbrev TR:=YX×YH
def TR.da (x:TR):Tb×Ru:=(x.1.1,x.2.1)
def TR.enc (x:TR):Array Value:= #[.agg (YX.cs x.1).toArray,.agg (YH.cs x.2).toArray]
def MG (n₀:Nat)(W W':World):Prop:=Below n₀ W W'/\W.heap.size<=W'.heap.size/\ ∀ k t cs,ZP W k t cs->ZP W' k t cs
theorem MG.refl (d:Nat)(W:World):MG d W W:=⟨Below.refl _ _,Nat.le_refl _,fun _ _ _ h=>h⟩
theorem MG.trans {d:Nat}{A B C:World}(h:MG d A B)(g:MG d B C):MG d A C:=⟨h.1.trans g.1,Nat.le_trans h.2.1 g.2.1,fun k t cs x=>g.2.2 k t cs (h.2.2 k t cs x)⟩
theorem MG.alloc {d:Nat}{W:World}(j:d<=W.heap.size)(o:Obj):MG d W (W.alloc o):=⟨br.alloc j _,by simp,fun _ _ _ h=>h.alloc _⟩
theorem Fl {d m:Nat}(C:d<=m)(W:World)(l:Nat)(o j:Obj)(u:m<=l)(D:W.heap[l]?=some o)(E:o.isCells=false)(G:o.isWalk=false):MG d W (W.putObj l j):=
 ⟨(Below.refl d W).grown (grownBy_putObj' W l j) (Nat.le_of_lt (Nat.lt_of_le_of_lt (Nat.le_trans C u) (Array.getElem?_eq_some_iff.1 D).1)) (fun k e=>by cases e;exact Nat.le_trans C u),by simp [World.putObj],fun k t cs h=>by
  have F:k≠l:=by
   rintro rfl;have s:W.heap[k]?=some (.cells cs.toArray t):=by simpa [ZP] using h
   rw [D] at s
   cases s
   cases E
  have:(W.putObj l j).heap[k]?=W.heap[k]?:=World.putObj_heap_other F;simpa [ZP,this] using h⟩
theorem I2 {o:Ob}{s n:lU}{j:Nat}(d:j<o.Z8.length):(o.Z8.drop j).flatMap (SJ s n)=SJ s n o.Z8[j] ++ (o.Z8.drop (j+1)).flatMap (SJ s n):=by
 rw [List.drop_eq_getElem_cons d,List.flatMap_cons]
theorem I0 {t:Tb}{s n:lU}{m:Nat}(d:m<t.ZW.length):((t.ZW.drop m).filter (Se s n)).map (fun r=>(t,r))=(if Se s n t.ZW[m] then [(t,t.ZW[m])] else []) ++ ((t.ZW.drop (m+1)).filter (Se s n)).map (fun r=>(t,r)):=by
 rw [List.drop_eq_getElem_cons d,List.filter_cons];split <;> simp
theorem LV (o:Ob)(s n:lU)(A0:oA)(k0:Nat)(A1:oA)(k1 C l g1 g2 g3 m0:Nat)(J Jx:List TR->World->Prop)(W:World)(hJ:AbidesFrom W.heap.size J)(ai:C<=W.heap.size)
  (ho:o.Zo 1099511627776) (hT:ZT W (· < C) Zn (o.Z8.map Tb.da) A1) (b1:ZP W g1 26 [.slice A0 o.Z7.length k0,.slice A1 o.Z8.length k1]) (b2:ZP W g2 9 [sT s]) (b3:ZP W g3 9 [sT n]) (h1:g1<C) (h2:g2<C) (h3:g3<C)
  (hY: ∀ pre x W1,J pre W1->pre.length< (VS o s n).length->YieldAt Fence.wide m0 prog l (TR.enc x) W1 fun e U=>(e= .returned (.bool true)/\J (pre ++ [x]) U/\MG C W1 U)∨(e= .returned (.bool false)/\Jx (pre ++ [x]) U))
  (h0:J [] W):
  CallsIn Fence.wide (m0+1) prog 246 #[.func (.yield l) #[] #[],pT g1,pT g2,pT g3] W fun e U=>(∃ v,e= .returned v)/\((∃ xs:List TR,xs.map TR.da=VS o s n/\J xs U)∨(∃ pre:List TR,(∃ rest,pre.map TR.da ++rest=VS o s n)/\Jx pre U)):=by
 refine callsIn_wide.2 ?_
 have az:=ho.2.1;have ag:=hid hJ;have HO:=hid ho;have HT:=hid hT;have ax:=hid b1;have ak:=hid b2;have am:=hid b3;have HY:=hid hY;have H0:=hid h0;have ao:=iN 73 5;have ap:=iN 40 8;have c1:W.cell? (aD g1 1)=some (.slice A1 o.Z8.length k1):=b1.cell 1;clear hJ ho hT b1 b2 b3 hY h0;go_enter func246,ntmps246
 go_wp2;go_loopw [12] (fun i wr=> ∃ (j:Nat) (pre:List TR),j<=o.Z8.length/\i=i6 j/\Hid (J pre wr)/\Hid (pre.map TR.da ++ (o.Z8.drop j).flatMap (SJ s n)=VS o s n)/\Hid (Below C W wr)) (fun i _=>o.Z8.length - (intOf i).toNat)
 case atStart=>exact⟨0,[],Nat.zero_le _,rfl,H0,hid (by rw [List.drop_zero];rfl),hid br⟩
 case round=>
  clear c1 H0;obtain⟨j,pre,hj,rfl,O,I,HB⟩:=hrel;by_cases hlt:j<o.Z8.length
  ·obtain⟨K,aw⟩: ∃ K,K=wr:=⟨_,rfl⟩
   subst aw;have au:C<=K.heap.size:=Nat.le_trans ai HB.o.size;have aj:=HO.o.2.2 o.Z8[j] (List.getElem_mem hlt);obtain⟨ad,vs,rfl,T,hr⟩:=(HT.o.below HB.o).at_ (j:=j) (by simpa using hlt);rw [List.getElem_map] at T;have E:=hid (by have h:=I.o;rw [I2 hlt] at h;exact h);generalize o.Z8[j]=t at*;obtain⟨X,x,Y,y,rfl,hX,hY⟩:=Tb.YY T;have ar:=hid hY;have ay:=aj.2.1;have N:Hid (∀ i u,(t.cs X x Y y)[i]?=some u->K.cell? ((ad.add (j*5)).add i)=some u):=hid fun i u hu=>by rw [ZG];exact hr i u hu
   clear T hr hX hY aj I;unfold Tb.cs at N;have HL:Hid ((prog.info? 73).map (·.size)=some ([sT t.Z9,sT t.name,sT t.ZN,.slice X t.Z3.length x,.slice Y t.ZW.length y]:lV).length):=ao;have M:Hid (J pre (K.alloc (.cells #[sT t.Z9,sT t.name,sT t.ZN,.slice X t.Z3.length x,.slice Y t.ZW.length y] 73))):=hid (ag.o pre _ _ none O.o (World.grownBy_alloc _ _ none) (fun r e=>by cases e));have G:Hid (Below C W (K.alloc (.cells #[sT t.Z9,sT t.name,sT t.ZN,.slice X t.Z3.length x,.slice Y t.ZW.length y] 73))):=hid (HB.o.alloc au _);have D:Hid (ZP (K.alloc (.cells #[sT t.Z9,sT t.name,sT t.ZN,.slice X t.Z3.length x,.slice Y t.ZW.length y] 73)) K.heap.size 73 [sT t.Z9,sT t.name,sT t.ZN,.slice X t.Z3.length x,.slice Y t.ZW.length y]):=hid (ZP.new _ _ _);have af:Hid (pre.map TR.da ++ (((t.ZW.drop 0).filter (Se s n)).map (fun r=>(t,r)) ++ (o.Z8.drop (j+1)).flatMap (SJ s n))=VS o s n):=hid E.o;go_wp2_with (first | (with_reducible refine ZK rfl 73 _ rfl (ad.add (j*5)) rfl [sT t.Z9,sT t.name,sT t.ZN,.slice X t.Z3.length x,.slice Y t.ZW.length y] _ N.o underlying73 rfl HL.o ?_) | fail);go_loopw [19] (fun i wr=> ∃ (m:Nat) (pre:List TR),m<=t.ZW.length/\i=i6 m/\Hid (J pre wr)/\Hid (pre.map TR.da ++ (((t.ZW.drop m).filter (Se s n)).map (fun r=>(t,r)) ++ (o.Z8.drop (j+1)).flatMap (SJ s n))=VS o s n)/\Hid (Below C W wr)/\Hid (ZP wr K.heap.size 73 [sT t.Z9,sT t.name,sT t.ZN,.slice X t.Z3.length x,.slice Y t.ZW.length y])) (fun i _=>t.ZW.length - (intOf i).toNat)
   case atStart=>exact⟨0,pre,Nat.zero_le _,rfl,M,af,G,D⟩
   case round=>
    clear M af G D E O HL N;obtain⟨m,pre,hm,rfl,O,I,Z,ah⟩:=hrel;by_cases hlt2:m<t.ZW.length
    ·have av:C<=wr.heap.size:=Nat.le_trans ai Z.o.size;obtain⟨aa,vs,rfl,T,hr⟩:=(ar.o.YW (w':=wr) (fun _ h=>h) (fun p hp=>by rw [Z.o.cell hp,HB.o.cell hp])).at_ (j:=m) (by simpa using hlt2);rw [List.getElem_map] at T;have E:=hid (by have h:=I.o;rw [I0 hlt2] at h;exact h);generalize t.ZW[m]=r at*;obtain⟨V,v,rfl,hV⟩:=Ru.YY T;have N:Hid (∀ i u,(r.cs V v)[i]?=some u->wr.cell? ((aa.add (m*8)).add i)=some u):=hid fun i u hu=>by rw [ZG];exact hr i u hu
     clear T hr hV I;unfold Ru.cs at N;have HL:Hid ((prog.info? 40).map (·.size)=some ([sT r.name,i6 r.ZV,.slice V r.Z3.length v,i6 r.low,i6 r.ZB,sT r.Z9,sT r.ZZ,sT r.key]:lV).length):=ap;go_upto_region 6 with (first | (with_reducible refine ZK rfl 40 _ rfl (aa.add (m*8)) rfl [sT r.name,i6 r.ZV,.slice V r.Z3.length v,i6 r.low,i6 r.ZB,sT r.Z9,sT r.ZZ,sT r.key] _ N.o underlying40 rfl HL.o ?_) | fail)
     refine Wh _ fun Wr hW=> ?_
     have M:Hid (J pre Wr):=hid (by rw [hW];exact ag.o pre _ _ none O.o (World.grownBy_alloc _ _ none) (fun r e=>by cases e));have G:Hid (Below C W Wr):=hid (by rw [hW];exact Z.o.alloc av _);have D:=rB hW (ah.o.alloc _);have L:=nC hW;clear hW O Z ah N HL;have d1:=cd (ak.o.below G.o h2) 0;have d2:=cd (am.o.below G.o h3) 0;have aJ:=ce D 0;have aK:=ce D 1;have aL:=ce D 2;have aM:=ce D 3;have aO:=ce D 4;have aA:=ce L 0;have aB:=ce L 1;have aC:=ce L 2;have aE:=ce L 3;have aF:=ce L 4;have aG:=ce L 5;have aH:=ce L 6;have aI:=ce L 7;have d:Hid (Se s n r=(r.ZV == 4 && r.Z9 == s && r.ZZ == n)):=hid rfl
     cases e1:r.ZV == 4
     ·rw [e1] at d;have F:Hid (pre.map TR.da ++ (((t.ZW.drop (m+1)).filter (Se s n)).map (fun r=>(t,r)) ++ (o.Z8.drop (j+1)).flatMap (SJ s n))=VS o s n):=hid (by have h:=E.o;rw [d.o] at h;exact h);clear d E;go_wp2;go_roundw
      case rel=>exact⟨m+1,pre,by omega,by go_num,M,F,G,D⟩
      case measure=>simp [intOf];omega
     rw [e1] at d
     cases e2:r.Z9 == s
     ·rw [e2] at d;have F:Hid (pre.map TR.da ++ (((t.ZW.drop (m+1)).filter (Se s n)).map (fun r=>(t,r)) ++ (o.Z8.drop (j+1)).flatMap (SJ s n))=VS o s n):=hid (by have h:=E.o;rw [d.o] at h;exact h);clear d E;go_wp2;go_roundw
      case rel=>exact⟨m+1,pre,by omega,by go_num,M,F,G,D⟩
      case measure=>simp [intOf];omega
     rw [e2] at d
     cases e3:r.ZZ == n
     ·rw [e3] at d;have F:Hid (pre.map TR.da ++ (((t.ZW.drop (m+1)).filter (Se s n)).map (fun r=>(t,r)) ++ (o.Z8.drop (j+1)).flatMap (SJ s n))=VS o s n):=hid (by have h:=E.o;rw [d.o] at h;exact h);clear d E;go_wp2;go_roundw
      case rel=>exact⟨m+1,pre,by omega,by go_num,M,F,G,D⟩
      case measure=>simp [intOf];omega
     rw [e3] at d;have F:Hid (pre.map TR.da ++ ((t,r) ::(((t.ZW.drop (m+1)).filter (Se s n)).map (fun r=>(t,r)) ++ (o.Z8.drop (j+1)).flatMap (SJ s n)))=VS o s n):=hid (by have h:=E.o;rw [d.o] at h;exact h);have ae:pre.length< (VS o s n).length:=by
      have h:=congrArg List.length F.o;simp at h;omega
     clear d E;obtain⟨fn,tmps,assign,body,hy,hR⟩:=HY.o pre (((t,X,x,some aa,y),(r,V,v)):TR) Wr M.o ae;have HR:=hid hR;clear hR;dsimp only [TR.enc,YX.cs,YH.cs,Tb.cs,Ru.cs] at hy;refine wpIn_wide (n:=m0+1) |>.1 ?_
     gi_wp2
     refine HR.o.mono ?_
     rintro e W3 (⟨rfl,hJ3,hk3⟩ | ⟨rfl,hJx3⟩)
     ·have aq:=hid hJ3;have ab:Hid (Below C W W3):=hid (G.o.trans hk3.1);have T3:=hid (hk3.2.2 _ _ _ D.o);have an:Hid ((pre ++ [(((t,X,x,some aa,y),(r,V,v)):TR)]).map TR.da ++ (((t.ZW.drop (m+1)).filter (Se s n)).map (fun r=>(t,r)) ++ (o.Z8.drop (j+1)).flatMap (SJ s n))=VS o s n):=hid (by rw [List.map_append,List.append_assoc];exact F.o);clear hJ3 hk3 F;gi_wp2
      go_wp2;go_roundw
      case rel=>exact⟨m+1,_,by omega,by go_num,aq,an,ab,T3⟩
      case measure=>simp [intOf];omega
     ·gi_wp2
      go_wp2;refine bodyPost_ret (results_none rfl _ _ _) rfl ?_
      exact⟨⟨_,rfl⟩,.inr ⟨pre ++ [_],⟨_,by rw [List.map_append,List.append_assoc];exact F.o⟩,hJx3⟩⟩
    ·obtain rfl:m=t.ZW.length:=by omega
     have ac:Hid (pre.map TR.da ++ (o.Z8.drop (j+1)).flatMap (SJ s n)=VS o s n):=hid (by have h:=I.o;rw [List.drop_length] at h;exact h);clear I;go_wp2;go_roundw
     case rel=>exact⟨j+1,pre,by omega,by go_num,O,ac,Z⟩
     case measure=>simp [intOf];omega
  ·obtain rfl:j=o.Z8.length:=by omega
   have ac:Hid (pre.map TR.da=VS o s n):=hid (by have h:=I.o;rw [List.drop_length] at h;simpa using h);clear I;go_wp2;go_end0;exact⟨⟨_,rfl⟩,.inl ⟨pre,ac.o,O.o⟩⟩
end Go.Proofs.YtnhmoibjlakhjaaGreat
namespace Go.Proofs.YtnhmoibjlakhjaaGreat
open Go.Proofs.Tryz
open Lib (hid)
set_option maxRecDepth 100000
set_option maxHeartbeats 16000000
open Go.RowKit
attribute [local go_sem] Oper.semAt_some
theorem QS (o:Ob)(d:oA)(k0:Nat)(j:oA)(k1:Nat)(s n:lU)(w:World):
  cQ 174 #[.agg #[.slice d o.Z7.length k0,.slice j o.Z8.length k1],sT s,sT n] w fun e w'=>e= .returned (.func (.func 246) #[] #[pT w.heap.size,pT (w.heap.size+1),pT (w.heap.size+1+1)])/\
   ZP w' w.heap.size 26 [.slice d o.Z7.length k0,.slice j o.Z8.length k1]/\ZP w' (w.heap.size+1) 9 [sT s]/\ZP w' (w.heap.size+1+1) 9 [sT n]/\Bw w w'/\w'.heap.size=w.heap.size+3:=by
 have m:(w.alloc (.cells #[sl d o.Z7 k0,sl j o.Z8 k1] 26)).heap.size=w.heap.size+1:=by simp
 have u:((w.alloc (.cells #[sl d o.Z7 k0,sl j o.Z8 k1] 26)).alloc (.cells #[sT s] 9)).heap.size=w.heap.size+1+1:=by simp
 have q0:ZP (((w.alloc (.cells #[sl d o.Z7 k0,sl j o.Z8 k1] 26)).alloc (.cells #[sT s] 9)).alloc (.cells #[sT n] 9)) w.heap.size 26 [sl d o.Z7 k0,sl j o.Z8 k1]:=((ZP.new w _ _).alloc _).alloc _;have q1:ZP (((w.alloc (.cells #[sl d o.Z7 k0,sl j o.Z8 k1] 26)).alloc (.cells #[sT s] 9)).alloc (.cells #[sT n] 9)) (w.heap.size+1) 9 [sT s]:=by
  have h:=(ZP.new (w.alloc (.cells #[sl d o.Z7 k0,sl j o.Z8 k1] 26)) 9 [sT s]).alloc (.cells #[sT n] 9);rwa [m] at h
 have q2:ZP (((w.alloc (.cells #[sl d o.Z7 k0,sl j o.Z8 k1] 26)).alloc (.cells #[sT s] 9)).alloc (.cells #[sT n] 9)) (w.heap.size+1+1) 9 [sT n]:=by
  have h:=ZP.new ((w.alloc (.cells #[sl d o.Z7 k0,sl j o.Z8 k1] 26)).alloc (.cells #[sT s] 9)) 9 [sT n];rwa [u] at h
 have C:Below w.heap.size w (((w.alloc (.cells #[sl d o.Z7 k0,sl j o.Z8 k1] 26)).alloc (.cells #[sT s] 9)).alloc (.cells #[sT n] 9)):=((br.alloc lr _).alloc (by simp) _).alloc (by simp;omega) _;have D:(((w.alloc (.cells #[sl d o.Z7 k0,sl j o.Z8 k1] 26)).alloc (.cells #[sT s] 9)).alloc (.cells #[sT n] 9)).heap.size=w.heap.size+3:=by simp
 go_enter func174,ntmps174
 go_wp2;go_ret;exact⟨rfl,q0,q1,q2,C,D⟩
theorem SY (K:Nat)(o:Ob)(s n:lU)(E:oA)(k0:Nat)(C:oA)(k1 d j m u:Nat)(w:World)(D:d<=w.heap.size)
  (ho:o.Zo 1099511627776) (V:ZT w (· < d) Zn (o.Z8.map Tb.da) C) (F:ZP w j 26 [.slice E o.Z7.length k0,.slice C o.Z8.length k1]) (G:ZP w m 9 [sT s]) (I:ZP w u 9 [sT n]) (N:j<d) (O:m<d) (T:u<d):
  SeqStopsK Fence.wide (K+1) prog 246 #[pT j,pT m,pT u] TR.enc (MG d) (fun xs=>xs.map TR.da=VS o s n) (fun pre=> ∃ rest,pre.map TR.da ++rest=VS o s n) (VS o s n).length w:=fun l J L W h U aa Z M=>
 LV o s n E k0 C k1 d l j m u K J L W U (Nat.le_trans D h.size) ho (V.below (h.mono D)) (F.below h F.lt) (G.below h G.lt) (I.below h I.lt) N O T Z M
theorem Xe {X Y:World}{k:Nat}{t:TypeId}{cs:lV}{row:Option Nat}(h:ZP X k t cs)(m:X.grownBy Y row)(u: ∀ r,row=some r-> ∃ o:Obj,X.heap[r]?=some o/\o.isCells=false):ZP Y k t cs:=
 h.grown m (fun e=>by
  obtain⟨o,s,j⟩:=u k e.symm;have d:X.heap[k]?=some (.cells cs.toArray t):=by simpa [ZP] using h
  rw [s] at d
  cases d
  cases j)
theorem RS {W:World}{D:Nat}{o s:Obj}(h:W.heap[D]?=some o)(j:o.isCells=false):ZS [] W (W.putObj D s):=
 ⟨by simp [World.putObj],fun k t m _=>World.putObj_heap_other (by
  rintro rfl;obtain⟨cs,u,d⟩:=m;rw [h] at d
  cases d
  cases j)⟩
theorem SF {α β:Type}(f:α->β): ∀ (l:List α)(i:Nat),(l.eraseIdx i).map f=(l.map f).eraseIdx i
 | [],_=>rfl
 | _ ::_,0=>rfl
 | a ::l,i+1=>by rw [List.eraseIdx_cons_succ,List.map_cons,List.map_cons,List.eraseIdx_cons_succ,SF f l i]
theorem Kh {us:List TypeId}{w w':World}{base:Nat}{o:Ob}{u:oA}{k0:Nat}{B1:oA}{l1:Nat}{ts:List YX}{b:Nat->Nat}{i m:Nat}(s:VM w base o u k0 B1 l1 ts b)(d:ZS us w w')(C:119∉us)(D:40∉us)(E:9∉us)
  (J:w'.ownsRow base 73 5 (.slice B1 m l1) m ((ts.eraseIdx i).flatMap YX.cs)) (I:m=(ts.eraseIdx i).length):ZT w' (Xs w' OT) Zn ((o.Z8.eraseIdx i).map Tb.da) B1:=by
 have h:=Ye (S:=Xs w' OT) (sh:=Zn) Tb.da (·.1) YX.k J I (fun a F=>by
  obtain⟨j,G,rfl⟩:=List.getElem_of_mem (List.mem_of_mem_eraseIdx F);exact ZE.YW (fun k d=>d.Rp (by simp [OT])) (fun _ _=>rfl) _ _ _ ((s.tab j G).2.keeps d C D E).VW)
 rw [SF,s.data] at h;exact h.YW (fun k d=>by
  rcases d with d | d
  ·exact d
  ·exact d.Rp (by simp [OT])) (fun _ _=>rfl)
def Vw (o:Ob)(s n:lU)(er:Int)(o':Ob):Prop:=(er≠0/\o'=o)∨(er=0/\ ∃ i,XA o s n=some i/\(∀ x∈VS o s n,x.1.Z9=s/\x.1.name=n)/\o'=⟨o.Z7,o.Z8.eraseIdx i⟩)
theorem Mh (o:Ob)(s n:lU)(c1 c2:Nat)(w0:World)(ho:o.Zo 1099511627776)(j:ZP w0 c1 9 [sT s])(J:ZP w0 c2 9 [sT n]):On none 173 #[pT c1,pT c2] o w0 (Vw o s n):=by
 intro w base p B0 l0 B1 l1 ts b aL aj aA aM m bi bc;have ai:=Qs aA aM;have bz:=aj.size;have aB:=m.lt;have G:=hid aA;have HP:=hid m;have HO:=hid ho;have bu:=ho.1;have bj:=ho.2.1;have a0:w.cell? (aD p 0)=some (sl B0 o.Z7 l0):=m.cell 0;have a1:w.cell? (aD p 1)=some (sl B1 o.Z8 l1):=m.cell 1;have H1:=hid (j.below aj j.lt);have H2:=hid (J.below aj J.lt);have a2:=ce H1 0;have a3:=ce H2 0;have aq:Hid (∀ er W,er≠0->Bw w W->TT none w base p (Vw o s n) (.returned (i6 er)) W):=hid fun er W h J=>Sn G.o ai HP.o J (Or.inl ⟨h,rfl⟩)
 have ar:Hid (∀ i,XA o s n=some i->(∀ x∈VS o s n,x.1.Z9=s/\x.1.name=n)->Vw o s n 0 ⟨o.Z7,o.Z8.eraseIdx i⟩):=hid fun i j J=>Or.inr ⟨rfl,i,j,J,rfl⟩
 have a6:Hid (∀ W,Bw w W->cQ 57 #[.agg #[sl B0 o.Z7 l0,sl B1 o.Z8 l1],sT s,sT n] W fun e w'=>e= .returned (.tuple #[.int .i64 (WS (XA o s n)),.bool (XA o s n).isSome])/\Bw W w'):=hid (by
  intro W hW;have cW:=Us (o.Z7.map Sc.da) (o.Z8.map Tb.da) B0 l0 B1 l1 s n W (G.o.r.tb.later hW) (by simpa using bj);rwa [List.length_map,List.length_map,Ut,Ts] at cW)
 have ad:=H1.o.lt;have ae:=H2.o.lt;clear aA aM m bc aj j J ho;refine callsIn_wide (n:=6) |>.1 ?_
 refine callsIn_of_wp_marks func173 rfl trivial ?_ rfl
 simp only [ntmps173,List.size_toArray,List.length_cons,List.length_nil,Nat.reduceAdd,Nat.reduceSub,Array.replicate_succ,Array.replicate_zero,List.push_toArray,List.append_toArray,List.nil_append,List.cons_append];refine wpIn_wide.2 ?_
 go_upto_region 1 with fail
 refine Wh _ fun I hW=> ?_
 have E:=bP hW;have Q1:=nC hW;clear hW;have b0:I.cell? (aD p 0)=some (sl B0 o.Z7 l0):=ct a0 E.o aB;have b1:I.cell? (aD p 1)=some (sl B1 o.Z8 l1):=ct a1 E.o aB;have b2:I.cell? (aD c1 0)=some (sT s):=ct a2 E.o ad;have b3:I.cell? (aD c2 0)=some (sT n):=ct a3 E.o ae;have aa:Hid (∀ T w2,(fun w'=>Bw I w'/\w'.cell? (aD p 0)=some (sl B0 o.Z7 l0)/\w'.cell? (aD p 1)=some (sl B1 o.Z8 l1)/\w'.cell? (aD c1 0)=some (sT s)/\w'.cell? (aD c2 0)=some (sT n)) T->Bw T w2->(fun w'=>Bw I w'/\w'.cell? (aD p 0)=some (sl B0 o.Z7 l0)/\w'.cell? (aD p 1)=some (sl B1 o.Z8 l1)/\w'.cell? (aD c1 0)=some (sT s)/\w'.cell? (aD c2 0)=some (sT n)) w2):=hid (by
  intro T w2 ⟨j,g0,g1,g2,g3⟩ h6;exact⟨j.trans (h6.mono j.size),(h6.cell (World.block_lt_of_cell? T _ g0)).trans g0,(h6.cell (World.block_lt_of_cell? T _ g1)).trans g1,(h6.cell (World.block_lt_of_cell? T _ g2)).trans g2,(h6.cell (World.block_lt_of_cell? T _ g3)).trans g3⟩)
 have aw:Bw I I.drew:=br.drew;have ak:=E.o.size;refine wp_region_noPanic ?_
 go_region_held_law (fun w'=>Bw I w'/\w'.cell? (aD p 0)=some (sl B0 o.Z7 l0)/\w'.cell? (aD p 1)=some (sl B1 o.Z8 l1)/\w'.cell? (aD c1 0)=some (sT s)/\w'.cell? (aD c2 0)=some (sT n))
  (first | exact aa.o _ _ (by assumption) (by assumption) | exact⟨aw,b0,b1,b2,b3⟩)
  (first | (go_at_call 57;refine(a6.o _ (by first | exact E.o.trans (aw.mono ak) | exact E.o.trans ((show _ from by assumption:_/\_).1.mono ak) | exact E.o.trans (Below.mono (by assumption) ak))).mono ?_;rintro e w' ⟨rfl,hb⟩))
 rename_i hS;obtain⟨ax,d0,d1,d2,d3⟩:=hS;have aE:=hid (E.o.trans (ax.mono ak));have Q2:=bl Q1 ax;clear ax aa b0 b1 b2 b3 aw Q1;have q0:=ce Q2 0;have qf:=Q2.o.frozen 0
 cases hta:XA o s n with
 | none=>
  rw [show WS (none:Option Nat)= -1 from rfl,Option.isSome_none];unfold NoPanic;dsimp only;have HF:Hid (∀ W,W=w'.setCell (aN w 0) (i6 61)->TT none w base p (Vw o s n) (.returned (i6 61)) W):=hid (fun W h=>aq.o 61 W (by decide) (by rw [h];exact aE.o.setCell (Nat.le_refl _) _));have qr:(w'.setCell (aN w 0) (i6 61)).cell? (aN w 0)=some (i6 61):=(Q2.o.Zx 0 _).cell 0;go_wp2;refine⟨i6 61,?_,HF.o _ rfl⟩
  simp [results,Tryz.f173,go_sem,qr]
 | some i=>
  have aT:=hid hta;obtain⟨hi,_⟩:=Wt (show o.Z8.findIdx? (fun x=>x.Z9 == s && x.name == n)=some i from hta);clear hta;obtain⟨gt,rfl⟩: ∃ gt,B1=some (aD gt 0):=by
   obtain⟨gt,cap,hv,_,_⟩:=G.o.Z8.form (by omega);exact⟨gt,by injection hv⟩
  rw [show WS (some i)=(i:Int) from rfl,Option.isSome_some];unfold NoPanic;dsimp only;go_wp2_with fail;refine wp_region_noPanic ?_
  refine wp_region_held_drew (S:=fun w'=>w'.cell? (aD p 0)=some (sl B0 o.Z7 l0)/\w'.cell? (aD p 1)=some (sl (some (aD gt 0)) o.Z8 l1)/\w'.cell? (aD c1 0)=some (sT s)/\w'.cell? (aD c2 0)=some (sT n)) (by kernel_rfl) (⟨d0,d1,d2,d3⟩) (fun O=> ?_)
  (try simp only [pp]);refine tk 0 19 O ?_;refine tk 1 20 O ?_;refine tk 2 21 O ?_;refine tk 3 22 O ?_;refine tk 4 23 O ?_;refine on 5 24 fun K u=> ?_
  go_simp;refine(QS o B0 l0 (some (aD gt 0)) l1 s n _).mono ?_
  rintro e L ⟨rfl,g1,g2,g3,aJ,aS⟩;have ab:Bw w' L:=(Below.refl w'.heap.size w').drew.trans aJ;have M:=bt aE ab;have N:=bl Q2 ab;have G1:=hid g1;have G2:=hid g2;have G3:=hid g3;have aC:L.heap.size=w'.heap.size+3:=by rw [aS];rfl
  have P3:=hid (HP.o.below M.o aB);have am:=hid (H1.o.below M.o ad);have an:=hid (H2.o.below M.o ae);clear g1 g2 g3 aJ ab aS;refine u.out _ _ ⟨P3.o.cell 0,P3.o.cell 1,am.o.cell 0,an.o.cell 0⟩ (fun O=> ?_);clear u K;(try simp only [pp])
  refine wpAnyH_done (by kernel_rfl) ?_ _
  clear O d0 d1 d2 d3;unfold NoPanic;dsimp only;go_wp2_with fail;generalize hzd:w'.drew.heap.size=z at*;have bn:z=w'.heap.size:=by rw [<-hzd];rfl
  have bb:rA L Zn (o.Z8.map Tb.da) (some (aD gt 0)):=G.o.r.tb.later M.o;have bk:w.heap.size<L.heap.size:=N.o.lt;have bA:z+1+1<L.heap.size:=by omega
  clear hzd bn aC;refine wpIn_wide.1 (wpIn_rangeFunc_ownH (F:=Fence.wide) (n:=6) rfl (by omega) (gf:=246) (lb:= #[pT z,pT (z+1),pT (z+1+1)]) rfl trivial (enters_of func246 (by kernel_rfl) rfl)
   (SY 4 o s n B0 l0 (some (aD gt 0)) l1 L.heap.size z (z+1) (z+1+1) L (Nat.le_refl _) HO.o bb G1.o G2.o G3.o (by omega) (by omega) (by omega)) (fun h k=>MG.trans h k) (Fl (Nat.le_refl _)) br (fun _=>rfl)
   (fun pre W=>(∀ x∈pre,x.1.1.Z9=s/\x.1.1.name=n)/\Bw L W)
   (fun c _ W=>(c= .ret/\Boxed W w.heap.size 45 (i6 62))/\Bw w W)
   (OwnFrom.and (ownFrom_pure _ _) (ownFrom_below (Nat.le_refl _) (Nat.le_refl _)))
   (fun c=>OwnFrom.and (OwnFrom.and (ownFrom_pure _ _) (Own.from (boxed_own _ _ _) _)) (ownFrom_below (Nat.le_refl _) (Nat.le_of_lt bk)))
   ⟨by simp,Below.refl _ _⟩
   (fun x a' W=> ∃ Bx,L.heap.size<=Bx/\ZP W Bx 73 (YX.cs x.1)/\a'= { tmps:= #[pT p,pT c1,pT c2,undef,pT w.heap.size,i6 (i:Int),.bool true,pT Bx,.tuple #[i6 (i:Int),.bool true],pT p,pT p,.agg #[sl B0 o.Z7 l0,sl (some (aD gt 0)) o.Z8 l1],sT s,sT n,.tuple #[i6 (i:Int),.bool true],i6 (i:Int),.bool true,.bool true,.bool false,pT p,pT p,.agg #[sl B0 o.Z7 l0,sl (some (aD gt 0)) o.Z8 l1],sT s,sT n,.func (.func 246) #[] #[pT z,pT (z+1),pT (z+1+1)],.agg (YX.cs x.1).toArray,.agg (YH.cs x.2).toArray,undef,undef,undef,undef,undef,undef,undef,undef,undef,undef,undef,undef,undef,undef,undef,undef,undef,undef,undef,undef,undef],defers:= []})
   (fun x a' _ X Y row hs hg hr=>by obtain⟨Bx,Z,e2,e3⟩:=hs;exact⟨Bx,Z,Xe e2 hg (fun r e=>(hr r e).2),e3⟩)
   ?assign ?body ?done ?stop)
  case assign=>
   rintro l pre x W K ⟨m,d⟩ u;obtain⟨⟨t,X,x',Y,y⟩,r,V,v⟩:=x;dsimp only [TR.enc,YX.cs,YH.cs,Tb.cs,Ru.cs];gi_wp2
   exact u _ _ ((KeepsOthers.alloc _ _).from _) (MG.alloc d.size _) ⟨m,d.alloc d.size _⟩ ⟨W.heap.size,d.size,ZP.new W _ _,rfl⟩
  case body=>
   rintro l pre x a' W hl ⟨lr,bp⟩ ⟨m,d⟩ ⟨Bx,bo,bX,rfl⟩ bq;obtain⟨⟨t,X,x',Y,y⟩,r,V,v⟩:=x;have x0:W.cell? (aD Bx 0)=some (sT t.Z9):=bX.cell 0;have x1:W.cell? (aD Bx 1)=some (sT t.name):=bX.cell 1;have d1:=cd (am.o.below d am.o.lt) 0;have d2:=cd (an.o.below d an.o.lt) 0;have q0:=cd (N.o.below d N.o.lt) 0;have qf:W.frozen? (aN w 0)=false:=(N.o.below d N.o.lt).frozen 0;have be:t.Z9=s/\t.name=n->(∀ z∈pre ++ [(((t,X,x',Y,y),(r,V,v)):TR)],z.1.1.Z9=s/\z.1.1.name=n):=by
    intro h z hz;rcases List.mem_append.1 hz with j | j
    ·exact m z j
    ·rw [List.mem_singleton.1 j];exact h
   have U:Bw w W:=M.o.trans (d.mono M.o.size);have ah:Boxed (W.setCell (aN w 0) (i6 62)) w.heap.size 45 (i6 62):=by
    have h:=(N.o.below d N.o.lt).Zx 0 (i6 62);simpa [ZP,Boxed] using h
   dsimp only [TR.enc,YX.cs,YH.cs,Tb.cs,Ru.cs]
   cases Z:t.Z9 == s
   ·have a7:(t.Z9 != s)=true:=by simp [bne,Z]
    gi_wp2
    exact⟨(KeepsOthers.setCell _ _ _).from _,⟨rfl,ah⟩,U.setCell (p:=(aN w 0)) (Nat.le_refl _) _⟩
   have a7:(t.Z9 != s)=false:=by simp [bne,Z]
   cases e2:t.name == n
   ·have a8:(t.name != n)=true:=by simp [bne,e2]
    gi_wp2
    exact⟨(KeepsOthers.setCell _ _ _).from _,⟨rfl,ah⟩,U.setCell (p:=(aN w 0)) (Nat.le_refl _) _⟩
   have a8:(t.name != n)=false:=by simp [bne,e2]
   gi_wp2
   exact⟨KeepsFrom.refl _ _,MG.refl _ _,fun _ _ _ _ _ _ _ _ h=>be ⟨by simpa using Z,by simpa using e2⟩ _ h,d⟩
  case done=>
   rintro D ys W hD aR ⟨m,d⟩ u;have U:Bw w W:=M.o.trans (d.mono M.o.size);have aF:=hid U;have aH:=hid u;have ao:Hid (∀ x∈VS o s n,x.1.Z9=s/\x.1.name=n):=hid (by
    rw [<-aR];intro x hx;obtain⟨y,hy,rfl⟩:=List.mem_map.1 hx;exact m y hy)
   have Q4:=bl N d;have P4:=bl P3 d;have bf:gt<w.heap.size:=(ZJ G.o.Z8).2.1;have O4:=hid (G.o.Z8.ZC U);have ac:ts.length=o.Z8.length:=by rw [<-G.o.data,List.length_map]
   have bv:IntKind.i64.wrap ((i:Int)+1)=(i:Int)+1:=by simp [IntKind.wrap,IntKind.bits,IntKind.signed];omega
   have e0:=ce P4 1;clear aR m U d u;dsimp only;go_wp2_with fail;have cD:=Nh base ts (some (aD gt 0)) l1 i W (by rw [ac];exact O4.o) (by omega) (by omega);rw [ac] at cD;refine cD.mono ?_
   rintro e V ⟨rfl,aQ,aK,aP,aO⟩;have aZ:=hid aQ;have aW:Hid (Below base w V):=hid ((aF.o.mono ai).trans aK);have ag:=hid aP;have ba:D<W.heap.size:=(Array.getElem?_eq_some_iff.1 aH.o).1;have bg:(Value.slice (some (aD gt 0)) o.Z8.length l1).ownBlock≠some D:=fun e=>by
    injection e with e'
    have e2:gt=D:=e';omega
   have aY:Hid (V.heap[D]?=some (.deferred (some []))):=hid ((aO.block D ba bg).trans aH.o);have PV:=hid (P4.o.keeps ag.o (by decide));have QV:=hid (Q4.o.keeps ag.o (by decide));have bB:=ag.o.size;clear aQ aK aP aO cD e0;have Z:=ce PV 1;have f1:=PV.o.frozen 1;have C:V.setCell (aD p 1) (.slice (some (aD gt 0)) (o.Z8.length - 1:Nat) l1)=V.setCell (aD p 1) (.slice (some (aD gt 0)) (o.Z8.length - 1:Nat) l1):=rfl;generalize hV2:V.setCell (aD p 1) (.slice (some (aD gt 0)) (o.Z8.length - 1:Nat) l1)=V2 at C;replace C:=hV2.symm;clear hV2;have bs:p≠w.heap.size:=by omega
   have bh:p≠D:=by omega
   have aG:Hid (ZS [26] V V2):=hid (by rw [C];exact ZS.Zx PV.o.Xr (by simp) _);have P5:=rB C (PV.o.Zx 1 _);have Q5:Hid (ZP V2 w.heap.size 45 [i6 0]):=hid (by rw [C];exact QV.o.WT (by show _≠p;omega) _)
   have aX:Hid (V2.heap[D]?=some (.deferred (some []))):=hid (by rw [C];exact((Below.heap_setCell V (aD p 1) _ D (fun e=>bh e.symm))).trans aY.o);have aU:Hid (Below base w V2):=hid (by rw [C];exact aW.o.setCell bi _);have q5:=ce Q5 0;have g5:=Q5.o.frozen 0;rw [C] at q5 g5;go_upto_region 9 with fail
   rw [<-C];rw [<-C] at q5 g5;clear C;have bm:w.heap.size≠D:=by omega
   have af:(V2.setCell (aN w 0) (i6 0)).heap[D]?=some (.deferred (some [])):=(Below.heap_setCell V2 (aN w 0) _ D (fun e=>bm e.symm)).trans aX.o;have Q6:Hid (ZP (V2.setCell (aN w 0) (i6 0)) w.heap.size 45 [i6 0]):=hid (Q5.o.Zx 0 _);have ap:Hid (ZS [45] V2 (V2.setCell (aN w 0) (i6 0))):=hid (ZS.Zx Q5.o.Xr (by simp) _);have aV:Hid (Below base w (V2.setCell (aN w 0) (i6 0))):=hid (aU.o.setCell ai _);go_wp2;refine⟨by simp,.inl ⟨_,_,rfl,run_takeDeferred af,?_⟩⟩
   have hQ:Q6.o.cell 0=Q6.o.cell 0:=rfl;have ay:=cell_kept (show (V2.setCell (aN w 0) (i6 0)).cell? (aN w 0)=some (i6 0) from Q6.o.cell 0) (grownBy_putObj' _ D (.deferred none)) (fun r e=>by cases e;exact⟨_,af,rfl⟩);refine⟨i6 0,?_,?_⟩
   ·simp [results,Tryz.f173,go_sem,ay]
   ·have av:ZS [] (V2.setCell (aN w 0) (i6 0)) ((V2.setCell (aN w 0) (i6 0)).putObj D (.deferred none)):=RS af rfl;have aI:ZS [73,26,45] w ((V2.setCell (aN w 0) (i6 0)).putObj D (.deferred none)):=((((ZS.ZA aF.o (Nat.le_refl _)).trans (ag.o.X6 (by simp))).trans (aG.o.X6 (by simp))).trans (ap.o.X6 (by simp))).trans (av.X6 (by simp));have au:ZS [26,45] V ((V2.setCell (aN w 0) (i6 0)).putObj D (.deferred none)):=((aG.o.X6 (by simp)).trans (ap.o.X6 (by simp))).trans (av.X6 (by simp));have bd:(o.Z8.eraseIdx i).length=o.Z8.length - 1:=List.length_eraseIdx_of_lt hi;have az:(ts.eraseIdx i).length=o.Z8.length - 1:=by rw [List.length_eraseIdx_of_lt (by omega),ac]
    refine⟨0,⟨o.Z7,o.Z8.eraseIdx i⟩,B0,l0,some (aD gt 0),l1,rfl,ar.o i aT.o ao.o,?_,⟨?_,?_⟩,?_⟩
    ·rw [bd];exact((P5.o.keeps ap.o (by decide)).keeps av (by decide))
    ·have j:=G.o.sc.YW (S':=Xs w [89]) (fun k hk=>hk.Rp (fun _ h=>h)) (fun _ _=>rfl);exact(ZI j aI (by decide)).YW (fun k ⟨t,j,J⟩=>⟨t,(by decide: ∀ t,t∈ [89]->t∈OT) t j,J⟩) (fun _ _=>rfl)
    ·exact Kh (us:= [73,26,45]) G.o aI (by decide) (by decide) (by decide) (aZ.o.keeps au (by decide)) (by rw [az])
    ·exact(aV.o.trans ((belowK_b (w:=w) ai _ D _ _ (by omega) af rfl rfl))).x _
  case stop=>
   rintro D c pre W hD _ ⟨⟨rfl,ah⟩,d⟩ u;have HF:=aq.o 62;gi_wp2
   refine⟨by simp,.inl ⟨_,_,rfl,run_takeDeferred u,?_⟩⟩
   have ay:=cell_kept ah.cell (grownBy_putObj' _ D (.deferred none)) (fun r e=>by cases e;exact⟨_,u,rfl⟩);refine⟨i6 62,?_,?_⟩
   ·simp [results,Tryz.f173,go_sem,ay]
   ·exact aq.o 62 _ (by decide) (d.trans (belowK_b (w:=w) (Nat.le_refl _) W D _ _ (by omega) u rfl rfl))
end Go.Proofs.YtnhmoibjlakhjaaGreat
namespace Go.Proofs.YtnhmoibjlakhjaaGreat
open Go.Proofs.Tryz
open Lib (hid)
set_option maxRecDepth 100000
set_option maxHeartbeats 16000000
open Go.RowKit
attribute [local go_sem] Oper.semAt_some
theorem SZ (o:Ob)(d:oA)(k0:Nat)(h:oA)(k1:Nat)(s n:lU)(w:World)(F:ME w o d h)(I:o.Zo 1099511627776):
  cQ 124 #[.agg #[.slice d o.Z7.length k0,.slice h o.Z8.length k1],sT s,sT n] w (Gi o (Vw o s n) w):=by
 have L:=hid F;have E:=hid I;have D:=iN 26 2;clear F I;go_enter func124,ntmps124
 go_wp2_with fail;refine Zi _ fun W j=> ?_
 have m:Hid (Bw w W):=hid (by rw [j];exact((((br.alloc lr _).alloc (by simp) _).alloc (by simp;omega) _).alloc (by simp;omega) _));have q0:ZP W (w.heap.size) 26 [sl d o.Z7 k0,sl h o.Z8 k1]:=by rw [j];exact(ZP.alloc (ZP.alloc (ZP.alloc (ZP.new w 26 [sl d o.Z7 k0,sl h o.Z8 k1]) _) _) _)
 have q1:ZP W (w.heap.size+1) 9 [sT s]:=by rw [j];exact(ZP.alloc (ZP.alloc (by simpa using ZP.new (w.alloc (.cells #[sl d o.Z7 k0,sl h o.Z8 k1] 26)) 9 [sT s]) _) _)
 have q2:ZP W (w.heap.size+1+1) 9 [sT n]:=by rw [j];exact(ZP.alloc (by simpa using ZP.new ((w.alloc (.cells #[sl d o.Z7 k0,sl h o.Z8 k1] 26)).alloc (.cells #[sT s] 9)) 9 [sT n]) _)
 have q3:ZP W (w.heap.size+1+1+1) 26 [sN,sN]:=by rw [j];exact(by simpa using ZP.new (((w.alloc (.cells #[sl d o.Z7 k0,sl h o.Z8 k1] 26)).alloc (.cells #[sT s] 9)).alloc (.cells #[sT n] 9)) 26 [sN,sN])
 clear j;have Q:=hid q3;have aa:=q3.lt;refine(VJ none 173 _ (Vw o s n) o d k0 h k1 W (enters_of func173 (by kernel_rfl) rfl) (L.o.later m.o) E.o (Mh o s n _ _ W E.o q1 q2) (by simp)).mono ?_
 rintro e U ⟨V,o',M,Z,N,m1,rfl,G,C,hb⟩;have K:Hid (Bw w U):=hid (m.o.trans (hb.low m.o.size (by simp)));have T:=hid (hb.YK Q.o Q.o.lt (by simp));have O:=hid G;have J:=hid C;clear hb G C m Q q0 q1 q2 q3;go_wp2_with (first | ((refine sO T D ?_);intro wS u) | fail);refine bodyPost_ret (rt (hid u.o.YK) underlying26 D) rfl ?_
 exact⟨V,o',M,Z,N,m1,rfl,O.o,J.o.keeps u.o.keeps (by decide),u.o.below K.o (by omega)⟩
section
variable {P : Program} {ops : Array Oper} {Q : Exit -> Act -> World -> Prop} {l n : Nat}
theorem Fy {o:Oper}{a:Act}{K:Act->World->Prop} : ∀ r,Oper.upon P o a K Q r->Oper.uponIn (Fence.wide.inRound l) n P o a K Q r:=by
 intro r h
 cases r with
 | ok x w'=>
  cases x <;> first
   | exact h
   | exact⟨fun h=>(by cases h),(callsIn_wide.2 h).inRound l⟩
   | exact⟨fun h=>(by cases h),fun c cs _=>let ⟨v,w',r,s⟩:=h c cs;⟨v,w',r,stepsIn_wide.2 s⟩⟩
   | exact h.elim
 | halt x w'=>
  cases x <;> first
   | exact h
   | exact h.elim
def FK:Op->Bool
 | .defer _=>false
 | _=>true
theorem Fx {i:Nat}{K:Act->World->Prop}{a:Act}{w:World}(d: ∀ (j:Nat)(o:Oper),ops[j]?=some o-> ∀ c,o.op≠ .defer c)(m: ¬ LetsOut Q)(h:wpOp P ops Q i K a w):wpOpIn (Fence.wide.inRound l) n P ops Q i K a w:=by
 unfold wpOp at h;unfold wpOpIn
 cases ho:ops[i]? with
 | none=>
  rw [ho] at h;exact h
 | some o=>
  rw [ho] at h;dsimp only at h ⊢;by_cases hw:Region.wanted o (yielded ops a.tmps)=true
  ·rw [if_pos hw] at h ⊢;rcases h with h | ⟨_,h⟩
   ·refine⟨fun _ _=>trivial,?_⟩
    rw [show (Fence.wide.inRound l).round=some l from rfl,Oper.semAt_some l _ _ (d i o ho)];exact Fy _ h
   ·exact absurd h m
  ·rw [if_neg hw] at h ⊢;exact⟨fun _ _=>trivial,h⟩
theorem Lb {md:Region.Mode}(d: ∀ (j:Nat)(o:Oper),ops[j]?=some o-> ∀ c,o.op≠ .defer c)(m: ¬ LetsOut Q): ∀ (fuel:Nat)(listed:Array Bool)(a:Act)(w:World),wpAny P md ops Q fuel listed a w->wpAnyIn (Fence.wide.inRound l) n P md ops Q fuel listed a w
 | 0,_,_,_,h=>h
 | fuel+1,_,_,_,h=>⟨h.1,fun i s=>wpOpIn_mono (fun a w h=>Lb d m fuel _ a w h) (Fx d m (h.2 i s))⟩
theorem Yb {S:World->Prop}{id:Nat}{a:Act}{w:World}(E:P.follows .mixedOrders=true)(s:ops.all (fun o=>FK o.op)=true)(D: ¬ LetsOut Q)(u:S w.drew)
  (h:S w.drew->wpAnyH P .any ops Q S ops.size (Array.replicate ops.size false) a w.drew):(Code.region id ops true).wpIn (Fence.wide.inRound l) n P Q a w:=
 wpIn_region_any E (Lb (fun j o m c C=>by
  have d:=Array.all_eq_true.1 s j (Array.getElem?_eq_some_iff.1 m).1;rw [(Array.getElem?_eq_some_iff.1 m).2,C] at d
  cases d) D _ _ _ _ (wpAny_of_held _ _ _ _ (h u)))
end
theorem Yj.post {w d j:World}{gt u m:Nat}{us:List TypeId}{x:Option Nat}(h:Yj w d gt u m us x)(E:d.heap.size<=j.heap.size)(hb: ∀ k,k<w.heap.size->j.heap[k]?=d.heap[k]?):Yj w j gt u m us x:=
 ⟨Nat.le_trans h.size E,fun k t s C D F=>(hb k s.lt).trans (h.block k t s C D F)⟩
theorem Fb {F T:Nat->World->Prop}{G:Prop}(h:(∀ p w,F p w->T p w)->G)(k: ∀ p w,F p w->T p w):G:=h k
def UX (o:Ob)(s n nm:lU)(i:Nat)(er:Int)(o':Ob):Prop:=(er≠0/\o'=o)∨(er=0/\ ∃ hi:i<o.Z8.length,∃ k,SD o.Z8[i].ZW nm=some k/\(∀ (hk:k<o.Z8[i].ZW.length),o.Z8[i].ZW[k].ZV=2-> ∀ x∈VS o s n,x.2.key≠nm)/\o'=Tp o i { o.Z8[i] with ZW:=o.Z8[i].ZW.eraseIdx k})
theorem Mk (o:Ob)(s n nm:lU)(c2 c3 c4:Nat)(w0:World)(ho:o.Zo 1099511627776)(L:ZP w0 c2 9 [sT nm])(h3:ZP w0 c3 9 [sT s])(h4:ZP w0 c4 9 [sT n]):Qm none 214 #[pT c2,pT c3,pT c4] o w0 s n (UX o s n nm):=by
 intro w base p gt i B0 l0 l1 ts b bz aB U bA hp cj cg cp hi;have cK:ts.length=o.Z8.length:=by rw [<-U.data,List.length_map]
 have hi':i<ts.length:=by omega
 have aK:ts[i].1=o.Z8[i]:=by
  have:=U.data;rw [<-List.getElem_map (f:=fun x:YX=>x.1) (h:=by simpa using hi')];simp only [this]
 have ao:=(U.tab i hi').2;have a8:base<=w.heap.size:=by
  have:=U.low;have:=bA 0 (Nat.zero_le _);omega
 have bG:Za w gt 73:=Yx U.Z8 rfl;have ch:=(ZJ U.Z8).1;have aq:=(ZJ U.Z8).2.1;have bE:=(ZJ U.Z8).2.2.2.1;have ai:base<=b i:=Nat.le_trans U.low (U.S5 i 0 (Nat.zero_le _) (by omega));have bD:=fun f hf u hu=>WD U.Z8 hi' f hf u hu
 have ax:=fun(W:World) (h:W.ownsRow base 73 5 (sl (some (aD gt 0)) o.Z8 l1) o.Z8.length (ts.flatMap YX.cs)) f hf u t' ht=>Tr h hi' (f:=f) hf u t' ht
 have aT:=hid (ho.2.2 o.Z8[i] (List.getElem_mem hi));generalize hT:ts[i]=T at*;obtain⟨t,X,x,Y,y⟩:=T;dsimp only at aK;rw [<-aK] at aT;have aH:=hid U;have af:=hid ao;have HO:=hid ho;have HP:=hid hp;have bZ:=hid bG;have bY:=hid bE;have aU:=hid ax;have aX:=hid aK;have cM:=aB.size;have cE:=hp.lt;have cJ:=ho.2.1;have cI:=aT.o.2.1;have C2:=hid (L.below aB L.lt);have C3:=hid (h3.below aB h3.lt);have C4:=hid (h4.below aB h4.lt);have bm:Hid (∀ er W,er≠0->Bw w W->VY none w base p gt B0 l0 l1 o (UX o s n nm i) (.returned (i6 er)) W):=hid fun er W Z L=>Sm aH.o a8 HP.o L (Or.inl ⟨Z,rfl⟩)
 have bC:=bD 4 (by omega) (sl Y t.ZW y) rfl;have b3:Hid (∀ o' k,SD o.Z8[i].ZW nm=some k->(∀ (hk:k<o.Z8[i].ZW.length),o.Z8[i].ZW[k].ZV=2-> ∀ x∈VS o s n,x.2.key≠nm)->o'=Tp o i { o.Z8[i] with ZW:=o.Z8[i].ZW.eraseIdx k} ->UX o s n nm i 0 o'):=hid fun o' k Z L h4=>Or.inr ⟨rfl,hi,k,Z,L,h4⟩
 clear U ao hp bG bE aB ax hT bA cg cp aK L h3 h4 bD ho;refine callsIn_wide (n:=6) |>.1 ?_
 refine callsIn_of_wp_marks func214 rfl trivial ?_ rfl
 simp only [ntmps214,List.size_toArray,List.length_cons,List.length_nil,Nat.reduceAdd,Nat.reduceSub,Array.replicate_succ,Array.replicate_zero,List.push_toArray,List.append_toArray,List.nil_append,List.cons_append];refine wpIn_wide.2 ?_
 go_upto_region 1 with fail
 refine Wh _ fun m hW=> ?_
 have e1:(w.alloc (.cells #[sl B0 o.Z7 l0,sl (some (aD gt 0)) o.Z8 l1] 26)).heap.size=w.heap.size+1:=by simp
 have e2:((w.alloc (.cells #[sl B0 o.Z7 l0,sl (some (aD gt 0)) o.Z8 l1] 26)).alloc (.cells #[.pointer (some (aD gt (i*5)))] 233)).heap.size=w.heap.size+1+1:=by simp
 have aj:=bR hW;have Z5:=nE hW;have Z6:Hid (ZP m (w.heap.size+1) 233 [.pointer (some (aD gt (i*5)))]):=hid (by
  rw [hW];have h:=(ZP.new (w.alloc (.cells #[sl B0 o.Z7 l0,sl (some (aD gt 0)) o.Z8 l1] 26)) 233 [.pointer (some (aD gt (i*5)))]).alloc (.cells #[i6 0] 45);rwa [e1] at h)
 have Q1:Hid (ZP m (w.heap.size+1+1) 45 [i6 0]):=hid (by
  rw [hW];have h:=ZP.new ((w.alloc (.cells #[sl B0 o.Z7 l0,sl (some (aD gt 0)) o.Z8 l1] 26)).alloc (.cells #[.pointer (some (aD gt (i*5)))] 233)) 45 [i6 0];rwa [e2] at h)
 clear hW e1 e2;have aa:gt<m.heap.size:=Nat.lt_of_lt_of_le aq aj.o.size;have d4:m.cell? (aD gt (i*5+4))=some (sl Y t.ZW y):=ct bC aj.o aq;have ae:=bl C2 aj.o;have aP:Hid (∀ W,Bw m W->cQ 210 #[sl Y t.ZW y,sT nm,.func (.func 211) #[] #[]] W fun e w'=>e= .returned (.int .i64 (WS (SD t.ZW nm)))/\Bw W w'):=hid (by
  intro W hW;have cB:=TQ (t.ZW.map Ru.da) Y y nm W ((af.o.rows.2.later aj.o).later hW) (by simpa using aT.o.2.1);rwa [List.length_map,Rh] at cB)
 have cq:=aj.o.size;refine wp_region_noPanic ?_
 generalize hra:SD t.ZW nm=ra at*;have bn:=hid hra;clear hra;refine' Fb (F:=fun q V=>Hid (ZP V q 3 [i6 (WS ra)])/\Hid (Bw m V)/\Hid (m.heap.size<=q)) (fun key=>_) _
 rotate_left
 ·refine wp_region_held_drew (S:=fun w'=>w'.cell? (aD (w.heap.size+1) 0)=some (.pointer (some (aD gt (i*5))))/\w'.cell? (aD gt (i*5+4))=some (sl Y t.ZW y)/\w'.cell? (aD c2 0)=some (sT nm)) (by kernel_rfl) (⟨((Below.refl m.heap.size m).drew.cell (p:=(aD (w.heap.size+1) 0)) Z6.o.lt).trans (Z6.o.cell 0),((Below.refl m.heap.size m).drew.cell (p:=(aD gt (i*5+4))) aa).trans d4,((Below.refl m.heap.size m).drew.cell (p:=(aD c2 0)) ae.o.lt).trans (ae.o.cell 0)⟩) (fun d=> ?_)
  (try simp only [pp]);refine tk 0 11 d ?_;refine tk 1 12 d ?_;refine tk 2 13 d ?_;refine tk 3 14 d ?_;refine tk 4 15 d ?_;refine wpAnyH_ready (rs:= [5,6]) (by kernel_rfl) (by simp) ?_
  refine AllReadyH.cons (o:=⟨some 16,_,_,_,_,_⟩) rfl (fun K C=> ?_) (AllReadyH.cons (o:=⟨some 8,_,_,_,_,_⟩) rfl (fun K C=> ?_) AllReadyH.nil)
  ·go_simp;refine(aP.o m.drew br.drew).mono ?_
   rintro e E ⟨rfl,hb⟩;have M:Hid (Bw m E):=hid (br.drew.trans hb);clear hb;refine C.out _ _ ⟨cb Z6 M.o 0,ct d4 M.o aa,cb ae M.o 0⟩ (fun d=> ?_);clear C K;(try simp only [pp])
   refine on 6 8 fun K C=> ?_
   go_simp;have ab:Hid (Below m.heap.size m (E.alloc (.cells #[i6 0] 3))):=hid (M.o.alloc M.o.size _);have G2:Hid (ZP (E.alloc (.cells #[i6 0] 3)) E.heap.size 3 [i6 0]):=hid (ZP.new E _ _);have aC:m.heap.size<=E.heap.size:=M.o.size;refine C.out _ _ ⟨cb Z6 ab.o 0,ct d4 ab.o aa,cb ae ab.o 0⟩ (fun d=> ?_);clear C K;(try simp only [pp])
   refine SR 7 fun K C=> ?_
   have ac:Hid (Below m.heap.size m (E.alloc (.cells #[i6 (WS ra)] 3))):=hid (M.o.alloc M.o.size _);have G3:Hid (ZP (E.alloc (.cells #[i6 (WS ra)] 3)) E.heap.size 3 [i6 (WS ra)]):=hid (ZP.new E _ _);clear ab G2 M;go_simp;refine C.out _ _ ⟨cb Z6 ac.o 0,ct d4 ac.o aa,cb ae ac.o 0⟩ (fun d=> ?_);clear C K;(try simp only [pp])
   refine wpAnyH_done (by kernel_rfl) ?_ _
   clear d;revert ac G3 aC
   generalize E.alloc (.cells #[i6 (WS ra)] 3)=V9;generalize E.heap.size=q9;intro aC ac G3;exact key q9 V9 ⟨G3,ac,aC⟩
  ·go_simp;have ab:Hid (Below m.heap.size m (m.alloc (.cells #[i6 0] 3)).drew):=hid (br.alloc lr _).drew;have G2:Hid (ZP (m.alloc (.cells #[i6 0] 3)).drew m.heap.size 3 [i6 0]):=hid (ZP.new m _ _).drew;refine C.out _ _ ⟨cb Z6 ab.o 0,ct d4 ab.o aa,cb ae ab.o 0⟩ (fun d=> ?_);clear C K;(try simp only [pp])
   refine on 5 16 fun K C=> ?_
   go_simp;refine(aP.o _ ab.o).mono ?_
   rintro e E ⟨rfl,hb⟩;have M:=bt ab hb;have G1:=bl G2 hb;clear hb ab G2;refine C.out _ _ ⟨cb Z6 M.o 0,ct d4 M.o aa,cb ae M.o 0⟩ (fun d=> ?_);clear C K;(try simp only [pp])
   refine SR 7 fun K C=> ?_
   have q0:=ce G1 0;have qf:=G1.o.frozen 0;have ac:Hid (Below m.heap.size m (E.setCell (aN m 0) (i6 (WS ra)))):=hid (M.o.setCell lr _);have G3:Hid (ZP (E.setCell (aN m 0) (i6 (WS ra))) m.heap.size 3 [i6 (WS ra)]):=hid (G1.o.Zx 0 _);have aC:m.heap.size<=m.heap.size:=Nat.le_refl _;go_simp;clear q0 qf G1 M;refine C.out _ _ ⟨cb Z6 ac.o 0,ct d4 ac.o aa,cb ae ac.o 0⟩ (fun d=> ?_);clear C K;(try simp only [pp])
   refine wpAnyH_done (by kernel_rfl) ?_ _
   clear d;exact key m.heap.size _ ⟨G3,ac,aC⟩
 ·rintro q V ⟨HG,aF,cu⟩;unfold NoPanic;dsimp only;have aE:Hid (Bw w V):=hid (aj.o.trans (aF.o.mono cq));have Q2:=bl Q1 aF.o;have bo:=bl Z5 aF.o;have b7:=bl Z6 aF.o;have cG:=Q2.o.lt;clear Q1 Z5 Z6 aP d4 ae;have g0:=ce HG 0;have q0:=ce Q2 0;have qf:=Q2.o.frozen 0
  cases ra with
  | none=>
   rw [show WS (none:Option Nat)= -1 from rfl] at g0;have HF:Hid (∀ W,W=V.setCell (aD (w.heap.size+1+1) 0) (i6 61)->VY none w base p gt B0 l0 l1 o (UX o s n nm i) (.returned (i6 61)) W):=hid (fun W h=>bm.o 61 W (by decide) (by rw [h];exact aE.o.setCell (by show _<=w.heap.size+1+1;omega) _))
   have qr:(V.setCell (aD (w.heap.size+1+1) 0) (i6 61)).cell? (aD (w.heap.size+1+1) 0)=some (i6 61):=(Q2.o.Zx 0 _).cell 0;go_wp2;refine⟨i6 61,?_,HF.o _ rfl⟩
   simp [results,Tryz.f214,go_sem,qr]
  | some k=>
   obtain⟨hk,_⟩:=Wt (show t.ZW.findIdx? (fun x=>x.name == nm)=some k from bn.o);rw [show WS (some k)=(k:Int) from rfl] at g0;have bW:Hid (ZP V q 3 [i6 (k:Int)]):=HG;clear HG;have cy: ¬ (k:Int)<0:=by omega
   have z0:=ce bo 0;have z1:=ce bo 1;have z3:=cd (C3.o.below aE.o C3.o.lt) 0;have z4:=cd (C4.o.below aE.o C4.o.lt) 0;obtain⟨rs,az,ay,bh⟩:=af.o.ZW;dsimp only at az ay bh;have aA:rs.length=t.ZW.length:=by rw [<-az,List.length_map]
   obtain⟨G,rfl⟩: ∃ G,Y=some (aD G 0):=by
    obtain⟨G,cap,hv,_,_⟩:=ay.form (by omega);exact⟨G,by injection hv⟩
   have bd:=ZJ ay;have bg:w.cell? (aD G (k*8+1))=some (i6 rs[k].1.ZV):=bd.2.2.2.2 (k*8+1) _ (by rw [Zl YH.k rs k 1 (by omega) (by omega)];rfl)
   have bL:rs[k].1=t.ZW[k]:=by
    have L:(rs.map (·.1))[k]?=t.ZW[k]?:=by rw [az]
    rw [List.getElem?_map,List.getElem?_eq_getElem (by omega),List.getElem?_eq_getElem hk] at L;simpa using L
   rw [bL] at bg;have be:G<w.heap.size:=bd.2.1;have b4:=hid az;have aV:=hid ay;have aW:=hid bh;clear az ay bh bd bL;go_wp2_with fail;refine(QS o B0 l0 (some (aD gt 0)) l1 s n V).mono ?_
   rintro e w3 ⟨rfl,g1,g2,g3,ap,cr⟩;have ad:=bt aE ap;have Q3:=bl Q2 ap;have aY:=bl b7 ap;have aL:=bl bW ap;have G1:=hid g1;have G2:=hid g2;have G3:=hid g3;have bi:=bl C2 ad.o;clear g1 g2 g3 ap z0 z1 z3 z4 g0 q0 qf;generalize hzd:V.heap.size=z at*;have cN:z+1+1<w3.heap.size:=by omega
   have cf:rA w3 Zn (o.Z8.map Tb.da) (some (aD gt 0)):=aH.o.r.tb.later ad.o;have cF:=Q3.o.lt;have bI:w3.cell? (aD G (k*8+1))=some (i6 t.ZW[k].ZV):=ct bg ad.o be;have bq:w3.cell? (aD gt (i*5+4))=some (sl (some (aD G 0)) t.ZW y):=ct bC ad.o aq;have av:G<w3.heap.size:=by have:=ad.o.size;omega
   have ar:gt<w3.heap.size:=by have:=ad.o.size;omega
   obtain⟨N,bf⟩: ∃ N,N=t.ZW[k].ZV:=⟨_,rfl⟩
   rw [<-bf] at bI;have b1:=hid bf;clear bg;clear hzd cr bf;go_wp2_with fail;have cw:(0:Int)<=(k:Int):=by omega
   have cx:(k:Int)< (t.ZW.length:Int):=by omega
   refine wpIn_wide.1 (wpIn_rangeFunc_ownH (F:=Fence.wide) (n:=6) rfl (by omega) (gf:=246) (lb:= #[pT z,pT (z+1),pT (z+1+1)]) rfl trivial (enters_of func246 (by kernel_rfl) rfl)
    (SY 4 o s n B0 l0 (some (aD gt 0)) l1 w3.heap.size z (z+1) (z+1+1) w3 lr HO.o cf G1.o G2.o G3.o (by omega) (by omega) (by omega)) (fun h k=>MG.trans h k) (Fl lr) br (fun _=>rfl)
    (fun pre W=>(∀ x∈pre,¬ (x.2.1.key=nm/\N=2))/\Bw w3 W)
    (fun c _ W=>(c= .ret/\Boxed W (w.heap.size+1+1) 45 (i6 62))/\Bw w W)
    (OwnFrom.and (ownFrom_pure _ _) (ownFrom_below lr lr))
    (fun c=>OwnFrom.and (OwnFrom.and (ownFrom_pure _ _) (Own.from (boxed_own _ _ _) _)) (ownFrom_below lr (by omega)))
    ⟨by simp,Below.refl _ _⟩
    (fun x a' W=> ∃ Bx,w3.heap.size<=Bx/\ZP W Bx 40 (YH.cs x.2)/\a'= { tmps:= #[.agg #[sl B0 o.Z7 l0,sl (some (aD gt 0)) o.Z8 l1],.pointer (some (aD gt (i*5))),pT c2,pT c3,pT c4,pT w.heap.size,pT (w.heap.size+1),pT (w.heap.size+1+1),pT q,undef,pT Bx,.pointer (some (aD gt (i*5))),.pointer (some (aD gt (i*5))),.pointer (some (aD gt (i*5+4))),sl (some (aD G 0)) t.ZW y,sT nm,.int .i64 (WS (some k)),i6 (k:Int),.bool false,.agg #[sl B0 o.Z7 l0,sl (some (aD gt 0)) o.Z8 l1],sT s,sT n,.func (.func 246) #[] #[pT z,pT (z+1),pT (z+1+1)],.agg (YX.cs x.1).toArray,.agg (YH.cs x.2).toArray,undef,undef,undef,undef,undef,undef,undef,undef,undef,undef,undef,undef,undef,undef,undef,undef,undef,undef,undef,undef,undef,undef,undef,undef,undef,undef],defers:= []})
    (fun x a' _ X Y row hs hg hr=>by obtain⟨Bx,e1,e2,e3⟩:=hs;exact⟨Bx,e1,Xe e2 hg (fun r e=>(hr r e).2),e3⟩)
    ?assign ?body ?done ?stop)
   case assign=>
    rintro l pre x W K ⟨hp,I⟩ C;obtain⟨⟨t',X',xx,Y',yy⟩,r,V',v⟩:=x;dsimp only [TR.enc,YX.cs,YH.cs,Tb.cs,Ru.cs];gi_wp2
    exact C _ _ ((KeepsOthers.alloc _ _).from _) (MG.alloc I.size _) ⟨hp,I.alloc I.size _⟩ ⟨W.heap.size,I.size,ZP.new W _ _,rfl⟩
   case body=>
    rintro l pre x a' W hl ⟨lr,cA⟩ ⟨hp,I⟩ ⟨Bx,cv,bX,rfl⟩ cC;obtain⟨⟨t',X',xx,Y',yy⟩,r,V',v⟩:=x;have x7:W.cell? (aD Bx 7)=some (sT r.key):=bX.cell 7;have d2:=cd (bi.o.below I bi.o.lt) 0;have d6:=cd (aY.o.below I aY.o.lt) 0;have dg:W.cell? (aD gt (i*5+4))=some (sl (some (aD G 0)) t.ZW y):=ct bq I ar;have dq:=cd (aL.o.below I aL.o.lt) 0;have dk:W.cell? (aD G (k*8+1))=some (i6 N):=ct bI I av;have q0:W.drew.cell? (aD (w.heap.size+1+1) 0)=some (i6 0):=(Q3.o.below I Q3.o.lt).drew.cell 0;have qf:W.drew.frozen? (aD (w.heap.size+1+1) 0)=false:=(Q3.o.below I Q3.o.lt).drew.frozen 0;have a6:W.drew.cell? (aD Bx 7)=some (sT r.key)/\W.drew.cell? (aD c2 0)=some (sT nm)/\W.drew.cell? (aD (w.heap.size+1) 0)=some (.pointer (some (aD gt (i*5))))/\W.drew.cell? (aD gt (i*5+4))=some (sl (some (aD G 0)) t.ZW y)/\W.drew.cell? (aD q 0)=some (i6 (k:Int))/\W.drew.cell? (aD G (k*8+1))=some (i6 N):=⟨x7,d2,d6,dg,dq,dk⟩
    have bF: ¬ (r.key=nm/\N=2)->(∀ z∈pre ++ [(((t',X',xx,Y',yy),(r,V',v)):TR)],¬ (z.2.1.key=nm/\N=2)):=by
     intro h z hz;rcases List.mem_append.1 hz with Z | Z
     ·exact hp z Z
     ·rw [List.mem_singleton.1 Z];exact h
    have ah:Bw w W.drew:=(ad.o.trans (I.mono ad.o.size)).drew;have a7:Boxed (W.drew.setCell (aD (w.heap.size+1+1) 0) (i6 62)) (w.heap.size+1+1) 45 (i6 62):=by
     have h:=(Q3.o.below I Q3.o.lt).drew.Zx 0 (i6 62);simpa [ZP,Boxed] using h
    have bu:MG w3.heap.size W W.drew:=⟨br.drew,Nat.le_refl _,fun _ _ _ h=>h.drew⟩
    clear hp x7 d2 d6 dg dq dk;dsimp only [TR.enc,YX.cs,YH.cs,Tb.cs,Ru.cs]
    cases e1:r.key == nm
    ·have aw: ¬ (r.key=nm/\N=2):=fun h=>by simp [h.1] at e1
     refine wpIn_block (wpIn_seq (Yb (S:=fun w'=>w'.cell? (aD Bx 7)=some (sT r.key)/\w'.cell? (aD c2 0)=some (sT nm)/\w'.cell? (aD (w.heap.size+1) 0)=some (.pointer (some (aD gt (i*5))))/\w'.cell? (aD gt (i*5+4))=some (sl (some (aD G 0)) t.ZW y)/\w'.cell? (aD q 0)=some (i6 (k:Int))/\w'.cell? (aD G (k*8+1))=some (i6 N)) (by kernel_rfl) (by kernel_rfl) (by rintro⟨a,w,h⟩;exact h) a6 (fun d=> ?_)))
     (try simp only [pp]);refine tk 0 25 d ?_;refine tk 1 26 d ?_;refine tk 2 27 d ?_;refine tb 3 28 (.bool false) d ?_;refine tb 4 29 (.bool false) d ?_;refine sk 5 30 d ?_;refine sk 6 31 d ?_;refine sk 7 32 d ?_;refine sk 8 33 d ?_;refine sk 9 34 d ?_;refine sk 10 35 d ?_;refine sk 11 36 d ?_;refine sk 12 37 d ?_;refine sk 13 38 d ?_;refine tb 14 39 (.bool false) d ?_;refine wpAnyH_done (by kernel_rfl) ?_ _
     clear d;gi_wp2
     exact⟨(KeepsOthers.drew W).from _,bu,fun _ _ _ _ _ _ _ _ h k1 k2=>bF aw _ h ⟨k1,k2⟩,I.drew⟩
    cases e2:N == 2
    ·have aw: ¬ (r.key=nm/\N=2):=fun h=>by simp [h.2] at e2
     refine wpIn_block (wpIn_seq (Yb (S:=fun w'=>w'.cell? (aD Bx 7)=some (sT r.key)/\w'.cell? (aD c2 0)=some (sT nm)/\w'.cell? (aD (w.heap.size+1) 0)=some (.pointer (some (aD gt (i*5))))/\w'.cell? (aD gt (i*5+4))=some (sl (some (aD G 0)) t.ZW y)/\w'.cell? (aD q 0)=some (i6 (k:Int))/\w'.cell? (aD G (k*8+1))=some (i6 N)) (by kernel_rfl) (by kernel_rfl) (by rintro⟨a,w,h⟩;exact h) a6 (fun d=> ?_)))
     (try simp only [pp]);refine tk 0 25 d ?_;refine tk 1 26 d ?_;refine tk 2 27 d ?_;refine tb 3 28 (.bool true) d ?_;refine tb 4 29 (.bool true) d ?_;refine tk 5 30 d ?_;refine tk 6 31 d ?_;refine tk 7 32 d ?_;refine tk 8 33 d ?_;refine tk 9 34 d ?_;refine tk 10 35 d ?_;refine tk 11 36 d ?_;refine tk 12 37 d ?_;refine tb 13 38 (.bool false) d ?_;refine tb 14 39 (.bool false) d ?_;refine wpAnyH_done (by kernel_rfl) ?_ _
     clear d;gi_wp2
     exact⟨(KeepsOthers.drew W).from _,bu,fun _ _ _ _ _ _ _ _ h k1 k2=>bF aw _ h ⟨k1,k2⟩,I.drew⟩
    refine wpIn_block (wpIn_seq (Yb (S:=fun w'=>w'.cell? (aD Bx 7)=some (sT r.key)/\w'.cell? (aD c2 0)=some (sT nm)/\w'.cell? (aD (w.heap.size+1) 0)=some (.pointer (some (aD gt (i*5))))/\w'.cell? (aD gt (i*5+4))=some (sl (some (aD G 0)) t.ZW y)/\w'.cell? (aD q 0)=some (i6 (k:Int))/\w'.cell? (aD G (k*8+1))=some (i6 N)) (by kernel_rfl) (by kernel_rfl) (by rintro⟨a,w,h⟩;exact h) a6 (fun d=> ?_)))
    (try simp only [pp]);refine tk 0 25 d ?_;refine tk 1 26 d ?_;refine tk 2 27 d ?_;refine tb 3 28 (.bool true) d ?_;refine tb 4 29 (.bool true) d ?_;refine tk 5 30 d ?_;refine tk 6 31 d ?_;refine tk 7 32 d ?_;refine tk 8 33 d ?_;refine tk 9 34 d ?_;refine tk 10 35 d ?_;refine tk 11 36 d ?_;refine tk 12 37 d ?_;refine tb 13 38 (.bool true) d ?_;refine tb 14 39 (.bool true) d ?_;refine wpAnyH_done (by kernel_rfl) ?_ _
    clear d;gi_wp2
    exact⟨((KeepsOthers.drew W).trans (KeepsOthers.setCell _ _ _)).from _,⟨rfl,a7⟩,ah.setCell (p:=(aD (w.heap.size+1+1) 0)) (by show _<=w.heap.size+1+1;omega) _⟩
   case done=>
    rintro D ys W hD bM ⟨hp,I⟩ C;have ah:Bw w W:=ad.o.trans (I.mono ad.o.size);have am:=hid ah;have b0:=hid C;have aM:Hid (N=2-> ∀ x∈VS o s n,x.2.key≠nm):=hid (by
     intro L;rw [<-bM];intro x hx;obtain⟨y,hy,rfl⟩:=List.mem_map.1 hx;exact fun h=>hp y hy ⟨h,L⟩)
    have Q4:=bl Q3 I;have bp:=bl aY I;have bj:=bl aL I;have bs:W.cell? (aD gt (i*5+4))=some (sl (some (aD G 0)) t.ZW y):=ct bq I ar;have cL:IntKind.i64.wrap ((k:Int)+1)=(k:Int)+1:=by simp [IntKind.wrap,IntKind.bits,IntKind.signed];omega
    have O4:=hid ((aV.o.Yp ai).ZC ah);have au:Za W gt 73:=bZ.o.RN (ah.block gt aq);have bc:W.frozen? (aD gt (i*5+4))=false:=(ah.frozen (p:=(aD gt (i*5+4))) aq).trans (bY.o _);have b8:D<W.heap.size:=(Array.getElem?_eq_some_iff.1 C).1;have cc:W.drew.cell? (aD (w.heap.size+1) 0)=some (.pointer (some (aD gt (i*5))))/\W.drew.cell? (aD gt (i*5+4))=some (sl (some (aD G 0)) t.ZW y)/\W.drew.cell? (aD q 0)=some (i6 (k:Int)):=⟨bp.o.drew.cell 0,bs,bj.o.drew.cell 0⟩
    clear bM hp ah I C;dsimp only;go_wp2_with fail;refine wp_region_noPanic ?_
    refine Zp 11 (S:=fun w'=>w'.cell? (aD (w.heap.size+1) 0)=some (.pointer (some (aD gt (i*5))))/\w'.cell? (aD gt (i*5+4))=some (sl (some (aD G 0)) t.ZW y)/\w'.cell? (aD q 0)=some (i6 (k:Int))) (by kernel_rfl) cc (fun O=> ?_)
    (try simp only [pp]);refine YU 0 40 O ?_;refine YU 1 41 O ?_;refine YU 2 42 O ?_;refine YU 3 43 O ?_;refine YU 4 44 O ?_;refine YU 5 45 O ?_;refine YU 6 46 O ?_;refine YU 7 47 O ?_;refine OH 8 48 fun K C=> ?_
    go_simp;have cD:=Mm base rs (some (aD G 0)) y k W.drew (by rw [aA];exact O4.o.ZC br.drew) (by omega) (by omega);rw [aA] at cD;refine cD.mono ?_
    rintro e E ⟨rfl,bK,bv,bJ,bb⟩;have b2:=hid bK;have aO:Hid (Below base w E):=hid ((am.o.mono a8).trans (br.drew.trans bv));have ak:Hid (ZS [40] W E):=hid ((ZS.drew W).trans bJ);have bV:Hid (Vm W.drew E (sl (some (aD G 0)) t.ZW y)):=hid bb;have aw:(Value.slice (some (aD G 0)) t.ZW.length y).ownBlock≠some D:=fun e=>by
     injection e with e'
     have e2:G=D:=e';omega
    have bU:Hid (E.heap[D]?=some (.deferred (some []))):=hid ((bb.block D b8 aw).trans b0.o);have QV:=hid (Q4.o.keeps ak.o (by decide));have b6:=hid (bp.o.keeps ak.o (by decide));have bN:=hid (bj.o.keeps ak.o (by decide));have aJ:E.heap[gt]?=W.heap[gt]?:=ak.o.block gt _ au (by decide);have e4:E.cell? (aD gt (i*5+4))=some (sl (some (aD G 0)) t.ZW y):=(World.cell?_of_block (w:=W) aJ).trans bs;have f4:E.frozen? (aD gt (i*5+4))=false:=(World.frozen?_of_block (w:=W) aJ).trans bc;have aR:Hid (Za E gt 73):=hid (au.RN aJ);have aQ:E.cell? (aD (w.heap.size+1) 0)=some (.pointer (some (aD gt (i*5))))/\E.cell? (aD gt (i*5+4))=some (sl (some (aD G 0)) t.ZW y)/\E.cell? (aD q 0)=some (i6 (k:Int)):=⟨b6.o.cell 0,e4,bN.o.cell 0⟩
    clear bK bv bJ bb cD aJ;refine C.out _ _ aQ ?_
    clear C K;(try simp only [pp])
    clear O;have O:=aQ;refine TU 9 49 (fun _=>O) ?_;refine TU 10 50 (fun _=>O) ?_;refine Zu.WR (i:=11) (o:=⟨none,_,_,_,_,_⟩) (by kernel_rfl) (by kernel_rfl) rfl (fun K C=> ?_)
    go_simp;refine C.out _ _ (Zu.done (by kernel_rfl) ?_ _);clear C K O aQ;unfold NoPanic;dsimp only;refine Qv _ fun J hV=> ?_
    have ci:gt≠D:=by omega
    have ck:w.heap.size+1+1≠D:=by omega
    have cH:w.heap.size+1+1≠gt:=by omega
    have bk:Hid (ZS [73] E J):=hid (by rw [hV];exact ZS.Zx aR.o (by simp) _);have Q5:Hid (ZP J (w.heap.size+1+1) 45 [i6 0]):=hid (by rw [hV];exact QV.o.WT (by show _≠gt;omega) _)
    have bT:Hid (J.heap[D]?=some (.deferred (some []))):=hid (by rw [hV];exact((Below.heap_setCell E (aD gt (i*5+4)) _ D (fun e=>ci e.symm))).trans bU.o);have bO:Hid (Below base w J):=hid (by rw [hV];exact aO.o.setCell ch _);have ag:=(aH.o.Z8.ZC am.o).keeps ak.o (by decide);have bB:(t.ZW.eraseIdx k).length=t.ZW.length - 1:=List.length_eraseIdx_of_lt hk;have an:Hid (J.ownsRow base 73 5 (sl (some (aD gt 0)) o.Z8 l1) o.Z8.length ((ts.set i (({ t with ZW:=t.ZW.eraseIdx k},X,x,some (aD G 0),y):YX)).flatMap YX.cs)):=hid (by
     rw [hV];exact aU.o E ag 4 (by omega) _ _ (by simp [YX.cs,Tb.cs,bB]))
    have b5:Hid (Yj w J gt (b i) (b (i+1)) [40] none):=hid (by
     rw [hV];have Z:Yj w W.drew gt (b i) (b (i+1)) [40] none:=Yj.ZA am.o.drew;exact(Z.trans (Yj.WT ((aV.o.ZC am.o).ZC br.drew) bV.o (by simp) fun k' bH=>⟨ZD aV.o k' bH,af.o.Qu k' bH⟩)).trans (Yj.Zx _))
    clear hV ag;have q5:=ce Q5 0;have g5:=Q5.o.frozen 0;have aG:(J.setCell (aD (w.heap.size+1+1) 0) (i6 0)).heap[D]?=some (.deferred (some [])):=(Below.heap_setCell J (aD (w.heap.size+1+1) 0) _ D (fun e=>ck e.symm)).trans bT.o;have Q6:Hid (ZP (J.setCell (aD (w.heap.size+1+1) 0) (i6 0)) (w.heap.size+1+1) 45 [i6 0]):=hid (Q5.o.Zx 0 _);have aS:Hid (ZS [45] J (J.setCell (aD (w.heap.size+1+1) 0) (i6 0))):=hid (ZS.Zx Q5.o.Xr (by simp) _);have bS:Hid (Below base w (J.setCell (aD (w.heap.size+1+1) 0) (i6 0))):=hid (bO.o.setCell (by show base<=w.heap.size+1+1;omega) _)
    go_wp2;refine⟨by simp,.inl ⟨_,_,rfl,run_takeDeferred aG,?_⟩⟩
    have ba:=cell_kept (show (J.setCell (aD (w.heap.size+1+1) 0) (i6 0)).cell? (aD (w.heap.size+1+1) 0)=some (i6 0) from Q6.o.cell 0) (grownBy_putObj' _ D (.deferred none)) (fun r e=>by cases e;exact⟨_,aG,rfl⟩);refine⟨i6 0,?_,?_⟩
    ·simp [results,Tryz.f214,go_sem,ba]
    ·have aI:ZS [] (J.setCell (aD (w.heap.size+1+1) 0) (i6 0)) ((J.setCell (aD (w.heap.size+1+1) 0) (i6 0)).putObj D (.deferred none)):=RS aG rfl;have aZ:ZS [40,73,45] w ((J.setCell (aD (w.heap.size+1+1) 0) (i6 0)).putObj D (.deferred none)):=((((ZS.ZA am.o lr).trans (ak.o.X6 (by simp))).trans (bk.o.X6 (by simp))).trans (aS.o.X6 (by simp))).trans (aI.X6 (by simp));have ca:ZS [73,45] E ((J.setCell (aD (w.heap.size+1+1) 0) (i6 0)).putObj D (.deferred none)):=((bk.o.X6 (by simp)).trans (aS.o.X6 (by simp))).trans (aI.X6 (by simp));have hd: ∀ t,t∈ [9]->t∉ [40,73,45]:=by decide
     have cn:(J.setCell (aD (w.heap.size+1+1) 0) (i6 0)).heap.size=J.heap.size:=by simp [World.setCell]
     have b9:w.heap.size<=D:=by omega
     refine UG (us:= [40]) (t':=({ t with ZW:=t.ZW.eraseIdx k},X,x,some (aD G 0),y)) aH.o hi' HP.o
      (b5.o.post (Nat.le_trans (Nat.le_of_eq cn.symm) aI.size) (fun j hj=> ?_)) (by decide) (by decide) (by simp) cj ((an.o.keeps aS.o (by decide)).keeps aI (by decide))
      (Tt af.o aZ (by decide) ai ⟨rs.eraseIdx k,by rw [SF,b4.o],by rw [bB];exact b2.o.keeps ca (by decide),fun r hr=> ?_⟩) ((bS.o.trans (belowK_b (w:=w) a8 _ D _ _ b9 aG rfl rfl)).x _) (b3.o _ k (by rw [<-aX.o];exact bn.o) ?_ (by rw [<-aX.o]))
     ·have Z:j≠D:=by omega
      have L:j≠w.heap.size+1+1:=by omega
      rw [World.putObj_heap_other Z];exact Below.heap_setCell J (aD (w.heap.size+1+1) 0) _ j L
     ·obtain⟨Z,L⟩:=aW.o r (List.mem_of_mem_eraseIdx hr);exact⟨Z.YW (fun k hk=>((hk.1.keeps aZ hd).1).mono ai (fun _ h=>h)) (fun _ hp=>World.cell?_of_block (hp.1.keeps aZ hd).2),L⟩
     ·intro cz L;refine aM.o ?_
      rw [<-L,b1.o];simp only [<-aX.o]
   case stop=>
    rintro D c pre W hD _ ⟨⟨rfl,a7⟩,I⟩ C;gi_wp2
    refine⟨by simp,.inl ⟨_,_,rfl,run_takeDeferred C,?_⟩⟩
    have ba:=cell_kept a7.cell (grownBy_putObj' _ D (.deferred none)) (fun r e=>by cases e;exact⟨_,C,rfl⟩);refine⟨i6 62,?_,?_⟩
    ·simp [results,Tryz.f214,go_sem,ba]
    ·exact bm.o 62 _ (by decide) (I.trans (belowK_b (w:=w) lr W D _ _ (by omega) C rfl rfl))
theorem Nd (o:Ob)(d:oA)(k0:Nat)(h:oA)(k1:Nat)(s n nm:lU)(w:World)(F:ME w o d h)(I:o.Zo 1099511627776):
  cQ 144 #[.agg #[.slice d o.Z7.length k0,.slice h o.Z8.length k1],sT s,sT n,sT nm] w (Gi o (RT o s n (UX o s n nm)) w):=by
 have L:=hid F;have E:=hid I;have D:=iN 26 2;clear F I;go_enter func144,ntmps144
 go_wp2_with fail;refine Zi _ fun W j=> ?_
 have m:Hid (Bw w W):=hid (by rw [j];exact(((((br.alloc lr _).alloc (by simp) _).alloc (by simp;omega) _).alloc (by simp;omega) _).alloc (by simp;omega) _));have q0:ZP W (w.heap.size) 26 [sl d o.Z7 k0,sl h o.Z8 k1]:=by rw [j];exact(ZP.alloc (ZP.alloc (ZP.alloc (ZP.alloc (ZP.new w 26 [sl d o.Z7 k0,sl h o.Z8 k1]) _) _) _) _)
 have q1:ZP W (w.heap.size+1) 9 [sT s]:=by rw [j];exact(ZP.alloc (ZP.alloc (ZP.alloc (by simpa using ZP.new (w.alloc (.cells #[sl d o.Z7 k0,sl h o.Z8 k1] 26)) 9 [sT s]) _) _) _)
 have q2:ZP W (w.heap.size+1+1) 9 [sT n]:=by rw [j];exact(ZP.alloc (ZP.alloc (by simpa using ZP.new ((w.alloc (.cells #[sl d o.Z7 k0,sl h o.Z8 k1] 26)).alloc (.cells #[sT s] 9)) 9 [sT n]) _) _)
 have q3:ZP W (w.heap.size+1+1+1) 9 [sT nm]:=by rw [j];exact(ZP.alloc (by simpa using ZP.new (((w.alloc (.cells #[sl d o.Z7 k0,sl h o.Z8 k1] 26)).alloc (.cells #[sT s] 9)).alloc (.cells #[sT n] 9)) 9 [sT nm]) _)
 have q4:ZP W (w.heap.size+1+1+1+1) 26 [sN,sN]:=by rw [j];exact(by simpa using ZP.new ((((w.alloc (.cells #[sl d o.Z7 k0,sl h o.Z8 k1] 26)).alloc (.cells #[sT s] 9)).alloc (.cells #[sT n] 9)).alloc (.cells #[sT nm] 9)) 26 [sN,sN])
 clear j;have Q:=hid q4;have aa:=q4.lt;refine(Uv none 214 _ (UX o s n nm) o s n d k0 h k1 W (enters_of func214 (by kernel_rfl) rfl) (L.o.later m.o) E.o (Mk o s n nm _ _ _ W E.o q3 q1 q2) (by simp)).mono ?_
 rintro e U ⟨V,o',M,Z,N,m1,rfl,G,C,hb⟩;have K:Hid (Bw w U):=hid (m.o.trans (hb.low m.o.size (by simp)));have T:=hid (hb.YK Q.o Q.o.lt (by simp));have O:=hid G;have J:=hid C;clear hb G C m Q q0 q1 q2 q3 q4;go_wp2_with (first | ((refine sO T D ?_);intro wS u) | fail);refine bodyPost_ret (rt (hid u.o.YK) underlying26 D) rfl ?_
 exact⟨V,o',M,Z,N,m1,rfl,O.o,J.o.keeps u.o.keeps (by decide),u.o.below K.o (by omega)⟩
end Go.Proofs.YtnhmoibjlakhjaaGreat
