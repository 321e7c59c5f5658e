/- Lemmas, each under its own conditions. -/
import Derived.Test.YtnhmoibjlakhjaaGreatW33
import Derived.Test.YtnhmoibjlakhjaaGreatW37
set_option linter.all false
namespace Go.Proofs.YtnhmoibjlakhjaaGreat
open Go.Proofs.Tryz
open Lib (hid)
set_option maxRecDepth 100000
set_option maxHeartbeats 16000000
open Go.RowKit
open Lib (hid)
theorem Jz (t:Tb)(X:oA)(x:Nat)(Y:oA)(y:Nat)(row:List Vl)(B:oA)(m:Nat)(w:World)(hX:rA w Zz (t.Z3.map Cl.da) X)(hY:rA w YF (t.ZW.map Ru.da) Y)(hB:rA w Zh (row.map Vl.da) B)(ht:t.Zo 1099511627776):
  cQ 20 #[.agg #[sT t.Z9,sT t.name,sT t.ZN,.slice X t.Z3.length x,.slice Y t.ZW.length y],.slice B row.length m] w fun e w'=>e= .returned (i6 (VU t row))/\Bw w w':=by
 have HX:=hid hX;have HY:=hid hY;have HB:=hid hB;have HT:=hid ht;have aG:=ht.1;have bc:=ht.2.1;have aV:=iN 73 5;have aL:=iN 64 3;clear hX hY hB ht;have B0:Hid (ZP (w.alloc (.cells #[sT t.Z9,sT t.name,sT t.ZN,sl X t.Z3 x,sl Y t.ZW y] 73)) w.heap.size 73 [sT t.Z9,sT t.name,sT t.ZN,sl X t.Z3 x,sl Y t.ZW y]):=hid (ZP.new w _ _);go_enter func20,ntmps20
 go_wp2_with (first | (refine lO B0 aV underlying73 ?_) | fail);refine Zi _ fun W T=> ?_
 have au:=bP T;have B1:=nC T;clear T B0;refine(QM t X x Y y W (HX.o.later au.o) (HY.o.later au.o) HT.o).mono ?_
 rintro e d ⟨rfl,hb⟩;have af:=bt au hb;have B2:=bl B1 hb;clear hb au B1
 cases hck:VC t
 ·have HC:Hid (Sq t=1):=hid (by unfold Sq;rw [hck];rfl);have G:Hid (VU t row=1):=hid (by unfold VU;rw [hck];rfl)
  clear hck;rw [HC.o];go_wp2;go_ret;exact⟨by rw [G.o];rfl,af.o⟩
 have HC:Hid (Sq t=0):=hid (by unfold Sq;rw [hck];rfl);have av:=hid hck;clear hck;rw [HC.o];have q3:=ce B2 3;go_wp2_with fail;refine(Pv t.Z3 row X x B m d (HX.o.later af.o) (HB.o.later af.o) aG).mono ?_
 rintro e W3 ⟨rfl,hb⟩;have ag:=bt af hb;have B3:=bl B2 hb;clear hb af B2 q3
 cases hfm:XK t.Z3 row
 ·have G:Hid (VU t row=100):=hid (by unfold VU;rw [av.o,hfm];rfl);clear hfm;go_wp2;go_ret;exact⟨by rw [G.o];rfl,ag.o⟩
 have HF:=hid hfm;clear hfm;have q3:=ce B3 3;go_wp2_with fail;refine(Qe NO 62 t.Z3 row X x B m W3 (enters_of func62 (by kernel_rfl) rfl) (HX.o.later ag.o) (HB.o.later ag.o) aG Hz).mono ?_
 rintro e W4 ⟨rfl,hb⟩;have ax:=bt ag hb;have B4:=bl B3 hb;clear hb ag B3 q3
 cases O:XO NO t.Z3 row
 ·have G:Hid (VU t row=101):=hid (by unfold VU;rw [av.o,HF.o,O];rfl);clear O;go_wp2;go_ret;exact⟨by rw [G.o];rfl,ax.o⟩
 have G:Hid (VU t row=if(t.ZW.any (S7 t row))=true then 102 else 0):=hid (by unfold VU;rw [av.o,HF.o,O];rfl);clear O;have q4:=ce B4 4;go_wp2;clear q4;go_loopw [27] (fun i wr=> ∃ j:Nat,j<=t.ZW.length/\i=i6 j/\Hid (Bw w wr)/\Hid (ZP wr w.heap.size 73 [sT t.Z9,sT t.name,sT t.ZN,sl X t.Z3 x,sl Y t.ZW y])/\Hid (t.ZW.any (S7 t row)=(t.ZW.drop j).any (S7 t row))) (fun i _=>t.ZW.length - (intOf i).toNat)
 case atStart=>exact⟨0,Nat.zero_le _,rfl,ax,B4,hid rfl⟩
 case round=>
  clear ax B4;obtain⟨j,hj,rfl,aq,BT,HE⟩:=hrel;by_cases hlt:j<t.ZW.length
  ·have L:(j:Int)< (t.ZW.length:Int):=by omega
   obtain⟨ad,vs,rfl,hv,hr⟩:=(HY.o.below aq.o).at_ (j:=j) (by simpa using hlt);have aj:Hid (t.ZW.any (S7 t row)=(S7 t row t.ZW[j] ||(t.ZW.drop (j+1)).any (S7 t row))):=hid (HE.o.trans (by rw [List.drop_eq_getElem_cons hlt,List.any_cons]));obtain⟨nm,ns,pl,aR,aO,aU⟩:=KR av.o (List.getElem_mem hlt);rw [List.getElem_map] at hv;generalize t.ZW[j]=r at*;obtain⟨ca,cn,rfl,aQ,_⟩:=Ru.YY hv;have aW:Hid ((prog.info? 40).map (·.size)=some ([sT r.name,i6 r.ZV,sl ca r.Z3 cn,i6 r.low,i6 r.ZB,sT r.Z9,sT r.ZZ,sT r.key]:lV).length):=iN _ 8;have D:Hid (∀ i u,([sT r.name,i6 r.ZV,sl ca r.Z3 cn,i6 r.low,i6 r.ZB,sT r.Z9,sT r.ZZ,sT r.key]:lV)[i]?=some u->wr.cell? ((ad.add (j*8)).add i)=some u):=hid fun i u hi=>by rw [ZG];exact hr i u hi
   have ay:=hid aQ;have ao:=hid aO;have aA:Hid (pl<t.Z3.length):=hid aU;have N:=hid aR;clear hv hr aQ aO aU aR;go_upto_region 10 with (first | (with_reducible refine ZK rfl 40 _ rfl (ad.add (j*8)) rfl [sT r.name,i6 r.ZV,sl ca r.Z3 cn,i6 r.low,i6 r.ZB,sT r.Z9,sT r.ZZ,sT r.key] _ D.o underlying40 rfl aW.o ?_) | fail)
   refine Wh _ fun d T=> ?_
   have aw:=bP T;have E1:=nC T;have ae:=bl BT aw.o;have Z:=bt aq aw.o;have aa:=hid (ay.o.below (aw.o.mono aq.o.size));clear T D BT aw;generalize wr.heap.size=q at*;have e1:=ce E1 1
   cases hk3:(r.ZV != 3)
   case true=>
    have ak:(r.ZV == 3)=false:=by simpa [bne] using hk3
    have J:Hid (t.ZW.any (S7 t row)=(t.ZW.drop (j+1)).any (S7 t row)):=hid (by rw [aj.o];unfold S7;rw [ak];rfl);clear aj HE ay aa ao aA N E1 ak;go_wp2;go_roundw
    case rel=>exact⟨j+1,by omega,by go_num,Z,ae,J⟩
    case measure=>simp [intOf];omega
   have ak:(r.ZV == 3)=true:=by simpa [bne] using hk3
   have am:row.length=t.Z3.length:=Yd HF.o;have ab:pl<row.length:=by rw [am];exact aA.o
   obtain⟨bd,us,rfl,hu,hq⟩:=(HB.o.below Z.o).at_ (j:=pl) (by simpa using ab);obtain⟨nd,be,aZ,hn,aT⟩:=aa.o.at_ (j:=0) (by simp [YV,N.o]);have aS:(YV r.Z3)[0]'(by simp [YV,N.o])= [Da.Z2 nm]:=by simp [YV,N.o]
   rw [aS] at hn;obtain⟨d0,a6,v0,bf,aH,rfl,h0,r0⟩:=hn.cons;injection aH with aH hd2
   subst aH hd2;obtain⟨b0,aE,rfl⟩:=h0.T0;injection aE with aE
   subst aE;have aI:d.cell? nd=some (sT nm):=aT 0 _ rfl;have an:row[pl]?=some row[pl]:=List.getElem?_eq_getElem ab
   rw [List.getElem_map] at hu;generalize row[pl]=v at*;obtain rfl:=Vl.YY hu;have I:Hid (S7 t row r=(v.ZV == 2 && (decide (v.num<r.low) || decide (v.num > r.ZB)))):=hid (by unfold S7;rw [ak,N.o];simp only [List.headD_cons,ao.o,an,Bool.true_and]);go_upto_region 11 with fail
   subst aZ;have a7:(0:Int)< (r.Z3.length:Int):=by rw [N.o];simp only [List.length_cons];omega
   have a8:0<r.Z3.length:=by omega
   have bb:(pl:Int)< (row.length:Int):=by omega
   have ba:(0:Int)<=(pl:Int):=by omega
   have aP:(bd.add (pl*3)).block<d.heap.size:=by
    have:=World.block_lt_of_cell? d _ (hq 0 _ rfl);simpa [ZL] using this
   have O:nd.block<d.heap.size:=World.block_lt_of_cell? d _ aI;have aM:Hid ((prog.info? 64).map (·.size)=some ([i6 v.ZV,i6 v.num,sT v.word]:lV).length):=iN _ 3;have M:Hid (∀ V,Bw d V->(fun V=>Bw d V/\(V.cell? (aN w 3)=some (sl X t.Z3 x)/\V.cell? (aD q 2)=some (sl (some nd) r.Z3 cn)/\V.cell? nd=some (sT nm))/\ ∀ i u,([i6 v.ZV,i6 v.num,sT v.word]:lV)[i]?=some u->V.cell? ((bd.add (pl*3)).add i)=some u) V):=hid fun V h=>⟨h,⟨(ae.o.below h ae.o.lt).cell 3,(E1.o.below h E1.o.lt).cell 2,(h.cell O).trans aI⟩,fun i u hi=>(h.cell (by rw [ZL];simpa [ZL] using aP)).trans (by rw [ZG];exact hq i u hi)⟩
   have az:Hid (∀ V,Bw d V->cQ 63 #[sl X t.Z3 x,sT nm] V fun e w'=>e= .returned (i6 (pl:Int))/\Bw V w'):=hid fun V h=>by
    have h1:=NL t.Z3 X x nm V (HX.o.later (Z.o.trans (h.mono Z.o.size))) aG;rw [ao.o] at h1;exact h1
   clear hk3 ak am ab aT an hu hq aP O aI e1 r0 h0 hn aS;refine' Fb (F:=fun p V=>Hid (ZP V p 64 [i6 v.ZV,i6 v.num,sT v.word])/\Hid (Bw d V)/\Hid (d.heap.size<=p)) (fun key=>_) _
   rotate_left
   ·refine wp_region_held_drew (S:=fun V=>Bw d V/\(V.cell? (aN w 3)=some (sl X t.Z3 x)/\V.cell? (aD q 2)=some (sl (some nd) r.Z3 cn)/\V.cell? nd=some (sT nm))/\ ∀ i u,([i6 v.ZV,i6 v.num,sT v.word]:lV)[i]?=some u->V.cell? ((bd.add (pl*3)).add i)=some u) (by kernel_rfl) (M.o _ br.drew) (fun s=> ?_)
    (try simp only [pp]);refine tk 0 34 s ?_;refine tk 1 35 s ?_;refine tk 2 36 s ?_;refine tk 3 37 s ?_;refine tk 4 38 s ?_;refine tk 5 39 s ?_;refine tk 6 40 s ?_;have aF:Bw d d.drew:=br.drew
    refine wpAnyH_ready (rs:= [7,10]) (by kernel_rfl) (by simp) ?_
    refine AllReadyH.cons (o:=⟨some 41,_,_,_,_,_⟩) rfl (fun K C=> ?_) (AllReadyH.cons (o:=⟨some 7,_,_,_,_,_⟩) rfl (fun K C=> ?_) AllReadyH.nil)
    ·go_simp;refine(az.o d.drew aF).mono ?_
     rintro e V1 ⟨rfl,hb⟩;have L:Bw d V1:=(aF).trans (hb.mono (aF).size);refine C.out _ _ (M.o _ L) (fun s=> ?_);clear C K;(try simp only [pp])
     refine tk 8 42 s ?_;refine tv 9 43 rfl s (Zg (by rfl) _ _ rfl (bd.add (pl*3)) rfl [i6 v.ZV,i6 v.num,sT v.word] _ (fun _ h=>h.2.2) underlying64 rfl aM.o) ?_
     refine on 10 7 fun K C=> ?_
     go_simp;have E:=hid (L.alloc L.size (.cells #[i6 0,i6 0,s0] 64));have ai:=hid L.size;have D:=hid (ZP.new V1 64 [i6 0,i6 0,s0]);generalize V1.alloc (.cells #[i6 0,i6 0,s0] 64)=Va at*;generalize V1.heap.size=p at*;refine C.out _ _ (M.o _ E.o) (fun s=> ?_);clear C K;(try simp only [pp])
     refine SR 11 fun K C=> ?_
     refine Zk rfl 64 _ _ rfl p [i6 v.ZV,i6 v.num,sT v.word] rfl rfl D rfl rfl aL (by simp [Value.oneCell']) ?_
     intro w9 U;have ah:=hid (U.o.below E.o ai.o);refine C.out _ _ (M.o _ ah.o) (fun s=> ?_);clear C K;(try simp only [pp])
     refine wpAnyH_done (by kernel_rfl) ?_ _
     exact key p w9 ⟨hid U.o.YK,ah,ai⟩
    ·go_simp;obtain⟨p,hp⟩: ∃ p,p=d.heap.size:=⟨_,rfl⟩
     have E:Hid (Below d.heap.size d (d.alloc (.cells #[i6 0,i6 0,s0] 64)).drew):=hid (br.alloc lr (.cells #[i6 0,i6 0,s0] 64)).drew;have ai:Hid (d.heap.size<=p):=hid (by rw [hp];exact Nat.le_refl _);have D:Hid (ZP (d.alloc (.cells #[i6 0,i6 0,s0] 64)).drew p 64 [i6 0,i6 0,s0]):=hid (by rw [hp];exact(ZP.new d 64 [i6 0,i6 0,s0]).drew);generalize hVA:(d.alloc (.cells #[i6 0,i6 0,s0] 64)).drew=Va at*;rw [<-hp];clear hp hVA;refine C.out _ _ (M.o _ E.o) (fun s=> ?_);clear C K;(try simp only [pp])
     refine on 7 41 fun K C=> ?_
     go_simp;refine(az.o Va E.o).mono ?_
     rintro e V1 ⟨rfl,hb⟩;have L:Bw d V1:=(E.o).trans (hb.mono (E.o).size);have aK:=bl D hb;clear D E;have D:=aK;have E:=hid L;refine C.out _ _ (M.o _ L) (fun s=> ?_);clear C K aK;(try simp only [pp])
     refine tk 8 42 s ?_;refine tv 9 43 rfl s (Zg (by rfl) _ _ rfl (bd.add (pl*3)) rfl [i6 v.ZV,i6 v.num,sT v.word] _ (fun _ h=>h.2.2) underlying64 rfl aM.o) ?_
     refine SR 11 fun K C=> ?_
     refine Zk rfl 64 _ _ rfl p [i6 v.ZV,i6 v.num,sT v.word] rfl rfl D rfl rfl aL (by simp [Value.oneCell']) ?_
     intro w9 U;have ah:=hid (U.o.below E.o ai.o);refine C.out _ _ (M.o _ ah.o) (fun s=> ?_);clear C K;(try simp only [pp])
     refine wpAnyH_done (by kernel_rfl) ?_ _
     exact key p w9 ⟨hid U.o.YK,ah,ai⟩
   ·rintro p V ⟨D,ar,aX⟩;have ap:=bt Z ar.o;have aJ:=bl ae ar.o;have E3:=bl E1 ar.o;have g0:=ce D 0;have g1:=ce D 1;have l3:=ce E3 3;have l4:=ce E3 4;have J:Hid (S7 t row r=false->t.ZW.any (S7 t row)=(t.ZW.drop (j+1)).any (S7 t row)):=hid fun h=>by rw [aj.o,h];rfl
    have ac:Hid (S7 t row r=true->VU t row=102):=hid fun h=>by rw [G.o,aj.o,h];rfl
    clear ar aX aj HE M az E1 ae Z G ao aA N ay aa D E3
    cases hk2:(v.ZV == 2)
    ·have aC:=hid (J.o (by rw [I.o,hk2];rfl));clear J ac I;go_wp2;go_roundw
     case rel=>exact⟨j+1,by omega,by go_num,ap,aJ,aC⟩
     case measure=>simp [intOf];omega
    by_cases hlo:v.num<r.low
    ·have aB:=hid (ac.o (by rw [I.o,hk2,decide_eq_true hlo];rfl));clear J ac I;go_wp2;go_ret;exact⟨by rw [aB.o];rfl,ap.o⟩
    by_cases hhi:v.num > r.ZB
    ·have aB:=hid (ac.o (by rw [I.o,hk2,decide_eq_true hhi,Bool.or_true];rfl));clear J ac I;go_wp2;go_ret;exact⟨by rw [aB.o];rfl,ap.o⟩
    have aC:=hid (J.o (by rw [I.o,decide_eq_false hlo,decide_eq_false hhi];simp));clear J ac I;go_wp2;go_roundw
    case rel=>exact⟨j+1,by omega,by go_num,ap,aJ,aC⟩
    case measure=>simp [intOf];omega
  ·obtain rfl:j=t.ZW.length:=by omega
   rw [List.drop_length] at HE;have aY:Hid (VU t row=0):=hid (by rw [G.o,HE.o];rfl)
   go_wp2;go_ret;exact⟨by rw [aY.o];rfl,aq.o⟩
theorem RF (l:List Cl)(A:oA)(k:Nat)(w:World)(s:rA w Zz (l.map Cl.da) A)(u:l.length<=1099511627776):
  cQ 110 #[.slice A l.length k] w fun e w'=>e= .returned (.bool (Wp l))/\Bw w w':=by
 have m:Hid (cQ 59 #[.agg #[s0,s0,s0,sl A l k,sN]] w fun e w'=>e= .returned (.int .i64 (Sq ⟨[],[],[],l,[]⟩))/\Bw w w'):=hid (QM ⟨[],[],[],l,[]⟩ A k none 0 w s ZT.nil ⟨u,Nat.zero_le _,fun r C=>by cases C⟩);clear s;go_enter func110,ntmps110
 go_wp2_with fail;refine m.o.mono ?_
 rintro e D ⟨rfl,hb⟩;have j:=hid hb;clear m hb
 cases hck:VC ⟨[],[],[],l,[]⟩
 ·have d:Hid (Sq ⟨[],[],[],l,[]⟩=1):=hid (by unfold Sq;rw [hck];rfl);have h:Hid (Wp l=false):=hid hck;clear hck;rw [d.o];go_wp2;go_ret;exact⟨by rw [h.o];rfl,j.o⟩
 ·have d:Hid (Sq ⟨[],[],[],l,[]⟩=0):=hid (by unfold Sq;rw [hck];rfl);have h:Hid (Wp l=true):=hid hck;clear hck;rw [d.o];go_wp2;go_ret;exact⟨by rw [h.o];rfl,j.o⟩
theorem SH:(prog.info? 64).map (fun i=>(i.zero,i.size,i.bytes))=some (some (.agg #[i6 0,i6 0,s0]),3,32):=by kernel_rfl
theorem Gp (l F:List Cl)(row:List Vl)(A:Option Addr)(k:Nat)(A':Option Addr)(k':Nat)(B:Option Addr)(m:Nat)(w:World)(hA:ZT w (· < w.heap.size) Zz (l.map Cl.da) A)(aG:ZT w (· < w.heap.size) Zz (F.map Cl.da) A')(hB:ZT w (· < w.heap.size) Zh (row.map Vl.da) B)(hl:l.length<=1099511627776)(aR:F.length<=1099511627776)
  (h1:Wp l=true) (h2:Wp F=true) (h3:XK l row=true):
  Calls prog 50 #[.slice A l.length k,.slice A' F.length k',.slice B row.length m] w fun e w'=> ∃ R c,e= .returned (.tuple #[.slice R F.length c,.int .i64 0])/\w'.ownsRow w.heap.size 64 3 (.slice R F.length c) F.length ((Vz l F row).flatMap Vl.cs)/\Below w.heap.size w w':=by
 obtain⟨i0,av,ax,ay,az⟩:=info_parts SH;have HA:=hid hA;have aA:=hid aG;have HB:=hid hB;have H1:=hid h1;have H2:=hid h2;have H3:=hid h3;have am:=iN 64 3;have aT:=iN 119 3;clear hA aG hB h1 h2 h3;go_enter func50,ntmps50
 go_wp2_with fail;refine(RF l A k w HA.out hl).mono ?_
 rintro e W1 ⟨rfl,hb⟩;have aa:=hid hb;clear hb;rw [H1.out];go_wp2_with fail;refine(RF F A' k' W1 (aA.out.later aa.out) aR).mono ?_
 rintro e W2 ⟨rfl,hb⟩;have ak:=bt aa hb;clear hb aa;rw [H2.out];go_wp2_with fail;refine(Pv l row A k B m W2 (HA.out.later ak.out) (HB.out.later ak.out) hl).mono ?_
 rintro e W3 ⟨rfl,hb⟩;have aB:=bt ak hb;clear hb ak;rw [H3.out];have aC:=hid (World.ownsRow_nil W3 w.heap.size 64 3);go_wp2;go_loopw [8,29] (fun v8 aS wr=> ∃ (j:Nat) (R:Option Addr) (L:Nat),j<=F.length/\v8= .slice R j L/\aS= .int .i64 j/\Hid (Below w.heap.size w wr)/\Hid (wr.ownsRow w.heap.size 64 3 (.slice R j L) j ((Vz l (F.take j) row).flatMap Vl.cs))) (fun _ i _=>F.length - (intOf i).toNat)
 case atStart=>exact⟨0,none,0,Nat.zero_le _,rfl,rfl,aB,hid (by simpa [Vz] using aC.out)⟩
 case round=>
  clear aB aC;obtain⟨j,R,L,hj,rfl,rfl,ae,HO⟩:=hrel;by_cases hlt:j<F.length
  ·have aU:(j:Int)< (F.length:Int):=by omega
   obtain⟨ad,vs,rfl,hv,hr⟩:=(aA.out.below ae.out).at_ (j:=j) (by simpa using hlt);have aq:Hid (F.take j ++ [F[j]]=F.take (j+1)):=hid (List.take_succ_eq_append_getElem hlt).symm;rw [List.getElem_map] at hv;generalize F[j]=c at*;obtain rfl:=Cl.YY hv;have HG:Hid (∀ i u,([.string (Z2 c.name),.int .i64 c.ZV,.bool c.null]:List Value)[i]?=some u->wr.cell? ((ad.add (j*3)).add i)=some u):=hid fun i u hi=>by rw [ZG];exact hr i u hi
   have aM:Hid ((prog.info? 119).map (·.size)=some ([.string (Z2 c.name),.int .i64 c.ZV,.bool c.null]:List Value).length):=iN _ 3;clear hv hr;go_upto_region 10 with (first | (with_reducible refine ZK rfl 119 _ rfl (ad.add (j*3)) rfl [.string (Z2 c.name),.int .i64 c.ZV,.bool c.null] _ HG.out underlying119 rfl aM.out ?_) | fail)
   refine Wh _ fun V hW=> ?_
   have ar:=bQ hW;have Q1:Hid (ZP V wr.heap.size 119 [.string (Z2 c.name),.int .i64 c.ZV,.bool c.null]):=nD hW;have V1:Hid (ZP V (wr.heap.size+1) 64 [.int .i64 1,.int .i64 0,.string ⟨#[]⟩]):=nF hW;have aa:=bt ae ar.out;have aE:=hid (HO.out.ZC ar.out);have aX:=ae.out.size;have aP:Hid (∀ x,(Value.slice R j L).ownBlock=some x->x<wr.heap.size):=hid fun x K=>YB HO.out K
   clear hW HG ar ae HO;generalize wr.heap.size=q at*;have q0:=ce Q1 0;go_wp2_with fail;refine(NL l A k c.name V (HA.out.later aa.out) hl).mono ?_
   rintro e C ⟨rfl,hb⟩;have Q2:=bl Q1 hb;have V3:=bl V1 hb;have E:=bt aa hb;have G:=hid (aE.out.ZC hb);clear hb Q1 V1 aa aE q0;go_upto_region 11 with fail
   have I:=hid (Below.refl C.heap.size C).drew
   cases hca:Y7 l c.name with
   | none=>
    have an:=hid hca;clear hca;rw [show WS none= -1 from rfl];refine wp_region_held_drew (S:=fun D=>Below C.heap.size C D) (by kernel_rfl) I.out (fun s=> ?_)
    (try simp only [pp]);refine tk 0 38 s ?_;refine tb 1 39 (.bool false) s ?_;refine tk 2 40 s ?_;refine sk 3 41 s ?_;refine sk 4 42 s ?_;refine sk 5 43 s ?_;refine sk 6 44 s ?_;refine sk 7 45 s ?_;refine sk 8 46 s ?_;refine sk 9 47 s ?_;refine sk 10 48 s ?_;refine tk 11 49 s ?_;refine wpAnyH_done (by kernel_rfl) ?_ _
    have V4:=bl V3 I.out;have T:=bt E I.out;have Z:=hid (G.out.ZC I.out);clear E G V3 Q2;have E:=T;have G:=Z;generalize C.drew=W4 at*;have M:Hid (Below w.heap.size w (W4.alloc (.cells #[.int .i64 1,.int .i64 0,.string ⟨#[]⟩] 64))):=hid (E.out.alloc E.out.size _);have N:=hid (G.out.ZC (br.alloc (Nat.le_refl W4.heap.size) (.cells #[.int .i64 1,.int .i64 0,.string ⟨#[]⟩] 64)));have af:Hid (ZP (W4.alloc (.cells #[.int .i64 1,.int .i64 0,.string ⟨#[]⟩] 64)) W4.heap.size 64 [.int .i64 1,.int .i64 0,.string ⟨#[]⟩]):=hid (ZP.new W4 _ _);have O:w.heap.size<=(W4.alloc (.cells #[.int .i64 1,.int .i64 0,.string ⟨#[]⟩] 64)).heap.size:=M.out.size;have ai:Hid (RC l row c=⟨1,0,[]⟩):=hid (by unfold RC;rw [an.out]);go_wp2_with (first | (refine lO V4 am underlying64 ?_) | (at_builtin;refine Zb rfl _ _ _ rfl w.heap.size 64 i0 _ 3 32 underlying61 av ax ay az rfl (by decide) (.slice R j L) j _ rfl N.out ⟨W4.heap.size,0,none⟩ 1 1 [.int .i64 1,.int .i64 0,.string ⟨#[]⟩] rfl rfl (ZP.news af.out) (by simp [Value.oneCell']) (by unfold maxLen;omega) (by omega) O ?_;intro A7 c7 w7 ag aj) | fail);have ab:Hid (Below w.heap.size w w7):=hid (M.out.grown aj.out O (ZD N.out));go_roundw
    case rel=>exact⟨j+1,A7,c7,by omega,rfl,by go_num,ab,hid (by have h:=ag.out;rw [<-aq.out,Vz,List.map_append,List.flatMap_append];simpa [Vz,ai.out,Vl.cs,Z2] using h)⟩
    case measure=>simp [intOf];omega
   | some i=>
    have an:=hid hca;have aw:i<l.length:=(VV hca).1;have Qu:i<row.length:=by have:=Yd H3.out;omega
    clear hca;rw [show WS (some i)=(i:Int) from rfl];have aV:(i:Int)< (l.length:Int):=by omega
    have aW:(i:Int)< (row.length:Int):=by omega
    have aQ:(0:Int)<=(i:Int):=by omega
    obtain⟨da,ds,eA,hd,aJ⟩:=(HA.out.below E.out).at_ (j:=i) (by simpa using aw);obtain⟨bd,us,eB,hu,hq⟩:=(HB.out.below E.out).at_ (j:=i) (by simpa using Qu);subst eA;subst eB;have aK:l[i]?=some l[i]:=List.getElem?_eq_getElem aw
    have aL:row[i]?=some row[i]:=List.getElem?_eq_getElem Qu
    rw [List.getElem_map] at hd hu;generalize l[i]=d at*;generalize row[i]=v at*;obtain rfl:=Cl.YY hd;obtain rfl:=Vl.YY hu;have aF:Hid (RC l row c=if(d.ZV == c.ZV)=true then v else⟨1,0,[]⟩):=hid (by unfold RC;simp only [an.out,aK,aL]);have au:=ef (m:=i*3) aJ 1;have aI:(da.add (i*3)).block<C.heap.size:=by
     have h:=World.block_lt_of_cell? C _ au;exact h
    have aH:(bd.add (i*3)).block<C.heap.size:=by
     have:=World.block_lt_of_cell? C _ (hq 0 _ rfl);simpa [ZL] using this
    have aO:Hid ((prog.info? 64).map (·.size)=some ([.int .i64 v.ZV,.int .i64 v.num,.string (Z2 v.word)]:List Value).length):=iN _ 3;have HQ:Hid (∀ D,Below C.heap.size C D-> ∀ x u,([.int .i64 v.ZV,.int .i64 v.num,.string (Z2 v.word)]:List Value)[x]?=some u->D.cell? ((bd.add (i*3)).add x)=some u):=hid fun D h x u K=>(h.cell (by rw [ZL];exact aH)).trans (by rw [ZG];exact hq x u K)
    have HS:Hid (∀ D,Below C.heap.size C D->(fun D=>Below C.heap.size C D/\D.cell? ⟨q,1,none⟩=some (.int .i64 c.ZV)/\D.cell? ⟨(da.add (i*3)).block,(da.add (i*3)).off+1,none⟩=some (.int .i64 d.ZV)) D):=hid fun D h=>⟨h,(Q2.out.below h Q2.out.lt).cell 1,ct au h aI⟩
    clear aw Qu aK aL hd hu aJ hq au aI aH
    cases hkk:(d.ZV == c.ZV)
    ·have ao:=hid hkk;refine wp_region_held_drew (S:=fun D=>Below C.heap.size C D/\D.cell? ⟨q,1,none⟩=some (.int .i64 c.ZV)/\D.cell? ⟨(da.add (i*3)).block,(da.add (i*3)).off+1,none⟩=some (.int .i64 d.ZV)) (by kernel_rfl) (HS.out _ I.out) (fun s=> ?_)
     (try simp only [pp]);refine tk 0 38 s ?_;refine tb 1 39 (.bool true) s ?_;refine tk 2 40 s ?_;refine tk 3 41 s ?_;refine tk 4 42 s ?_;refine tk 5 43 s ?_;refine tk 6 44 s ?_;refine tk 7 45 s ?_;refine tk 8 46 s ?_;refine tk 9 47 s ?_;refine tk 10 48 s ?_;refine tk 11 49 s ?_;refine wpAnyH_done (by kernel_rfl) ?_ _
     have V4:=bl V3 I.out;have T:=bt E I.out;have Z:=hid (G.out.ZC I.out);have ap:=hid fun x u K=>HQ.out C.drew I.out x u K
     clear E G V3 Q2 HS HQ;have E:=T;have G:=Z;clear T Z;generalize C.drew=W4 at*;clear hkk;have M:Hid (Below w.heap.size w (W4.alloc (.cells #[.int .i64 1,.int .i64 0,.string ⟨#[]⟩] 64))):=hid (E.out.alloc E.out.size _);have N:=hid (G.out.ZC (br.alloc (Nat.le_refl W4.heap.size) (.cells #[.int .i64 1,.int .i64 0,.string ⟨#[]⟩] 64)));have af:Hid (ZP (W4.alloc (.cells #[.int .i64 1,.int .i64 0,.string ⟨#[]⟩] 64)) W4.heap.size 64 [.int .i64 1,.int .i64 0,.string ⟨#[]⟩]):=hid (ZP.new W4 _ _);have O:w.heap.size<=(W4.alloc (.cells #[.int .i64 1,.int .i64 0,.string ⟨#[]⟩] 64)).heap.size:=M.out.size;have ai:Hid (RC l row c=⟨1,0,[]⟩):=hid (by rw [aF.out,ao.out];rfl)
     go_wp2_with (first | (refine lO V4 am underlying64 ?_) | (at_builtin;refine Zb rfl _ _ _ rfl w.heap.size 64 i0 _ 3 32 underlying61 av ax ay az rfl (by decide) (.slice R j L) j _ rfl N.out ⟨W4.heap.size,0,none⟩ 1 1 [.int .i64 1,.int .i64 0,.string ⟨#[]⟩] rfl rfl (ZP.news af.out) (by simp [Value.oneCell']) (by unfold maxLen;omega) (by omega) O ?_;intro A7 c7 w7 ag aj) | fail);have ab:Hid (Below w.heap.size w w7):=hid (M.out.grown aj.out O (ZD N.out));go_roundw
     case rel=>exact⟨j+1,A7,c7,by omega,rfl,by go_num,ab,hid (by have h:=ag.out;rw [<-aq.out,Vz,List.map_append,List.flatMap_append];simpa [Vz,ai.out,Vl.cs,Z2] using h)⟩
     case measure=>simp [intOf];omega
    ·have ao:=hid hkk;refine wp_region_held_drew (S:=fun D=>Below C.heap.size C D/\D.cell? ⟨q,1,none⟩=some (.int .i64 c.ZV)/\D.cell? ⟨(da.add (i*3)).block,(da.add (i*3)).off+1,none⟩=some (.int .i64 d.ZV)) (by kernel_rfl) (HS.out _ I.out) (fun s=> ?_)
     (try simp only [pp]);refine tk 0 38 s ?_;refine tb 1 39 (.bool true) s ?_;refine tk 2 40 s ?_;refine tk 3 41 s ?_;refine tk 4 42 s ?_;refine tk 5 43 s ?_;refine tk 6 44 s ?_;refine tk 7 45 s ?_;refine tk 8 46 s ?_;refine tk 9 47 s ?_;refine tk 10 48 s ?_;refine tk 11 49 s ?_;refine wpAnyH_done (by kernel_rfl) ?_ _
     have V4:=bl V3 I.out;have T:=bt E I.out;have Z:=hid (G.out.ZC I.out);have ap:=hid fun x u K=>HQ.out C.drew I.out x u K
     clear E G V3 Q2 HS HQ;have E:=T;have G:=Z;clear T Z;generalize C.drew=W4 at*;clear hkk;go_upto_region 13 with (first | (with_reducible refine ZK rfl 64 _ rfl (bd.add (i*3)) rfl [.int .i64 v.ZV,.int .i64 v.num,.string (Z2 v.word)] _ ap.out underlying64 rfl aO.out ?_) | ((refine sO V4 am ?_);intro J U) | fail)
     have ac:Hid (Below w.heap.size w J):=hid (U.out.below E.out (by omega));have ah:Hid (J.ownsRow w.heap.size 64 3 (.slice R j L) j ((Vz l (F.take j) row).flatMap Vl.cs)):=hid (Y9 G.out fun x K=>U.out.WT x (by have:=aP.out x K;omega))
     have V5:=hid U.out.YK;clear E G V4 U ap;have E:=ac;have G:=ah;clear ac ah;have M:Hid (Below w.heap.size w (J.alloc (.cells #[.int .i64 v.ZV,.int .i64 v.num,.string (Z2 v.word)] 64))):=hid (E.out.alloc E.out.size _);have N:=hid (G.out.ZC (br.alloc (Nat.le_refl J.heap.size) (.cells #[.int .i64 v.ZV,.int .i64 v.num,.string (Z2 v.word)] 64)));have af:Hid (ZP (J.alloc (.cells #[.int .i64 v.ZV,.int .i64 v.num,.string (Z2 v.word)] 64)) J.heap.size 64 [.int .i64 v.ZV,.int .i64 v.num,.string (Z2 v.word)]):=hid (ZP.new J _ _);have O:w.heap.size<=(J.alloc (.cells #[.int .i64 v.ZV,.int .i64 v.num,.string (Z2 v.word)] 64)).heap.size:=M.out.size;have ai:Hid (RC l row c=v):=hid (by rw [aF.out,ao.out];rfl)
     go_wp2_with (first | (refine lO V5 am underlying64 ?_) | (at_builtin;refine Zb rfl _ _ _ rfl w.heap.size 64 i0 _ 3 32 underlying61 av ax ay az rfl (by decide) (.slice R j L) j _ rfl N.out ⟨J.heap.size,0,none⟩ 1 1 [.int .i64 v.ZV,.int .i64 v.num,.string (Z2 v.word)] rfl rfl (ZP.news af.out) (by simp [Value.oneCell']) (by unfold maxLen;omega) (by omega) O ?_;intro A7 c7 w7 ag aj) | fail);have ab:Hid (Below w.heap.size w w7):=hid (M.out.grown aj.out O (ZD N.out));go_roundw
     case rel=>exact⟨j+1,A7,c7,by omega,rfl,by go_num,ab,hid (by have h:=ag.out;rw [<-aq.out,Vz,List.map_append,List.flatMap_append];simpa [Vz,ai.out,Vl.cs,Z2] using h)⟩
     case measure=>simp [intOf];omega
  ·obtain rfl:j=F.length:=by omega
   rw [List.take_length] at HO;go_wp2;go_ret2;exact⟨R,L,rfl,HO.out,ae.out⟩
abbrev X3:=List Vl×oA×Nat
def X3.cs (r:X3):lV:= [.slice r.2.1 r.1.length r.2.2]
theorem X3.k (x:X3):(X3.cs x).length=1:=rfl
theorem X3.one (x:X3): ∀ v∈X3.cs x,v.oneCell'=true:=by simp [X3.cs,Value.oneCell']
theorem KK (a b:Vl)(w:World):(binOp .eql 64 (.agg #[i6 a.ZV,i6 a.num,sT a.word]) (.agg #[i6 b.ZV,i6 b.num,sT b.word])).run prog w= .ok (.bool (a == b)) w:=by
 have u:=underlying64;have s:=underlying9;have j:=underlying62;have h:=underlying3;have m:prog.stoodInHeld 64=false:=by kernel_rfl
 rw [run_eql_struct];go_simp;have d:(a == b)=decide (a.ZV=b.ZV/\a.num=b.num/\a.word=b.word):=by
  rw [Bool.eq_iff_iff]
  cases a;cases b
  simp
 rw [d];repeat' split
 all_goals simp_all
theorem Jm (a b:Vl)(w:World):(binOp .neq 64 (.agg #[i6 a.ZV,i6 a.num,sT a.word]) (.agg #[i6 b.ZV,i6 b.num,sT b.word])).run prog w= .ok (.bool (!(a == b))) w:=by
 have u:=underlying64;have s:=underlying9;have j:=underlying62;have h:=underlying3;have m:prog.stoodInHeld 64=false:=by kernel_rfl
 rw [run_neq_struct];go_simp;have d:(a == b)=decide (a.ZV=b.ZV/\a.num=b.num/\a.word=b.word):=by
  rw [Bool.eq_iff_iff]
  cases a;cases b
  simp
 rw [d];repeat' split
 all_goals simp_all
theorem TN (A:oA)(c:Nat)(l:List Vl)(w:World)(h:Zj w w.heap.size A Vl.cs l)(hl:l.length<=1099511627776):
  cQ 114 #[.slice A l.length c] w fun e w'=> ∃ C D,e= .returned (.slice C l.length D)/\w'.ownsRow w.heap.size 64 3 (.slice C l.length D) l.length (l.flatMap Vl.cs)/\Bw w w':=by
 obtain⟨i0,J,K,L,M⟩:=info_parts SH;have m:=hid h;clear h
 cases A with
 | none=>
  obtain rfl:l= []:=by
   rcases Nat.eq_zero_or_pos l.length with d | d
   ·exact List.eq_nil_of_length_eq_zero d
   ·obtain⟨j,s,_⟩:=m.o d
    cases s
  have kn: ∀ w,(binOp .eql 61 (.slice none 0 c) (.slice none 0 0)).run prog w= .ok (.bool true) w:=fun w=>Lib.run_eql_slice_nil w _ _ _ _ _ _ _ underlying61
  go_enter func114,ntmps114
  go_wp2;go_ret;exact⟨none,0,rfl,Xv _,Below.refl _ _⟩
 | some j=>
  have kn: ∀ w,(binOp .eql 61 (.slice (some j) l.length c) (.slice none 0 0)).run prog w= .ok (.bool false) w:=fun w=>Lib.run_eql_slice_nil w _ _ _ _ _ _ _ underlying61
  have U:Hid (∀ (i:Nat) (u:Value),(l.flatMap Vl.cs)[i]?=some u->(w.alloc (.cells #[] 64)).cell? (j.add i)=some u):=hid (by
   intro i u E;have d:0<l.length:=by
    have:=(List.getElem?_eq_some_iff.1 E).1;rw [Zm Vl.k] at this;rcases Nat.eq_zero_or_pos l.length with d | d
    ·rw [d] at this;omega
    ·exact d
   obtain⟨aa,e,V,s⟩:=m.o d;injection e with e
   subst e;rw [World.cell?_alloc_lt w _ _ (by rw [ZL];exact V)];exact s i u E)
  have O:=hid (Zm Vl.k l);have T:=hid (Yg Vl.one l);clear m;generalize l.flatMap Vl.cs=xs at*;generalize l.length=n at*;go_enter func114,ntmps114
  go_wp2_with (at_builtin;refine Zb rfl _ _ _ rfl w.heap.size 64 i0 _ 3 32 underlying61 J K L M rfl (by decide) (.slice (some (aD w.heap.size 0)) 0 0) 0 [] rfl (WV w _ _ _ lr) j n c xs rfl O.o U.o T.o (by unfold maxLen;omega) (by omega) (by simp) ?_;intro N c3 w3 G I);have F:Hid (Bw w w3):=hid (Below.grown ((Below.refl w.heap.size w).alloc lr _) I.o (by simp) (fun k Z=>by simp [Value.ownBlock] at Z;omega))
  go_ret;refine⟨N,c3,rfl,?_,F.o⟩
  have h:=G.o;rwa [Nat.zero_add,List.nil_append] at h
theorem Vo:(prog.info? 61).map (fun i=>(i.zero,i.size,i.bytes))=some (some (sN),1,24):=by kernel_rfl
theorem PR (A:oA)(c:Nat)(l:List X3)(w:World)(h:Zj w w.heap.size A X3.cs l)(hl:l.length<=1099511627776):
  cQ 169 #[.slice A l.length c] w fun e w'=> ∃ C D,e= .returned (.slice C l.length D)/\w'.ownsRow w.heap.size 61 1 (.slice C l.length D) l.length (l.flatMap X3.cs)/\Bw w w':=by
 obtain⟨i0,J,K,L,M⟩:=info_parts Vo;have m:=hid h;clear h
 cases A with
 | none=>
  obtain rfl:l= []:=by
   rcases Nat.eq_zero_or_pos l.length with d | d
   ·exact List.eq_nil_of_length_eq_zero d
   ·obtain⟨j,s,_⟩:=m.o d
    cases s
  have kn: ∀ w,(binOp .eql 67 (.slice none 0 c) (.slice none 0 0)).run prog w= .ok (.bool true) w:=fun w=>Lib.run_eql_slice_nil w _ _ _ _ _ _ _ underlying67
  go_enter func169,ntmps169
  go_wp2;go_ret;exact⟨none,0,rfl,Xv _,Below.refl _ _⟩
 | some j=>
  have kn: ∀ w,(binOp .eql 67 (.slice (some j) l.length c) (.slice none 0 0)).run prog w= .ok (.bool false) w:=fun w=>Lib.run_eql_slice_nil w _ _ _ _ _ _ _ underlying67
  have U:Hid (∀ (i:Nat) (u:Value),(l.flatMap X3.cs)[i]?=some u->(w.alloc (.cells #[] 61)).cell? (j.add i)=some u):=hid (by
   intro i u E;have d:0<l.length:=by
    have:=(List.getElem?_eq_some_iff.1 E).1;rw [Zm X3.k] at this;rcases Nat.eq_zero_or_pos l.length with d | d
    ·rw [d] at this;omega
    ·exact d
   obtain⟨aa,e,V,s⟩:=m.o d;injection e with e
   subst e;rw [World.cell?_alloc_lt w _ _ (by rw [ZL];exact V)];exact s i u E)
  have O:=hid (Zm X3.k l);have T:=hid (Yg X3.one l);clear m;generalize l.flatMap X3.cs=xs at*;generalize l.length=n at*;go_enter func169,ntmps169
  go_wp2_with (at_builtin;refine Zb rfl _ _ _ rfl w.heap.size 61 i0 _ 1 24 underlying67 J K L M rfl (by decide) (.slice (some (aD w.heap.size 0)) 0 0) 0 [] rfl (WV w _ _ _ lr) j n c xs rfl O.o U.o T.o (by unfold maxLen;omega) (by omega) (by simp) ?_;intro N c3 w3 G I);have F:Hid (Bw w w3):=hid (Below.grown ((Below.refl w.heap.size w).alloc lr _) I.o (by simp) (fun k Z=>by simp [Value.ownBlock] at Z;omega))
  go_ret;refine⟨N,c3,rfl,?_,F.o⟩
  have h:=G.o;rwa [Nat.zero_add,List.nil_append] at h
theorem Mf (a b:List Vl)(A:oA)(k:Nat)(B:oA)(m:Nat)(w:World)(hA:rA w Zh (a.map Vl.da) A)(hB:rA w Zh (b.map Vl.da) B)(hn:a.length<=1099511627776):
  cQ 243 #[.slice A a.length k,.slice B b.length m] w fun e w'=>e= .returned (.bool (a == b))/\Bw w w':=by
 have HA:=hid hA;have HB:=hid hB;clear hA hB;by_cases hl:a.length=b.length
 case neg=>
  have N:Hid ((a == b)=false):=hid (by simpa using fun h=>hl (congrArg List.length h));have E:((a.length:Int) !=(b.length:Int))=true:=by simp only [bne_iff_ne,ne_eq];omega
  go_enter func243,ntmps243
  go_wp2;go_ret;exact⟨by rw [N.o];rfl,Below.refl _ _⟩
 go_enter func243,ntmps243
 have E:((a.length:Int) !=(b.length:Int))=false:=by rw [hl];simp
 have ac:=hid hl;clear hl;go_wp2;clear E;go_loopw [13] (fun i wr=> ∃ j:Nat,j<=a.length/\i=i6 j/\Hid (Bw w wr)/\Hid ((a == b)=(a.drop j == b.drop j))) (fun i _=>a.length - (intOf i).toNat)
 case atStart=>exact⟨0,Nat.zero_le _,rfl,hid br,hid rfl⟩
 case round=>
  obtain⟨j,hj,rfl,G,F⟩:=hrel;by_cases hlt:j<a.length
  ·have aa:j<b.length:=by rw [<-ac.o];exact hlt
   have aj:(j:Int)< (b.length:Int):=by omega
   have ai:(j:Int)< (a.length:Int):=by omega
   obtain⟨s,vs,rfl,T,K⟩:=(HA.o.below G.o).at_ (j:=j) (by simpa using hlt);obtain⟨C,us,rfl,O,L⟩:=(HB.o.below G.o).at_ (j:=j) (by simpa using aa);have D:Hid ((a == b)=(a[j] == b[j] && a.drop (j+1) == b.drop (j+1))):=hid (F.o.trans (by rw [List.drop_eq_getElem_cons hlt,List.drop_eq_getElem_cons aa];rfl))
   rw [List.getElem_map] at T O;generalize a[j]=x at*;generalize b[j]=y at*;obtain rfl:=Vl.YY T;obtain rfl:=Vl.YY O;have ae:Hid ((prog.info? 64).map (·.size)=some ([i6 x.ZV,i6 x.num,sT x.word]:lV).length):=iN _ 3;have af:Hid ((prog.info? 64).map (·.size)=some ([i6 y.ZV,i6 y.num,sT y.word]:lV).length):=iN _ 3;have U:(s.add (j*3)).block<wr.heap.size:=by
    have:=World.block_lt_of_cell? wr _ (K 0 _ rfl);simpa [ZL] using this
   have Z:(C.add (j*3)).block<wr.heap.size:=by
    have:=World.block_lt_of_cell? wr _ (L 0 _ rfl);simpa [ZL] using this
   have ag:Hid (∀ V,Bw wr V-> ∀ i u,([i6 x.ZV,i6 x.num,sT x.word]:lV)[i]?=some u->V.cell? ((s.add (j*3)).add i)=some u):=hid fun V h i u E=>(h.cell (by rw [ZL];exact U)).trans (by rw [ZG];exact K i u E)
   have ah:Hid (∀ V,Bw wr V-> ∀ i u,([i6 y.ZV,i6 y.num,sT y.word]:lV)[i]?=some u->V.cell? ((C.add (j*3)).add i)=some u):=hid fun V h i u E=>(h.cell (by rw [ZL];exact Z)).trans (by rw [ZG];exact L i u E)
   have J:Hid (∀ V,Bw wr V->(fun V=>Bw wr V/\(∀ i u,([i6 x.ZV,i6 x.num,sT x.word]:lV)[i]?=some u->V.cell? ((s.add (j*3)).add i)=some u)/\ ∀ i u,([i6 y.ZV,i6 y.num,sT y.word]:lV)[i]?=some u->V.cell? ((C.add (j*3)).add i)=some u) V):=hid fun V h=>⟨h,ag.o V h,ah.o V h⟩
   have I: ∀ W,(binOp .neq 64 (.agg #[i6 x.ZV,i6 x.num,sT x.word]) (.agg #[i6 y.ZV,i6 y.num,sT y.word])).run prog W= .ok (.bool (!(x == y))) W:=fun W=>Jm x y W
   clear T O K L U Z ag ah;have ab:=bt G (Below.refl wr.heap.size wr).drew;go_upto_region 6 with fail
   cases hxy:(x == y)
   ·rw [hxy] at I D;have M:Hid ((a == b)=false):=hid (by rw [D.o];rfl)
    clear D F hxy;refine wp_region_held_drew (S:=fun V=>Bw wr V/\(∀ i u,([i6 x.ZV,i6 x.num,sT x.word]:lV)[i]?=some u->V.cell? ((s.add (j*3)).add i)=some u)/\ ∀ i u,([i6 y.ZV,i6 y.num,sT y.word]:lV)[i]?=some u->V.cell? ((C.add (j*3)).add i)=some u) (by kernel_rfl) (J.o _ br.drew) (fun d=> ?_)
    (try simp only [pp]);refine tk 0 16 d ?_;refine tk 1 17 d ?_;refine tk 2 18 d ?_;refine tv 3 19 rfl d (Zg (by rfl) _ _ rfl (s.add (j*3)) rfl [i6 x.ZV,i6 x.num,sT x.word] _ (fun _ h=>h.2.1) underlying64 rfl ae.o) ?_
    refine tk 4 20 d ?_;refine tk 5 21 d ?_;refine tk 6 22 d ?_;refine tv 7 23 rfl d (Zg (by rfl) _ _ rfl (C.add (j*3)) rfl [i6 y.ZV,i6 y.num,sT y.word] _ (fun _ h=>h.2.2) underlying64 rfl af.o) ?_
    refine tk 8 24 d ?_;refine wpAnyH_done (by kernel_rfl) ?_ _
    clear J d I;go_wp2;go_ret;exact⟨by rw [M.o];rfl,ab.o⟩
   ·rw [hxy] at I D;have M:Hid ((a == b)=(a.drop (j+1) == b.drop (j+1))):=hid (by rw [D.o,Bool.true_and]);clear D F hxy;refine wp_region_held_drew (S:=fun V=>Bw wr V/\(∀ i u,([i6 x.ZV,i6 x.num,sT x.word]:lV)[i]?=some u->V.cell? ((s.add (j*3)).add i)=some u)/\ ∀ i u,([i6 y.ZV,i6 y.num,sT y.word]:lV)[i]?=some u->V.cell? ((C.add (j*3)).add i)=some u) (by kernel_rfl) (J.o _ br.drew) (fun d=> ?_)
    (try simp only [pp]);refine tk 0 16 d ?_;refine tk 1 17 d ?_;refine tk 2 18 d ?_;refine tv 3 19 rfl d (Zg (by rfl) _ _ rfl (s.add (j*3)) rfl [i6 x.ZV,i6 x.num,sT x.word] _ (fun _ h=>h.2.1) underlying64 rfl ae.o) ?_
    refine tk 4 20 d ?_;refine tk 5 21 d ?_;refine tk 6 22 d ?_;refine tv 7 23 rfl d (Zg (by rfl) _ _ rfl (C.add (j*3)) rfl [i6 y.ZV,i6 y.num,sT y.word] _ (fun _ h=>h.2.2) underlying64 rfl af.o) ?_
    refine tk 8 24 d ?_;refine wpAnyH_done (by kernel_rfl) ?_ _
    clear J d I;go_wp2;go_roundw
    case rel=>exact⟨j+1,by omega,by go_num,ab,M⟩
    case measure=>simp [intOf];omega
  ·obtain rfl:j=a.length:=by omega
   rw [List.drop_length] at F;have N:Hid ((a == b)=true):=hid (by rw [F.o,ac.o,List.drop_length];rfl)
   go_wp2;go_ret;exact⟨by rw [N.o];rfl,G.o⟩
theorem JV (a b:List Vl)(A:oA)(k:Nat)(B:oA)(m:Nat)(w:World)(hA:rA w Zh (a.map Vl.da) A)(hB:rA w Zh (b.map Vl.da) B)(hn:a.length<=1099511627776):
  cQ 21 #[.slice A a.length k,.slice B b.length m] w fun e w'=>e= .returned (.bool (a == b))/\Bw w w':=by
 have HA:=hid hA;have HB:=hid hB;clear hA hB;by_cases hl:a.length=b.length
 case neg=>
  have N:Hid ((a == b)=false):=hid (by simpa using fun h=>hl (congrArg List.length h));have E:((a.length:Int) !=(b.length:Int))=true:=by simp only [bne_iff_ne,ne_eq];omega
  go_enter func21,ntmps21
  go_wp2;go_ret;exact⟨by rw [N.o];rfl,Below.refl _ _⟩
 go_enter func21,ntmps21
 have E:((a.length:Int) !=(b.length:Int))=false:=by rw [hl];simp
 have ac:=hid hl;clear hl;go_wp2;clear E;go_loopw [5] (fun i wr=> ∃ j:Nat,j<=a.length/\i=i6 j/\Hid (Bw w wr)/\Hid ((a == b)=(a.drop j == b.drop j))) (fun i _=>a.length - (intOf i).toNat)
 case atStart=>exact⟨0,Nat.zero_le _,rfl,hid br,hid rfl⟩
 case round=>
  obtain⟨j,hj,rfl,G,F⟩:=hrel;by_cases hlt:j<a.length
  ·have aa:j<b.length:=by rw [<-ac.o];exact hlt
   have aj:(j:Int)< (b.length:Int):=by omega
   have ai:(j:Int)< (a.length:Int):=by omega
   obtain⟨s,vs,rfl,T,K⟩:=(HA.o.below G.o).at_ (j:=j) (by simpa using hlt);obtain⟨C,us,rfl,O,L⟩:=(HB.o.below G.o).at_ (j:=j) (by simpa using aa);have D:Hid ((a == b)=(a[j] == b[j] && a.drop (j+1) == b.drop (j+1))):=hid (F.o.trans (by rw [List.drop_eq_getElem_cons hlt,List.drop_eq_getElem_cons aa];rfl))
   rw [List.getElem_map] at T O;generalize a[j]=x at*;generalize b[j]=y at*;obtain rfl:=Vl.YY T;obtain rfl:=Vl.YY O;have ae:Hid ((prog.info? 64).map (·.size)=some ([i6 x.ZV,i6 x.num,sT x.word]:lV).length):=iN _ 3;have af:Hid ((prog.info? 64).map (·.size)=some ([i6 y.ZV,i6 y.num,sT y.word]:lV).length):=iN _ 3;have U:(s.add (j*3)).block<wr.heap.size:=by
    have:=World.block_lt_of_cell? wr _ (K 0 _ rfl);simpa [ZL] using this
   have Z:(C.add (j*3)).block<wr.heap.size:=by
    have:=World.block_lt_of_cell? wr _ (L 0 _ rfl);simpa [ZL] using this
   have ag:Hid (∀ V,Bw wr V-> ∀ i u,([i6 x.ZV,i6 x.num,sT x.word]:lV)[i]?=some u->V.cell? ((s.add (j*3)).add i)=some u):=hid fun V h i u E=>(h.cell (by rw [ZL];exact U)).trans (by rw [ZG];exact K i u E)
   have ah:Hid (∀ V,Bw wr V-> ∀ i u,([i6 y.ZV,i6 y.num,sT y.word]:lV)[i]?=some u->V.cell? ((C.add (j*3)).add i)=some u):=hid fun V h i u E=>(h.cell (by rw [ZL];exact Z)).trans (by rw [ZG];exact L i u E)
   have J:Hid (∀ V,Bw wr V->(fun V=>Bw wr V/\(∀ i u,([i6 x.ZV,i6 x.num,sT x.word]:lV)[i]?=some u->V.cell? ((s.add (j*3)).add i)=some u)/\ ∀ i u,([i6 y.ZV,i6 y.num,sT y.word]:lV)[i]?=some u->V.cell? ((C.add (j*3)).add i)=some u) V):=hid fun V h=>⟨h,ag.o V h,ah.o V h⟩
   have I: ∀ W,(binOp .neq 64 (.agg #[i6 x.ZV,i6 x.num,sT x.word]) (.agg #[i6 y.ZV,i6 y.num,sT y.word])).run prog W= .ok (.bool (!(x == y))) W:=fun W=>Jm x y W
   clear T O K L U Z ag ah;have ab:=bt G (Below.refl wr.heap.size wr).drew;go_upto_region 6 with fail
   cases hxy:(x == y)
   ·rw [hxy] at I D;have M:Hid ((a == b)=false):=hid (by rw [D.o];rfl)
    clear D F hxy;refine wp_region_held_drew (S:=fun V=>Bw wr V/\(∀ i u,([i6 x.ZV,i6 x.num,sT x.word]:lV)[i]?=some u->V.cell? ((s.add (j*3)).add i)=some u)/\ ∀ i u,([i6 y.ZV,i6 y.num,sT y.word]:lV)[i]?=some u->V.cell? ((C.add (j*3)).add i)=some u) (by kernel_rfl) (J.o _ br.drew) (fun d=> ?_)
    (try simp only [pp]);refine tk 0 17 d ?_;refine tk 1 18 d ?_;refine tk 2 19 d ?_;refine tv 3 20 rfl d (Zg (by rfl) _ _ rfl (s.add (j*3)) rfl [i6 x.ZV,i6 x.num,sT x.word] _ (fun _ h=>h.2.1) underlying64 rfl ae.o) ?_
    refine tk 4 21 d ?_;refine tk 5 22 d ?_;refine tk 6 23 d ?_;refine tv 7 24 rfl d (Zg (by rfl) _ _ rfl (C.add (j*3)) rfl [i6 y.ZV,i6 y.num,sT y.word] _ (fun _ h=>h.2.2) underlying64 rfl af.o) ?_
    refine tk 8 25 d ?_;refine wpAnyH_done (by kernel_rfl) ?_ _
    clear J d I;go_wp2;go_ret;exact⟨by rw [M.o];rfl,ab.o⟩
   ·rw [hxy] at I D;have M:Hid ((a == b)=(a.drop (j+1) == b.drop (j+1))):=hid (by rw [D.o,Bool.true_and]);clear D F hxy;refine wp_region_held_drew (S:=fun V=>Bw wr V/\(∀ i u,([i6 x.ZV,i6 x.num,sT x.word]:lV)[i]?=some u->V.cell? ((s.add (j*3)).add i)=some u)/\ ∀ i u,([i6 y.ZV,i6 y.num,sT y.word]:lV)[i]?=some u->V.cell? ((C.add (j*3)).add i)=some u) (by kernel_rfl) (J.o _ br.drew) (fun d=> ?_)
    (try simp only [pp]);refine tk 0 17 d ?_;refine tk 1 18 d ?_;refine tk 2 19 d ?_;refine tv 3 20 rfl d (Zg (by rfl) _ _ rfl (s.add (j*3)) rfl [i6 x.ZV,i6 x.num,sT x.word] _ (fun _ h=>h.2.1) underlying64 rfl ae.o) ?_
    refine tk 4 21 d ?_;refine tk 5 22 d ?_;refine tk 6 23 d ?_;refine tv 7 24 rfl d (Zg (by rfl) _ _ rfl (C.add (j*3)) rfl [i6 y.ZV,i6 y.num,sT y.word] _ (fun _ h=>h.2.2) underlying64 rfl af.o) ?_
    refine tk 8 25 d ?_;refine wpAnyH_done (by kernel_rfl) ?_ _
    clear J d I;go_wp2;go_roundw
    case rel=>exact⟨j+1,by omega,by go_num,ab,M⟩
    case measure=>simp [intOf];omega
  ·obtain rfl:j=a.length:=by omega
   rw [List.drop_length] at F;have N:Hid ((a == b)=true):=hid (by rw [F.o,ac.o,List.drop_length];rfl)
   go_wp2;go_ret;exact⟨by rw [N.o];rfl,G.o⟩
theorem LO (a:List Vl)(v:Vl)(A:oA)(k:Nat)(w:World)(U:rA w Zh (a.map Vl.da) A)(hn:a.length<=1099511627776):
  cQ 269 #[.slice A a.length k,.agg #[i6 v.ZV,i6 v.num,sT v.word]] w fun e w'=> ∃ i:Int,e= .returned (i6 i)/\Bw w w':=by
 have HA:=hid U;have N:=iN 64 3;clear U;go_enter func269,ntmps269
 go_upto_region 1 with fail
 refine Wh _ fun W I=> ?_
 have L:=bP I;have B0:=nC I;clear I;go_wp2;go_loopw [8] (fun i wr=> ∃ j:Nat,j<=a.length/\i=i6 j/\Hid (Bw w wr)/\Hid (ZP wr w.heap.size 64 [i6 v.ZV,i6 v.num,sT v.word])) (fun i _=>a.length - (intOf i).toNat)
 case atStart=>exact⟨0,Nat.zero_le _,rfl,L,B0⟩
 case round=>
  clear L B0;obtain⟨j,hj,rfl,E,G⟩:=hrel;by_cases hlt:j<a.length
  ·have aa:(j:Int)< (a.length:Int):=by omega
   obtain⟨m,vs,rfl,J,D⟩:=(HA.o.below E.o).at_ (j:=j) (by simpa using hlt);rw [List.getElem_map] at J;generalize a[j]=x at*;obtain rfl:=Vl.YY J;have O:Hid ((prog.info? 64).map (·.size)=some ([i6 x.ZV,i6 x.num,sT x.word]:lV).length):=iN _ 3;have K:(m.add (j*3)).block<wr.heap.size:=by
    have:=World.block_lt_of_cell? wr _ (D 0 _ rfl);simpa [ZL] using this
   have T:Hid (∀ V,Bw wr V-> ∀ i u,([i6 x.ZV,i6 x.num,sT x.word]:lV)[i]?=some u->V.cell? ((m.add (j*3)).add i)=some u):=hid fun V h i u hi=>(h.cell (by rw [ZL];exact K)).trans (by rw [ZG];exact D i u hi)
   have C:Hid (∀ V,Bw wr V->(fun V=>Bw wr V/\V.rangeAt w.heap.size 0 [i6 v.ZV,i6 v.num,sT v.word]/\ ∀ i u,([i6 x.ZV,i6 x.num,sT x.word]:lV)[i]?=some u->V.cell? ((m.add (j*3)).add i)=some u) V):=hid fun V h=>⟨h,(G.o.below h G.o.lt).Yz,T.o V h⟩
   have s: ∀ W,(binOp .eql 64 (.agg #[i6 v.ZV,i6 v.num,sT v.word]) (.agg #[i6 x.ZV,i6 x.num,sT x.word])).run prog W= .ok (.bool (v == x)) W:=fun W=>KK v x W
   clear J D K T;have F:Bw wr wr.drew:=br.drew;have M:=bt E F;have Z:=bl G F;clear F;go_upto_region 4 with fail
   cases hxy:(v == x)
   ·rw [hxy] at s;clear hxy;refine wp_region_held_drew (S:=fun V=>Bw wr V/\V.rangeAt w.heap.size 0 [i6 v.ZV,i6 v.num,sT v.word]/\ ∀ i u,([i6 x.ZV,i6 x.num,sT x.word]:lV)[i]?=some u->V.cell? ((m.add (j*3)).add i)=some u) (by kernel_rfl) (C.o _ br.drew) (fun d=> ?_)
    (try simp only [pp]);refine tv 0 11 rfl d (yieldsIf_load_mid (by rfl) _ _ rfl (w.heap.size) 0 rfl [i6 v.ZV,i6 v.num,sT v.word] _ (fun _ h=>h.2.1) underlying64 rfl N.o) ?_
    refine tk 1 12 d ?_;refine tk 2 13 d ?_;refine tk 3 14 d ?_;refine tv 4 15 rfl d (Zg (by rfl) _ _ rfl (m.add (j*3)) rfl [i6 x.ZV,i6 x.num,sT x.word] _ (fun _ h=>h.2.2) underlying64 rfl O.o) ?_
    refine tk 5 16 d ?_;refine wpAnyH_done (by kernel_rfl) ?_ _
    clear C d s;go_wp2;go_roundw
    case rel=>exact⟨j+1,by omega,by go_num,M,Z⟩
    case measure=>simp [intOf];omega
   ·rw [hxy] at s;clear hxy;refine wp_region_held_drew (S:=fun V=>Bw wr V/\V.rangeAt w.heap.size 0 [i6 v.ZV,i6 v.num,sT v.word]/\ ∀ i u,([i6 x.ZV,i6 x.num,sT x.word]:lV)[i]?=some u->V.cell? ((m.add (j*3)).add i)=some u) (by kernel_rfl) (C.o _ br.drew) (fun d=> ?_)
    (try simp only [pp]);refine tv 0 11 rfl d (yieldsIf_load_mid (by rfl) _ _ rfl (w.heap.size) 0 rfl [i6 v.ZV,i6 v.num,sT v.word] _ (fun _ h=>h.2.1) underlying64 rfl N.o) ?_
    refine tk 1 12 d ?_;refine tk 2 13 d ?_;refine tk 3 14 d ?_;refine tv 4 15 rfl d (Zg (by rfl) _ _ rfl (m.add (j*3)) rfl [i6 x.ZV,i6 x.num,sT x.word] _ (fun _ h=>h.2.2) underlying64 rfl O.o) ?_
    refine tk 5 16 d ?_;refine wpAnyH_done (by kernel_rfl) ?_ _
    clear C d s;go_wp2;go_ret;exact⟨j,rfl,M.o⟩
  ·obtain rfl:j=a.length:=by omega
   go_wp2;go_ret;exact⟨-1,rfl,E.o⟩
theorem PJ (a:List Vl)(v:Vl)(A:oA)(k:Nat)(w:World)(h:rA w Zh (a.map Vl.da) A)(C:a.length<=1099511627776):
  cQ 240 #[.slice A a.length k,.agg #[i6 v.ZV,i6 v.num,sT v.word]] w fun e w'=> ∃ b,e= .returned (.bool b)/\Bw w w':=by
 have u:=hid h;have s:=iN 64 3;clear h;have B0:Hid (ZP (w.alloc (.cells #[i6 v.ZV,i6 v.num,sT v.word] 64)) w.heap.size 64 [i6 v.ZV,i6 v.num,sT v.word]):=hid (ZP.new w _ _);go_enter func240,ntmps240
 go_wp2_with (first | (refine lO B0 s underlying64 ?_) | fail);refine Zi _ fun W j=> ?_
 have d:=bP j;clear j B0;refine(LO a v A k W (u.o.later d.o) C).mono ?_
 rintro e D ⟨i,rfl,hb⟩;have m:=bt d hb;clear hb d;go_wp2;go_ret;exact⟨_,rfl,m.o⟩
def Fu (g:Nat)(lb:Array Value)(rs:List X3)(w:World):Prop:=
 ∀ (W:World) (r:X3),Bw w W->r∈rs->cQ g (#[.slice r.2.1 r.1.length r.2.2] ++lb) W fun e w'=> ∃ b,e= .returned (.bool b)/\Bw W w'
theorem Hl (g:Nat)(lb:Array Value)(rs:List X3)(R:oA)(c:Nat)(w:World)(K: ∀ args w,(callFunc g args).run prog w= .ok (.enter g args) w)
  (u:Zj w w.heap.size R X3.cs rs) (M:rs.length<=1099511627776) (D:Fu g lb rs w):
  cQ 270 #[.slice R rs.length c,.func (.func g) #[] lb] w fun e w'=> ∃ i:Int,e= .returned (i6 i)/\Bw w w':=by
 have F:=hid u;have E:=hid D;clear u D;go_enter func270,ntmps270
 go_wp2;go_loopw [8] (fun i wr=> ∃ j:Nat,j<=rs.length/\i=i6 j/\Hid (Bw w wr)) (fun i _=>rs.length - (intOf i).toNat)
 case atStart=>exact⟨0,Nat.zero_le _,rfl,hid br⟩
 case round=>
  obtain⟨j,L,rfl,d⟩:=hrel;by_cases hlt:j<rs.length
  ·have I:(j:Int)< (rs.length:Int):=by omega
   obtain⟨J,rfl,G,h⟩:=(F.o.later d.o) (by omega);have C:=h (j*1+0) _ (by rw [Zl X3.k rs j 0 hlt (by decide)];rfl)
   rw [Nat.mul_one,Nat.add_zero] at C;have s:=hid (E.o wr rs[j] d.o (List.getElem_mem hlt));clear h G;generalize rs[j]=r at*;go_wp2_with fail;go_at_fn g
   refine s.o.mono ?_
   rintro e N ⟨b,rfl,hb⟩;have m:=bt d hb;clear hb s C
   cases b
   ·go_wp2;go_roundw
    case rel=>exact⟨j+1,by omega,by go_num,m⟩
    case measure=>simp [intOf];omega
   ·go_wp2;go_ret;exact⟨j,rfl,m.o⟩
  ·obtain rfl:j=rs.length:=by omega
   go_wp2;go_ret;exact⟨-1,rfl,d.o⟩
theorem Ho (g:Nat)(lb:Array Value)(rs:List X3)(R:oA)(c:Nat)(w:World)(s: ∀ args w,(callFunc g args).run prog w= .ok (.enter g args) w)
  (d:Zj w w.heap.size R X3.cs rs) (u:rs.length<=1099511627776) (j:Fu g lb rs w):
  cQ 241 #[.slice R rs.length c,.func (.func g) #[] lb] w fun e w'=> ∃ b,e= .returned (.bool b)/\Bw w w':=by
 have h:=Hl g lb rs R c w s d u j;clear d j;go_enter func241,ntmps241
 go_wp2_with fail;refine h.mono ?_
 rintro e C ⟨i,rfl,hb⟩;have m:=hid hb;clear hb h;go_wp2;go_ret;exact⟨_,rfl,m.o⟩
structure Sf where
 p:Nat
 t:Tb
 X:Option Addr
 x:Nat
 Y:Option Addr
 y:Nat
 rs:List X3
 R:Option Addr
 r:Nat
def Sf.cs (s:Sf):List Value:= [.string (Z2 s.t.Z9),.string (Z2 s.t.name),.string (Z2 s.t.ZN),.slice s.X s.t.Z3.length s.x,.slice s.Y s.t.ZW.length s.y,.slice s.R s.rs.length s.r]
def VT:List TypeId:= [119,40,9,64]
structure TV (w:World) (base:Nat) (s:Sf):Prop where
 YK:ZP w s.p 112 s.cs
 pb:base<=s.p
 cl:ZT w (Xs w VT) Zz (s.t.Z3.map Cl.da) s.X
 ru:ZT w (Xs w VT) YF (s.t.ZW.map Ru.da) s.Y
 own:w.ownsRow base 61 1 (.slice s.R s.rs.length s.r) s.rs.length (s.rs.flatMap X3.cs)
 Rz: ∀ r∈s.rs,ZT w (Xs w VT) Zh (r.1.map Vl.da) r.2.1
def Qk (w:World)(ss:List Sf)(L:Option Addr):Prop:=0<ss.length-> ∃ ad,L=some ad/\Xs w [110] ad.block/\ ∀ (j:Nat) (s:Sf),ss[j]?=some s->w.cell? (ad.add j)=some (.pointer (some ⟨s.p,0,none⟩))
structure WO (w:World) (base g:Nat) (ss:List Sf):Prop where
 st: ∃ L c,ZP w g 109 [.slice L ss.length c]/\Qk w ss L
 gb:base<=g
 sh: ∀ s∈ss,TV w base s
 nd:ss.Pairwise fun a b=>a.p≠b.p/\ ∀ k,(Value.slice a.R a.rs.length a.r).ownBlock=some k->(Value.slice b.R b.rs.length b.r).ownBlock≠some k
theorem Qk.keeps {us:List TypeId}{w w':World}{E:List Sf}{L:Option Addr}(h:Qk w E L)(G:ZS us w w')(hd:110∉us):Qk w' E L:=fun I=>by
 obtain⟨d,e,⟨t,D,cs,m,C⟩,J⟩:=h I;have F:t=110:=by simpa using D
 subst F;have u:=G.block d.block _ ⟨cs,m,C⟩ hd;exact⟨d,e,⟨_,D,cs,m,u.trans C⟩,fun j s K=>(World.cell?_of_block (by rw [ZL];exact u)).trans (J j s K)⟩
theorem TV.keeps {us:List TypeId}{w w':World}{base:Nat}{s:Sf}(h:TV w base s)(d:ZS us w w')(m:112∉us)(u:61∉us)(j: ∀ t,t∈VT->t∉us):TV w' base s:=
 ⟨h.YK.keeps d m,h.pb,ZI h.cl d j,ZI h.ru d j,h.own.keeps d u,fun r C=>ZI (h.Rz r C) d j⟩
theorem WO.keeps {us:List TypeId}{w w':World}{base g:Nat}{j:List Sf}(h:WO w base g j)(d:ZS us w w')(m:109∉us)(G:110∉us)(u:112∉us)(C:61∉us)(D: ∀ t,t∈VT->t∉us):WO w' base g j:=by
 obtain⟨L,c,E,F⟩:=h.st;exact⟨⟨L,c,E.keeps d m,F.keeps d G⟩,h.gb,fun s I=>(h.sh s I).keeps d u C D,h.nd⟩
theorem WO.later {w w':World}{base g:Nat}{d:List Sf}(h:WO w base g d)(hb:Below w.heap.size w w'):WO w' base g d:=h.keeps (us:= []) (ZS.ZA hb lr) (by simp) (by simp) (by simp) (by simp) (by simp)
theorem TV.later {w w':World}{base:Nat}{s:Sf}(h:TV w base s)(hb:Below w.heap.size w w'):TV w' base s:=h.keeps (us:= []) (ZS.ZA hb lr) (by simp) (by simp) (by simp)
def Ur (sc nm:List UInt8)(s:Sf):Bool:=s.t.Z9 == sc && s.t.name == nm
theorem Rf (base g:Nat)(d:List Sf)(sc nm:List UInt8)(w:World)(h:WO w base g d)(U:d.length<=1099511627776):
  Calls prog 49 #[.pointer (some ⟨g,0,none⟩),.string (Z2 sc),.string (Z2 nm)] w fun e w'=>e= .returned (.pointer ((d.find? (Ur sc nm)).map fun s=>⟨s.p,0,none⟩))/\w'=w:=by
 obtain⟨L,c,D,E⟩:=h.st;have I:=hid h.sh;have G:=hid E;have N:=D.cell 0;clear h D E;go_enter func49,ntmps49
 go_wp2;go_loopw [14] (fun i wr=> ∃ j:Nat,j<=d.length/\i= .int .i64 j/\Hid (wr=w)/\Hid (d.find? (Ur sc nm)=(d.drop j).find? (Ur sc nm))) (fun i _=>d.length - (intOf i).toNat)
 case atStart=>exact⟨0,Nat.zero_le _,rfl,hid rfl,hid rfl⟩
 case round=>
  obtain⟨j,T,rfl,J,m⟩:=hrel;obtain rfl:=J.out;by_cases hlt:j<d.length
  ·have K:(j:Int)< (d.length:Int):=by omega
   obtain⟨M,rfl,_,F⟩:=G.out (by omega);have O:=F j d[j] (List.getElem?_eq_getElem hlt);have hb:=(I.out _ (List.getElem_mem hlt)).YK;have u:Hid (d.find? (Ur sc nm)=if Ur sc nm d[j]=true then some d[j] else(d.drop (j+1)).find? (Ur sc nm)):=hid (m.out.trans (by rw [List.drop_eq_getElem_cons hlt,List.find?_cons];cases Ur sc nm d[j] <;> rfl))
   clear F;generalize d[j]=s at*;have c0:wr.cell? ⟨s.p,0,none⟩=some (.string (Z2 s.t.Z9)):=hb.cell 0;have c1:wr.cell? ⟨s.p,1,none⟩=some (.string (Z2 s.t.name)):=hb.cell 1;clear hb
   cases h1:(s.t.Z9 == sc)
   ·have C:Hid (d.find? (Ur sc nm)=(d.drop (j+1)).find? (Ur sc nm)):=hid (by rw [u.out];unfold Ur;rw [h1];rfl);clear u m;go_wp2;go_roundw
    case rel=>exact⟨j+1,by omega,by go_num,hid trivial,C⟩
    case measure=>simp [intOf];omega
   cases h2:(s.t.name == nm)
   ·have C:Hid (d.find? (Ur sc nm)=(d.drop (j+1)).find? (Ur sc nm)):=hid (by rw [u.out];unfold Ur;rw [h1,h2];rfl);clear u m;go_wp2;go_roundw
    case rel=>exact⟨j+1,by omega,by go_num,hid trivial,C⟩
    case measure=>simp [intOf];omega
   have C:Hid (d.find? (Ur sc nm)=some s):=hid (by rw [u.out];unfold Ur;rw [h1,h2];rfl);clear u m;go_wp2;go_ret;exact⟨by rw [C.out];rfl,rfl⟩
  ·obtain rfl:j=d.length:=by omega
   rw [List.drop_length] at m;go_wp2;go_ret;exact⟨by rw [m.out];rfl,rfl⟩
theorem Lc (c:Cl)(p:Nat)(nm:lU)(w:World)(d:ZP w p 9 [sT nm]):
  cQ 239 #[.agg #[sT c.name,i6 c.ZV,.bool c.null],pT p] w fun e w'=>e= .returned (.bool (c.name == nm))/\Bw w w':=by
 have h:Hid (∀ x,Bw w (w.alloc x)):=hid fun x=>br.alloc lr _
 have k0:(w.alloc (.cells #[sT c.name,i6 c.ZV,.bool c.null] 119)).cell? (aD p 0)=some (sT nm):=(d.alloc _).cell 0;clear d;go_enter func239,ntmps239
 go_wp2;go_ret;exact⟨rfl,h.o _⟩
theorem Kc (c:Cl)(p:Nat)(nm:lU)(w:World)(d:ZP w p 9 [sT nm]):
  cQ 170 #[.agg #[sT c.name,i6 c.ZV,.bool c.null],pT p] w fun e w'=>e= .returned (.bool (c.name == nm))/\Bw w w':=by
 have h:Hid (∀ x,Bw w (w.alloc x)):=hid fun x=>br.alloc lr _
 have k0:(w.alloc (.cells #[sT c.name,i6 c.ZV,.bool c.null] 119)).cell? (aD p 0)=some (sT nm):=(d.alloc _).cell 0;clear d;go_enter func170,ntmps170
 go_wp2;go_ret;exact⟨rfl,h.o _⟩
theorem Ms (F:Nat)(l:List Cl)(A:oA)(k p:Nat)(nm:lU)(w:World)(m: ∀ args w,(callFunc F args).run prog w= .ok (.enter F args) w)
  (hF: ∀ (c:Cl) (W:World),ZP W p 9 [sT nm]->cQ F #[.agg #[sT c.name,i6 c.ZV,.bool c.null],pT p] W fun e w'=>e= .returned (.bool (c.name == nm))/\Bw W w')
  (j:ZP w p 9 [sT nm]) (s:rA w Zz (l.map Cl.da) A) (u:l.length<=1099511627776):
  cQ 112 #[.slice A l.length k,.func (.func F) #[] #[pT p]] w fun e w'=>e= .returned (.int .i64 (WS (Y7 l nm)))/\Bw w w':=by
 have h:=Ui (fun d=>tx d 0 == nm) F #[pT p] (l.map Cl.da) A k w m s (by simpa using u) (by
  intro W d D hb _ C;obtain⟨c,rfl,rfl⟩:=Cl.YG C;exact hF c W (j.below hb j.lt))
 rw [List.length_map,XL] at h;exact h
theorem RJ {us:List TypeId}{w:World}{base c:Nat}{l:List Vl}{A:oA}(h:w.ownsRow base 64 3 (.slice A l.length c) l.length (l.flatMap Vl.cs))(d:64∈us):ZT w (Xs w us) Zh (l.map Vl.da) A:=Uz (sh:=Zh) Vl.da Vl.k h rfl d fun v _=>Vl.VW v
theorem TZ (s:Sf)(ZU:List lU)(N:oA)(nc:Nat)(row:List Vl)(B:oA)(m:Nat)(w:World)(E:ZP w s.p 112 s.cs)(hX:ZT w (· < w.heap.size) Zz (s.t.Z3.map Cl.da) s.X)(hN:ZT w (· < w.heap.size) [.Z2] (YV ZU) N)(hB:ZT w (· < w.heap.size) Zh (row.map Vl.da) B)
  (aL:ZU.length<=1099511627776) (ay:s.t.Z3.length<=1099511627776) (ai: ∀ n∈ZU,∃ i,Y7 s.t.Z3 n=some i/\i<row.length):
  cQ 166 #[pT s.p,.slice N ZU.length nc,.slice B row.length m] w fun e w'=> ∃ (d:List Vl) (A:oA) (c:Nat) (b:Bool),d.length=ZU.length/\e= .returned (.tuple #[.slice A d.length c,.bool b])/\ZT w' (· < w'.heap.size) Zh (d.map Vl.da) A/\Bw w w':=by
 obtain⟨i0,aA,aE,aF,aG⟩:=info_parts SH;have HX:=hid hX;have HN:=hid hN;have HB:=hid hB;have ap:=hid ai;have Hx:=hid E;have ae:=hid (World.ownsRow_nil w w.heap.size 64 3);clear E hX hN hB ai;go_enter func166,ntmps166
 go_wp2;go_loopw [8,14] (fun v8 aH wr=> ∃ (d:List Vl) (R:oA) (F:Nat),d.length<=ZU.length/\v8= .slice R d.length F/\aH=i6 d.length/\Hid (Bw w wr)/\Hid (wr.ownsRow w.heap.size 64 3 (.slice R d.length F) d.length (d.flatMap Vl.cs))) (fun _ i _=>ZU.length - (intOf i).toNat)
 case atStart=>exact⟨[],none,0,Nat.zero_le _,rfl,rfl,hid br,ae⟩
 case round=>
  clear ae;obtain⟨d,R,F,hj,rfl,rfl,D,J⟩:=hrel;by_cases hlt:d.length<ZU.length
  ·have aJ:(d.length:Int)< (ZU.length:Int):=by omega
   obtain⟨ad,v0,rfl,hv,hr⟩:=(HN.o.below D.o).at_ (j:=d.length) (by simpa [YV] using hlt);obtain⟨i,ag,aC⟩:=ap.o ZU[d.length] (List.getElem_mem hlt);simp only [YV,List.getElem_map] at hv;generalize ZU[d.length]=nm at*;obtain⟨d0,aI,v1,aM,O,rfl,h0,r0⟩:=hv.cons;injection O with O hd2
   subst O hd2;obtain⟨b0,M,rfl⟩:=h0.T0;injection M with M
   subst M;have ak:wr.cell? (ad.add (d.length*1+0))=some (sT nm):=hr 0 _ rfl;rw [Nat.mul_one,Nat.add_zero] at ak;have aa:=hid ag;clear hr r0 h0 hv ag;obtain⟨T,us,rfl,hu,hq⟩:=(HB.o.below D.o).at_ (j:=i) (by simpa using aC);rw [List.getElem_map] at hu;generalize row[i]=v at*;obtain rfl:=Vl.YY hu;have ah:(T.add (i*3)).block<wr.heap.size:=by
    have:=World.block_lt_of_cell? wr _ (hq 0 _ rfl);simpa [ZL] using this
   have aq:Hid ((prog.info? 64).map (·.size)=some ([i6 v.ZV,i6 v.num,sT v.word]:lV).length):=iN _ 3;have HQ:Hid (∀ V,Bw wr V-> ∀ x u,([i6 v.ZV,i6 v.num,sT v.word]:lV)[x]?=some u->V.cell? ((T.add (i*3)).add x)=some u):=hid fun V h x u E=>(h.cell (by rw [ZL];exact ah)).trans (by rw [ZG];exact hq x u E)
   have aK:(i:Int)< (row.length:Int):=by omega
   have aB:(0:Int)<=(i:Int):=by omega
   clear hu hq ah;go_upto_region 5 with fail
   refine Wh _ fun V Z=> ?_
   have I:=bP Z;have Q1:Hid (ZP V wr.heap.size 9 [sT nm]):=nC Z;have K:=bt D I.o;have x3:=cd (Hx.o.below K.o Hx.o.lt) 3;clear Z ak;go_wp2_with fail;have U:=Ms 239 s.t.Z3 s.X s.x wr.heap.size nm V (enters_of func239 (by kernel_rfl) rfl) (fun c W h=>Lc c _ nm W h) Q1.o (HX.o.later K.o) ay;rw [aa.o] at U;refine U.mono ?_
   rintro e C ⟨rfl,hb⟩;rw [show WS (some i)=(i:Int) from rfl];have G:Bw wr C:=I.o.trans (hb.mono I.o.size);have ab:=bt D G;have av:=hid (J.o.ZC G);have aw:=hid fun x u E=>HQ.o C G x u E
   clear U hb G I Q1 K HQ J D aa x3;have ac:Hid (Below w.heap.size w (C.alloc (.cells #[i6 v.ZV,i6 v.num,sT v.word] 64))):=hid (ab.o.alloc ab.o.size _);have af:=hid (av.o.ZC (br.alloc (Nat.le_refl C.heap.size) (.cells #[i6 v.ZV,i6 v.num,sT v.word] 64)));have ar:Hid (ZP (C.alloc (.cells #[i6 v.ZV,i6 v.num,sT v.word] 64)) C.heap.size 64 [i6 v.ZV,i6 v.num,sT v.word]):=hid (ZP.new C _ _);have am:w.heap.size<=(C.alloc (.cells #[i6 v.ZV,i6 v.num,sT v.word] 64)).heap.size:=ac.o.size;go_wp2_with (first | (with_reducible refine ZK rfl 64 _ rfl (T.add (i*3)) rfl [i6 v.ZV,i6 v.num,sT v.word] _ aw.o underlying64 rfl aq.o ?_) | (at_builtin;refine Zb rfl _ _ _ rfl w.heap.size 64 i0 _ 3 32 underlying61 aA aE aF aG rfl (by decide) (.slice R d.length F) d.length _ rfl af.o (aD C.heap.size 0) 1 1 [i6 v.ZV,i6 v.num,sT v.word] rfl rfl (ZP.news ar.o) (by simp [Value.oneCell']) (by unfold maxLen;omega) (by omega) am ?_;intro A7 c7 w7 au az) | fail);have ao:Hid (Bw w w7):=hid (ac.o.grown az.o am (ZD af.o));go_roundw
   case rel=>exact⟨d ++ [v],A7,c7,by simp;omega,by simp,by simp,ao,hid (by have h:=au.out;simpa [Vl.cs] using h)⟩
   case measure=>simp [intOf];omega
  ·have aj:d.length=ZU.length:=by omega
   have HJ:=hid aj;have L:=hid (RJ (us:=VT) J.o (by decide));have HC:=hid (PJ d ⟨1,0,[]⟩ R F wr L.o.XJ (by omega));clear aj;go_wp2_with fail;refine HC.o.mono ?_
   rintro e w2 ⟨b,rfl,hb⟩;have an:=bt D hb;have ax:=hid (L.o.XJ.later hb);clear HC hb L J D;go_wp2;go_ret2;exact⟨d,R,F,!b,HJ.o,rfl,ax.o,an.o⟩
theorem Hr (s:Sf)(ZU:List lU)(N:oA)(nc:Nat)(want:List Vl)(D:oA)(K:Nat)(row:List Vl)(B:oA)(m G I J:Nat)(w:World)(hx:ZP w s.p 112 s.cs)(Z:rA w Zz (s.t.Z3.map Cl.da) s.X)(V:rA w [.Z2] (YV ZU) N)(U:rA w Zh (want.map Vl.da) D)(ac:ZU.length<=1099511627776)(ab:s.t.Z3.length<=1099511627776)
  (T:rA w Zh (row.map Vl.da) B) (L:ZP w G 110 [pT s.p]) (M:ZP w I 27 [.slice N ZU.length nc]) (O:ZP w J 61 [.slice D want.length K]) (u: ∀ n∈ZU,∃ i,Y7 s.t.Z3 n=some i/\i<row.length):
  cQ 242 #[.slice B row.length m,pT G,pT I,pT J] w fun e w'=> ∃ b,e= .returned (.bool b)/\Bw w w':=by
 have HD:=hid U;have d:=hid O;have E:=hid (TZ s ZU N nc row B m w hx Z V T ac ab u);have k1:=L.cell 0;have k2:=M.cell 0;clear L M O hx Z V U T u;go_enter func242,ntmps242
 go_wp2_with fail;refine E.o.mono ?_
 rintro e F ⟨vs,A,c,b,ad,rfl,h,hb⟩;have HA:=hid h;have j:Hid (Bw w F):=hid hb;have k3:=(d.o.below hb d.o.lt).cell 0;have C:=hid (Mf vs want A c D K F h (HD.o.later hb) (by omega));clear E h hb ad k1 k2 d;go_wp2_with fail;refine C.o.mono ?_
 rintro e W3 ⟨rfl,hb⟩;have aa:=bt j hb;clear C hb HA j k3;go_wp2;go_ret;exact⟨_,rfl,aa.o⟩
theorem Tu (s:Sf)(ZU:List lU)(N:oA)(F:Nat)(want:List Vl)(D:oA)(E:Nat)(rs:List X3)(R:oA)(Z:Nat)(w:World)(U:ZP w s.p 112 s.cs)(O:rA w Zz (s.t.Z3.map Cl.da) s.X)(L:rA w [.Z2] (YV ZU) N)(K:rA w Zh (want.map Vl.da) D)(ae:ZU.length<=1099511627776)(ad:s.t.Z3.length<=1099511627776)
  (M:Zj w w.heap.size R X3.cs rs) (I: ∀ r∈rs,rA w Zh (r.1.map Vl.da) r.2.1) (af:rs.length<=1099511627776) (G: ∀ r∈rs,∀ n∈ZU,∃ i,Y7 s.t.Z3 n=some i/\i<r.1.length):
  cQ 167 #[pT s.p,.slice R rs.length Z,.slice N ZU.length F,.slice D want.length E] w fun e w'=> ∃ b,e= .returned (.bool b)/\Bw w w':=by
 have Hx:=hid U;have HX:=hid O;have HN:=hid L;have HD:=hid K;have HR:=hid M;have ac:=hid I;have ab:=hid G;clear U O L K M I G;go_enter func167,ntmps167
 go_wp2_with fail;refine Zi _ fun W j=> ?_
 have h:=bR j;have m:Hid (ZP W w.heap.size 110 [pT s.p]):=nE j;have u:Hid (ZP W (w.heap.size+1) 27 [sl N ZU F]):=nG j;have C:Hid (ZP W (w.heap.size+2) 61 [sl D want E]):=nH j;clear j;have J:=hid (Ho 242 #[pT w.heap.size,pT (w.heap.size+1),pT (w.heap.size+2)] rs R Z W (enters_of func242 (by kernel_rfl) rfl) (HR.o.later h.o) af (by
  intro V r hb T;have d:=h.o.trans (hb.mono h.o.size);exact Hr s ZU N F want D E r.1 r.2.1 r.2.2 _ _ _ V (Hx.o.below d Hx.o.lt) (HX.o.later d) (HN.o.later d) (HD.o.later d) ae ad ((ac.o r T).later d) (m.o.below hb m.o.lt) (u.o.below hb u.o.lt) (C.o.below hb C.o.lt) (ab.o r T)))
 clear m u C;refine J.o.mono ?_
 rintro e W2 ⟨b,rfl,hb⟩;have aa:=bt h hb;clear J hb h;go_wp2;go_ret;exact⟨b,rfl,aa.o⟩
theorem WC {P:Program}{w:World}{ops:Array Oper}{rest:List Oper}{o:Oper}{a:Act}{Q:Exit->Act->World->Prop}(N:o.guard=none)(s x:Operand)(t:TypeId)
  (ho:o.op= .call { callee:= .builtin .append,args:= #[s,x],argTypes:= #[t,t]})
  (base:Nat) (e:TypeId) (i:TypeInfo) (z:Value) (size bytes:Nat) (ht:P.underlying t=some (.slice e)) (hi:P.info? e=some i) (hz:i.zero=some z)
  (J:i.size=size) (M:i.bytes=bytes) (T:z.cells.size=size) (O:0<size)
  (v:Value) (n:Nat) (xs:List Value) (hs:a.eval s=v) (K:w.ownsRow base e size v n xs)
  (D:Addr) (m c:Nat) (news:List Value) (hx:a.eval x= .slice (some D) m c) (hl:news.length=m*size) (I: ∀ j u,news[j]?=some u->w.cell? (D.add j)=some u) (U: ∀ u∈news,u.oneCell'=true)
  (L:n+m<=maxLen) (F:(n+m)*bytes<=140737488355328) (G:base<=w.heap.size)
  (h: ∀ d C w',Hid (w'.ownsRow base e size (.slice d (n+m) C) (n+m) (xs ++news))->Hid (w.grownBy w' v.ownBlock)->Hid ((Value.slice d (n+m) C).ownBlock=v.ownBlock∨(Value.slice d (n+m) C).ownBlock=some w.heap.size)->wpList P ops Q rest (a.put o.dst (.slice d (n+m) C)) w'):wpList P ops Q (o ::rest) a w:=by
 refine wpList_append_own_at w N s x t ho base e i z size bytes ht hi hz J M T O v n xs hs K D m c news hx hl I U L F G fun v' w' E V _ Z=> ?_
 obtain⟨d,C,rfl⟩:=WH E;exact h d C w' (hid E) (hid V) (hid Z)
def D0 (ls:List (List Vl))(w:World)(e:Ending)(w':World):Prop:= ∃ (rs':List X3) (A:Option Addr) (c:Nat),rs'.map (·.1)=ls/\e= .returned (.slice A rs'.length c)/\w'.ownsRow w.heap.size 61 1 (.slice A rs'.length c) rs'.length (rs'.flatMap X3.cs)/\(∀ r∈rs',ZT w' (Xs w' VT) Zh (r.1.map Vl.da) r.2.1)/\Below w.heap.size w w'
theorem Mp (rs:List X3)(R:Option Addr)(rc:Nat)(w:World)(hR:Zj w w.heap.size R X3.cs rs)(U: ∀ r∈rs,ZT w (· < w.heap.size) Zh (r.1.map Vl.da) r.2.1)(ar:rs.length<=1099511627776)(V: ∀ r∈rs,r.1.length<=1099511627776):
  Calls prog 117 #[.slice R rs.length rc] w (D0 (rs.map (·.1)) w):=by
 obtain⟨i0,am,an,ao,ap⟩:=info_parts Vo;have HR:=hid hR;have ah:=hid U;have ak:=hid V;have N:=hid (World.ownsRow_nil w w.heap.size 61 1);clear hR U V;go_enter func117,ntmps117
 go_wp2;go_loopw [3,8] (fun v3 v8 wr=> ∃ (d:List X3) (A:Option Addr) (c:Nat),d.length<=rs.length/\v3= .slice A d.length c/\v8= .int .i64 d.length/\Hid (d.map (·.1)=(rs.take d.length).map (·.1))/\Hid (Below w.heap.size w wr)/\Hid (wr.ownsRow w.heap.size 61 1 (.slice A d.length c) d.length (d.flatMap X3.cs))/\Hid (∀ r∈d,ZT wr (Xs wr VT) Zh (r.1.map Vl.da) r.2.1)) (fun _ i _=>rs.length - (intOf i).toNat)
 case atStart=>exact⟨[],none,0,Nat.zero_le _,rfl,rfl,hid rfl,hid br,N,hid (fun r G=>by cases G)⟩
 case round=>
  clear N;obtain⟨d,A,c,hj,rfl,rfl,D,m,E,F⟩:=hrel;by_cases hlt:d.length<rs.length
  ·have aq:(d.length:Int)< (rs.length:Int):=by omega
   obtain⟨ad,rfl,hB,I⟩:=(HR.out.later m.out) (by omega);have hc:=I (d.length*1+0) _ (by rw [Zl X3.k rs d.length 0 hlt (by decide)];rfl)
   rw [Nat.mul_one,Nat.add_zero] at hc;have O:=hid ((ah.out _ (List.getElem_mem hlt)).later m.out);have M:=hid (ak.out _ (List.getElem_mem hlt));have ai:Hid ((rs.take (d.length+1)).map (·.1)=d.map (·.1) ++ [rs[d.length].1]):=hid (by rw [List.take_succ_eq_append_getElem hlt,List.map_append,D.out];rfl)
   clear I hB;generalize rs[d.length]=r at*;go_wp2_with fail;refine(TN r.2.1 r.2.2 r.1 wr (Vl.Yn O.out) M.out).mono ?_
   rintro e W ⟨B,j,rfl,ho,hb⟩;have J:=bt m hb;have ag:=hid (E.out.ZC hb);have ae:=hid (RJ (us:=VT) ho (by decide));have aj:Hid (∀ r∈d,ZT W (Xs W VT) Zh (r.1.map Vl.da) r.2.1):=hid fun r G=>ZI (ts:= []) (F.out r G) (ZS.ZA hb lr) (by simp)
   clear ho hb hc m E F O M;have K:Hid (Below w.heap.size w (W.alloc (.cells #[.slice B r.1.length j] 61))):=hid (J.out.alloc J.out.size _);have u:=hid (ag.out.ZC (br.alloc (Nat.le_refl W.heap.size) (.cells #[.slice B r.1.length j] 61)));have ac:Hid (ZP (W.alloc (.cells #[.slice B r.1.length j] 61)) W.heap.size 61 [.slice B r.1.length j]):=hid (ZP.new W _ _);have Z:w.heap.size<=(W.alloc (.cells #[.slice B r.1.length j] 61)).heap.size:=K.out.size;go_wp2_with (first | (at_builtin;refine Zb rfl _ _ _ rfl w.heap.size 61 i0 _ 1 24 underlying67 am an ao ap rfl (by decide) (.slice A d.length c) d.length _ rfl u.out ⟨W.heap.size,0,none⟩ 1 1 [.slice B r.1.length j] rfl rfl (ZP.news ac.out) (by simp [Value.oneCell']) (by unfold maxLen;omega) (by omega) Z ?_;intro A7 c7 w7 af C) | fail);have aa:Hid (Below w.heap.size w w7):=hid (K.out.grown C.out Z (ZD u.out));have L:Hid (ZS [61] W w7):=hid ((ZS.alloc W _).trans (ZS.grown u.out C.out (by simp) C.out.size));go_roundw
   case rel=>exact⟨d ++ [(r.1,B,j)],A7,c7,by simp;omega,by simp,by simp,hid (by simp only [List.length_append,List.length_singleton,List.map_append,ai.out];rfl),aa,hid (by have h:=af.out;simpa [X3.cs] using h),hid (fun x s=>by
    rcases List.mem_append.1 s with s | s
    ·exact ZI (aj.out x s) L.out (by decide)
    ·rw [List.mem_singleton.1 s];exact ZI ae.out L.out (by decide))⟩
   case measure=>simp [intOf];omega
  ·have T:d.length=rs.length:=by omega
   have ab:Hid (d.map (·.1)=rs.map (·.1)):=hid (by rw [D.out,T,List.take_length]);clear T D;go_wp2;go_ret;exact⟨d,A,c,ab.out,rfl,E.out,F.out,m.out⟩
def Ex (rs:List X3)(Z3:List Cl)(WB:lU)(w:World)(e:Ending)(w':World):Prop:= ∃ (ins outs:List X3) (I:oA) (ic:Nat) (O:oA) (oc:Nat),e= .returned (.tuple #[.slice I ins.length ic,.slice O outs.length oc])/\w'.ownsRow w.heap.size 61 1 (.slice I ins.length ic) ins.length (ins.flatMap X3.cs)/\w'.ownsRow w.heap.size 61 1 (.slice O outs.length oc) outs.length (outs.flatMap X3.cs)/\(∀ k,(Value.slice I ins.length ic).ownBlock=some k->(Value.slice O outs.length oc).ownBlock≠some k)/\ins.length+outs.length=rs.length/\(∀ r∈ins,r∈rs)/\(∀ r∈outs,r∈rs)/\(Y7 Z3 WB=none->ins=rs)/\Bw w w'
theorem NM (p:Nat)(t:Tb)(X:oA)(x:Nat)(Y:oA)(y:Nat)(rs:List X3)(R:oA)(rc:Nat)(WB:lU)(v:Vl)(w:World)(G:ZP w p 112 (Sf.cs ⟨p,t,X,x,Y,y,rs,R,rc⟩))(hX:ZT w (· < w.heap.size) Zz (t.Z3.map Cl.da) X)(hR:Zj w w.heap.size R X3.cs rs)(aT: ∀ r∈rs,ZT w (· < w.heap.size) Zh (r.1.map Vl.da) r.2.1)
  (bf:rs.length<=1099511627776) (a7:t.Z3.length<=1099511627776) (aQ: ∀ r∈rs,r.1.length=t.Z3.length):
  cQ 115 #[pT p,sT WB,.agg #[i6 v.ZV,i6 v.num,sT v.word]] w (Ex rs t.Z3 WB w):=by
 obtain⟨i0,aG,aI,aJ,aK⟩:=info_parts Vo;have Hx:=hid G;have HX:=hid hX;have HR:=hid hR;have aZ:=hid aT;have aU:=hid aQ;have aL:=iN 64 3;clear G hX hR aT aQ;go_enter func115,ntmps115
 go_upto_region 1 with fail
 refine Wh _ fun W0 hW=> ?_
 have aB:=bQ hW;have J:Hid (ZP W0 w.heap.size 9 [sT WB]):=nD hW;have D:Hid (ZP W0 (w.heap.size+1) 64 [i6 v.ZV,i6 v.num,sT v.word]):=nF hW;have aF:=hid (World.ownsRow_nil W0 w.heap.size 61 1);have x5:=cd (Hx.o.below aB.o Hx.o.lt) 5;clear hW;go_wp2;clear x5;go_loopw [6,7,16] (fun v6 v7 ba wr=> ∃ (j:Nat) (ins outs:List X3) (I:oA) (ic:Nat) (O:oA) (oc:Nat),j<=rs.length/\Hid (ins.length+outs.length=j)/\v6= .slice I ins.length ic/\v7= .slice O outs.length oc/\ba=i6 j/\Hid (Bw w wr)/\Hid (ZP wr w.heap.size 9 [sT WB])/\Hid (ZP wr (w.heap.size+1) 64 [i6 v.ZV,i6 v.num,sT v.word])/\
  Hid (wr.ownsRow w.heap.size 61 1 (.slice I ins.length ic) ins.length (ins.flatMap X3.cs))/\Hid (wr.ownsRow w.heap.size 61 1 (.slice O outs.length oc) outs.length (outs.flatMap X3.cs))/\Hid (∀ k,(Value.slice I ins.length ic).ownBlock=some k->(Value.slice O outs.length oc).ownBlock≠some k)/\Hid (∀ r∈ins,r∈rs)/\Hid (∀ r∈outs,r∈rs)/\Hid (Y7 t.Z3 WB=none->ins=rs.take ins.length/\outs= [])) (fun _ _ i _=>rs.length - (intOf i).toNat)
 case atStart=>exact⟨0,[],[],none,0,none,0,Nat.zero_le _,hid rfl,rfl,rfl,rfl,aB,J,D,aF,aF,hid (fun k E=>by cases E),hid (fun r hr=>by cases hr),hid (fun r hr=>by cases hr),hid (fun _=>by simp)⟩
 case round=>
  clear aB J D aF;obtain⟨j,ins,outs,I,ic,O,oc,hj,HJ,rfl,rfl,rfl,ao,J,D,N,T,ap,ay,az,HN⟩:=hrel;by_cases hlt:j<rs.length
  ·have bb:(j:Int)< (rs.length:Int):=by omega
   obtain⟨ad,rfl,hB,am⟩:=(HR.o.later ao.o) (by omega);have hc:=am (j*1+0) _ (by rw [Zl X3.k rs j 0 hlt (by decide)];rfl)
   rw [Nat.mul_one,Nat.add_zero] at hc;have aE:=hid (List.getElem_mem hlt);have aO:=hid ((aZ.o _ (List.getElem_mem hlt)).later ao.o);have aW:=hid (aU.o _ (List.getElem_mem hlt));have aq:Hid (Y7 t.Z3 WB=none->ins ++ [rs[j]]=rs.take (ins ++ [rs[j]]).length/\outs= []):=hid fun h=>by
    obtain⟨s,h2⟩:=HN.o h;refine⟨?_,h2⟩
    have h3:ins.length=j:=by have:=HJ.o;rw [h2] at this;simpa using this
    have h4:rs.take j=ins:=by rw [<-h3];exact s.symm
    rw [List.length_append,List.length_singleton,h3,List.take_succ_eq_append_getElem hlt,h4]
   clear am hB;generalize rs[j]=r at*;go_upto_region 4 with fail
   have x3:=cd (Hx.o.below ao.o Hx.o.lt) 3;go_wp2_with fail;have hC:=Ms 170 t.Z3 X x w.heap.size WB wr (enters_of func170 (by kernel_rfl) rfl) (fun c W h=>Kc c _ WB W h) J.o (HX.o.later ao.o) a7;refine hC.mono ?_
   rintro e W ⟨rfl,hb⟩;have M:=bt ao hb;have ab:=hid (N.out.ZC hb);have af:=hid (T.out.ZC hb);have L1:=bl J hb;have L2:=bl D hb;have a6:=hid (aO.o.later hb);clear hC hb x3 hc N T J D ao aO;have N:=ab;have T:=af;have J:=L1;have D:=L2;clear ab af L1 L2;have K:=hid (Below.refl W.heap.size W).drew;have bg:=M.out.size;have be:=D.o.lt;go_upto_region 5 with fail
   cases hca:Y7 t.Z3 WB with
   | none=>
    have ae:=hid (fun h:Y7 t.Z3 WB=none=>(aq.o h));have aC:=hid hca;clear hca aq;have aq:=ae;clear ae;rw [show WS none= -1 from rfl];refine wp_region_held_drew (S:=fun V=>Bw W V) (by kernel_rfl) K.o (fun d=> ?_)
    (try simp only [pp]);refine tk 0 27 d ?_;refine tb 1 28 (.bool true) d ?_;refine tk 2 29 d ?_;refine sk 3 30 d ?_;refine sk 4 31 d ?_;refine sk 5 32 d ?_;refine sk 6 33 d ?_;refine sk 7 34 d ?_;refine sk 8 35 d ?_;refine tk 9 36 d ?_;refine wpAnyH_done (by kernel_rfl) ?_ _
    have aa:=bt M K.o;have ab:=hid (N.out.ZC K.o);have af:=hid (T.out.ZC K.o);have L1:=bl J K.o;have L2:=bl D K.o;clear M N T J D;have M:=aa;have N:=ab;have T:=af;have J:=L1;have D:=L2;clear aa ab af L1 L2;generalize W.drew=W5 at*;have aS:ins.length<=1099511627776:=by have:=HJ.o;omega
    have aj:Hid (Below w.heap.size w (W5.alloc (.cells #[.slice r.2.1 r.1.length r.2.2] 61))):=hid (M.out.alloc M.out.size _);have ac:=hid (N.out.ZC ((Below.refl _ _).alloc (Nat.le_refl W5.heap.size) (.cells #[.slice r.2.1 r.1.length r.2.2] 61)));have ag:=hid (T.out.ZC ((Below.refl _ _).alloc (Nat.le_refl W5.heap.size) (.cells #[.slice r.2.1 r.1.length r.2.2] 61)));have av:Hid (ZP (W5.alloc (.cells #[.slice r.2.1 r.1.length r.2.2] 61)) W5.heap.size 61 [.slice r.2.1 r.1.length r.2.2]):=hid (ZP.new W5 _ _);have an:w.heap.size<=(W5.alloc (.cells #[.slice r.2.1 r.1.length r.2.2] 61)).heap.size:=aj.out.size;go_wp2_with (first | (at_builtin;refine WC rfl _ _ _ rfl w.heap.size 61 i0 _ 1 24 underlying67 aG aI aJ aK rfl (by decide) (.slice I ins.length ic) ins.length _ rfl ac.out (aD W5.heap.size 0) 1 1 [.slice r.2.1 r.1.length r.2.2] rfl rfl (ZP.news av.out) (by simp [Value.oneCell']) (by unfold maxLen;omega) (by omega) an ?_;intro F L Z aw U ah) | fail);have ar:Hid (Below w.heap.size w Z):=hid (aj.out.grown U.out an (ZD ac.out));have ak:Hid (ZS [61] W5 Z):=hid ((ZS.alloc W5 _).trans (ZS.grown ac.out U.out (by simp) U.out.size));have ax:Hid (Z.ownsRow w.heap.size 61 1 (.slice O outs.length oc) outs.length (outs.flatMap X3.cs)):=hid (Y9 ag.out fun k E=>U.out.block k (YB ag.out E) (fun h=>ap.out k h.symm E));have au:Hid (Z.ownsRow w.heap.size 61 1 (.slice F (ins ++ [r]).length L) (ins ++ [r]).length ((ins ++ [r]).flatMap X3.cs)):=hid (by have h:=aw.out;simpa [X3.cs] using h)
    have ai:Hid (∀ k,(Value.slice F (ins ++ [r]).length L).ownBlock=some k->(Value.slice O outs.length oc).ownBlock≠some k):=hid fun k E h=>by
     have s:=ah.o;have e1:(Value.slice F (ins ++ [r]).length L).ownBlock=(Value.slice F (ins.length+1) L).ownBlock:=by cases F <;> rfl
     rw [e1] at E;rw [E] at s;rcases s with s | s
     ·exact ap.out k s.symm h
     ·have:=YB ag.out h;injection s with s
      omega
    have J1:=hid (J.o.keeps ak.o (by decide));have J2:=hid (D.o.keeps ak.o (by decide));go_roundw
    case rel=>exact⟨j+1,ins ++ [r],outs,F,L,O,oc,by omega,hid (by have:=HJ.o;simp;omega),by simp,rfl,by go_num,ar,J1,J2,au,ax,ai,hid (fun x G=>by
     rcases List.mem_append.1 G with G | G
     ·exact ay.o x G
     ·rw [List.mem_singleton.1 G];exact aE.o),az,hid (aq.o)⟩
    case measure=>simp [intOf];omega
   | some i=>
    have aC:=hid hca;have aR:i<r.1.length:=by have:=(VV hca).1;have:=aW.o;omega
    have aY:Hid (Y7 t.Z3 WB=none->ins=rs.take ins.length/\outs ++ [r]= []):=hid fun h=>by rw [aC.o] at h;cases h
    have ae:Hid (Y7 t.Z3 WB=none->ins ++ [r]=rs.take (ins ++ [r]).length/\outs= []):=hid fun h=>by rw [aC.o] at h;cases h
    clear hca aq;have aq:=ae;clear ae;rw [show WS (some i)=(i:Int) from rfl];have bc:(i:Int)< (r.1.length:Int):=by omega
    have a8:(0:Int)<=(i:Int):=by omega
    obtain⟨m,us,eB,hu,hq⟩:=a6.o.at_ (j:=i) (by simpa using aR);obtain⟨row,rB,C⟩:=r;dsimp only at*;subst eB;rw [List.getElem_map] at hu;generalize row[i]=y at*;obtain rfl:=Vl.YY hu;have aP:(m.add (i*3)).block<W.heap.size:=by
     have:=World.block_lt_of_cell? W _ (hq 0 _ rfl);simpa [ZL] using this
    have aM:Hid ((prog.info? 64).map (·.size)=some ([i6 y.ZV,i6 y.num,sT y.word]:lV).length):=iN _ 3;have HS:Hid (∀ V,Bw W V->(fun V=>Bw W V/\V.rangeAt (w.heap.size+1) 0 [i6 v.ZV,i6 v.num,sT v.word]/\ ∀ a u,([i6 y.ZV,i6 y.num,sT y.word]:lV)[a]?=some u->V.cell? ((m.add (i*3)).add a)=some u) V):=hid fun V h=>⟨h,(D.o.below h D.o.lt).Yz,fun a u ha=>(h.cell (by rw [ZL];exact aP)).trans (by rw [ZG];exact hq a u ha)⟩
    have aA: ∀ W,(binOp .eql 64 (.agg #[i6 y.ZV,i6 y.num,sT y.word]) (.agg #[i6 v.ZV,i6 v.num,sT v.word])).run prog W= .ok (.bool (y == v)) W:=fun W=>KK y v W
    clear hu hq aP aR
    cases hyv:(y == v)
    ·rw [hyv] at aA;clear hyv;refine wp_region_held_drew (S:=fun V=>Bw W V/\V.rangeAt (w.heap.size+1) 0 [i6 v.ZV,i6 v.num,sT v.word]/\ ∀ a u,([i6 y.ZV,i6 y.num,sT y.word]:lV)[a]?=some u->V.cell? ((m.add (i*3)).add a)=some u) (by kernel_rfl) (HS.o _ K.o) (fun d=> ?_)
     (try simp only [pp]);refine tk 0 27 d ?_;refine tb 1 28 (.bool false) d ?_;refine tk 2 29 d ?_;refine tk 3 30 d ?_;refine tk 4 31 d ?_;refine tk 5 32 d ?_;refine tv 6 33 rfl d (Zg (by rfl) _ _ rfl (m.add (i*3)) rfl [i6 y.ZV,i6 y.num,sT y.word] _ (fun _ h=>h.2.2) underlying64 rfl aM.o) ?_
     refine tv 7 34 rfl d (yieldsIf_load_mid (by rfl) _ _ rfl (w.heap.size+1) 0 rfl [i6 v.ZV,i6 v.num,sT v.word] _ (fun _ h=>h.2.1) underlying64 rfl aL.o) ?_
     refine tk 8 35 d ?_;refine tk 9 36 d ?_;refine wpAnyH_done (by kernel_rfl) ?_ _
     clear HS d aA;have aa:=bt M K.o;have ab:=hid (N.out.ZC K.o);have af:=hid (T.out.ZC K.o);have L1:=bl J K.o;have L2:=bl D K.o;clear M N T J D;have M:=aa;have N:=ab;have T:=af;have J:=L1;have D:=L2;clear aa ab af L1 L2;generalize W.drew=W5 at*;have aS:outs.length<=1099511627776:=by have:=HJ.o;omega
     have aj:Hid (Below w.heap.size w (W5.alloc (.cells #[.slice (some m) row.length C] 61))):=hid (M.out.alloc M.out.size _);have ac:=hid (T.out.ZC ((Below.refl _ _).alloc (Nat.le_refl W5.heap.size) (.cells #[.slice (some m) row.length C] 61)));have ag:=hid (N.out.ZC ((Below.refl _ _).alloc (Nat.le_refl W5.heap.size) (.cells #[.slice (some m) row.length C] 61)));have av:Hid (ZP (W5.alloc (.cells #[.slice (some m) row.length C] 61)) W5.heap.size 61 [.slice (some m) row.length C]):=hid (ZP.new W5 _ _);have an:w.heap.size<=(W5.alloc (.cells #[.slice (some m) row.length C] 61)).heap.size:=aj.out.size;go_wp2_with (first | (at_builtin;refine WC rfl _ _ _ rfl w.heap.size 61 i0 _ 1 24 underlying67 aG aI aJ aK rfl (by decide) (.slice O outs.length oc) outs.length _ rfl ac.out (aD W5.heap.size 0) 1 1 [.slice (some m) row.length C] rfl rfl (ZP.news av.out) (by simp [Value.oneCell']) (by unfold maxLen;omega) (by omega) an ?_;intro F L Z aw U ah) | fail);have ar:Hid (Below w.heap.size w Z):=hid (aj.out.grown U.out an (ZD ac.out));have ak:Hid (ZS [61] W5 Z):=hid ((ZS.alloc W5 _).trans (ZS.grown ac.out U.out (by simp) U.out.size));have ax:Hid (Z.ownsRow w.heap.size 61 1 (.slice I ins.length ic) ins.length (ins.flatMap X3.cs)):=hid (Y9 ag.out fun k E=>U.out.block k (YB ag.out E) (fun h=>ap.out k E h.symm));have au:Hid (Z.ownsRow w.heap.size 61 1 (.slice F (outs ++ [(row,some m,C)]).length L) (outs ++ [(row,some m,C)]).length ((outs ++ [(row,some m,C)]).flatMap X3.cs)):=hid (by have h:=aw.out;simpa [X3.cs] using h)
     have ai:Hid (∀ k,(Value.slice F (outs ++ [(row,some m,C)]).length L).ownBlock=some k->(Value.slice I ins.length ic).ownBlock≠some k):=hid fun k E h=>by
      have s:=ah.o;have e1:(Value.slice F (outs ++ [(row,some m,C)]).length L).ownBlock=(Value.slice F (outs.length+1) L).ownBlock:=by cases F <;> rfl
      rw [e1] at E;rw [E] at s;rcases s with s | s
      ·exact ap.out k h s.symm
      ·have:=YB ag.out h;injection s with s
       omega
     have J1:=hid (J.o.keeps ak.o (by decide));have J2:=hid (D.o.keeps ak.o (by decide));go_roundw
     case rel=>exact⟨j+1,ins,outs ++ [(row,some m,C)],I,ic,F,L,by omega,hid (by have:=HJ.o;simp;omega),rfl,by simp,by go_num,ar,J1,J2,ax,au,hid (fun k E h=>ai.o k h E),ay,hid (fun x G=>by
      rcases List.mem_append.1 G with G | G
      ·exact az.o x G
      ·rw [List.mem_singleton.1 G];exact aE.o),hid (aY.o)⟩
     case measure=>simp [intOf];omega
    ·rw [hyv] at aA;clear hyv;refine wp_region_held_drew (S:=fun V=>Bw W V/\V.rangeAt (w.heap.size+1) 0 [i6 v.ZV,i6 v.num,sT v.word]/\ ∀ a u,([i6 y.ZV,i6 y.num,sT y.word]:lV)[a]?=some u->V.cell? ((m.add (i*3)).add a)=some u) (by kernel_rfl) (HS.o _ K.o) (fun d=> ?_)
     (try simp only [pp]);refine tk 0 27 d ?_;refine tb 1 28 (.bool false) d ?_;refine tk 2 29 d ?_;refine tk 3 30 d ?_;refine tk 4 31 d ?_;refine tk 5 32 d ?_;refine tv 6 33 rfl d (Zg (by rfl) _ _ rfl (m.add (i*3)) rfl [i6 y.ZV,i6 y.num,sT y.word] _ (fun _ h=>h.2.2) underlying64 rfl aM.o) ?_
     refine tv 7 34 rfl d (yieldsIf_load_mid (by rfl) _ _ rfl (w.heap.size+1) 0 rfl [i6 v.ZV,i6 v.num,sT v.word] _ (fun _ h=>h.2.1) underlying64 rfl aL.o) ?_
     refine tk 8 35 d ?_;refine tk 9 36 d ?_;refine wpAnyH_done (by kernel_rfl) ?_ _
     clear HS d aA;have aa:=bt M K.o;have ab:=hid (N.out.ZC K.o);have af:=hid (T.out.ZC K.o);have L1:=bl J K.o;have L2:=bl D K.o;clear M N T J D;have M:=aa;have N:=ab;have T:=af;have J:=L1;have D:=L2;clear aa ab af L1 L2;generalize W.drew=W5 at*;have aS:ins.length<=1099511627776:=by have:=HJ.o;omega
     have aj:Hid (Below w.heap.size w (W5.alloc (.cells #[.slice (some m) row.length C] 61))):=hid (M.out.alloc M.out.size _);have ac:=hid (N.out.ZC ((Below.refl _ _).alloc (Nat.le_refl W5.heap.size) (.cells #[.slice (some m) row.length C] 61)));have ag:=hid (T.out.ZC ((Below.refl _ _).alloc (Nat.le_refl W5.heap.size) (.cells #[.slice (some m) row.length C] 61)));have av:Hid (ZP (W5.alloc (.cells #[.slice (some m) row.length C] 61)) W5.heap.size 61 [.slice (some m) row.length C]):=hid (ZP.new W5 _ _);have an:w.heap.size<=(W5.alloc (.cells #[.slice (some m) row.length C] 61)).heap.size:=aj.out.size;go_wp2_with (first | (at_builtin;refine WC rfl _ _ _ rfl w.heap.size 61 i0 _ 1 24 underlying67 aG aI aJ aK rfl (by decide) (.slice I ins.length ic) ins.length _ rfl ac.out (aD W5.heap.size 0) 1 1 [.slice (some m) row.length C] rfl rfl (ZP.news av.out) (by simp [Value.oneCell']) (by unfold maxLen;omega) (by omega) an ?_;intro F L Z aw U ah) | fail);have ar:Hid (Below w.heap.size w Z):=hid (aj.out.grown U.out an (ZD ac.out));have ak:Hid (ZS [61] W5 Z):=hid ((ZS.alloc W5 _).trans (ZS.grown ac.out U.out (by simp) U.out.size));have ax:Hid (Z.ownsRow w.heap.size 61 1 (.slice O outs.length oc) outs.length (outs.flatMap X3.cs)):=hid (Y9 ag.out fun k E=>U.out.block k (YB ag.out E) (fun h=>ap.out k h.symm E));have au:Hid (Z.ownsRow w.heap.size 61 1 (.slice F (ins ++ [(row,some m,C)]).length L) (ins ++ [(row,some m,C)]).length ((ins ++ [(row,some m,C)]).flatMap X3.cs)):=hid (by have h:=aw.out;simpa [X3.cs] using h)
     have ai:Hid (∀ k,(Value.slice F (ins ++ [(row,some m,C)]).length L).ownBlock=some k->(Value.slice O outs.length oc).ownBlock≠some k):=hid fun k E h=>by
      have s:=ah.o;have e1:(Value.slice F (ins ++ [(row,some m,C)]).length L).ownBlock=(Value.slice F (ins.length+1) L).ownBlock:=by cases F <;> rfl
      rw [e1] at E;rw [E] at s;rcases s with s | s
      ·exact ap.out k s.symm h
      ·have:=YB ag.out h;injection s with s
       omega
     have J1:=hid (J.o.keeps ak.o (by decide));have J2:=hid (D.o.keeps ak.o (by decide));go_roundw
     case rel=>exact⟨j+1,ins ++ [(row,some m,C)],outs,F,L,O,oc,by omega,hid (by have:=HJ.o;simp;omega),by simp,rfl,by go_num,ar,J1,J2,au,ax,ai,hid (fun x G=>by
      rcases List.mem_append.1 G with G | G
      ·exact ay.o x G
      ·rw [List.mem_singleton.1 G];exact aE.o),az,hid (aq.o)⟩
     case measure=>simp [intOf];omega
  ·have aH:ins.length+outs.length=rs.length:=by have:=HJ.o;omega
   have aV:=hid aH;have aX:Hid (Y7 t.Z3 WB=none->ins=rs):=hid fun h=>by
    obtain⟨s,h2⟩:=HN.o h;subst h2;rw [s,show ins.length=rs.length by simpa using aH,List.take_length]
   clear aH HN HJ;go_wp2;go_ret2;exact⟨ins,outs,I,ic,O,oc,rfl,N.out,T.out,ap.out,aV.o,ay.o,az.o,aX.o,ao.o⟩
end Go.Proofs.YtnhmoibjlakhjaaGreat
