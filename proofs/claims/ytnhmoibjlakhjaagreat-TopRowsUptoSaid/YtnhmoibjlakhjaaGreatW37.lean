/- Lemmas, each under its own conditions. -/
import Derived.Test.YtnhmoibjlakhjaaGreatW35
import Derived.Test.YtnhmoibjlakhjaaGreatW36
set_option linter.all false
namespace Go.Proofs.YtnhmoibjlakhjaaGreat
open Go.Proofs.Tryz
open Lib (hid)
set_option maxRecDepth 100000
set_option maxHeartbeats 16000000
open Go.RowKit
theorem Zk {P:Program}{w:World}{ops:Array Oper}{o:Oper}{a:Act}{K:Act->World->Prop}{Q:Exit->Act->World->Prop}{D:Prop}(C:o.guard=none)(m:TypeId)(x y:Operand)(I:o.op= .store m x y)
  (b:Nat) (cs:lV) (L:a.eval x=pT b) (M:a.eval y= .agg cs.toArray) {t:TypeId} {s:lV} (d:Hid (ZP w b t s)) {n:Nat} (u:s.length=n) (j:cs.length=n)
  (F:Hid ((P.info? m).map (·.size)=some n)) (E: ∀ v∈cs,v.oneCell'=true)
  (h: ∀ w',Hid (Up w w' b t cs)->K (a.put o.dst undef) w'):if Region.wanted o (yielded ops a.tmps)=true then Oper.wp P o a w K Q else D:=by
 have J:Region.wanted o (yielded ops a.tmps)=true:=by simp [Region.wanted,C]
 rw [if_pos J];refine wp_store_mid m x y I b 0 cs.toArray L M (d.o.there 0 _ (by simp [u,j])) (by rw [List.size_toArray,j];exact F.o) (all_oneCell_toArray E) (h _ (hid ?_));exact⟨d.o.ND _ (by rw [u,j]),fun k G=>YZ w b G 0 _,YT w b 0 _,d.o.Xr,ZF lr 0 _⟩
structure Sv (w:World) (base:Nat) (r:Ro) (A0:oA) (k0:Nat) (A1:oA) (k1:Nat):Prop where
 nm:w.ownsRow base 9 1 (.slice A0 r.ZU.length k0) r.ZU.length (r.ZU.flatMap Yy)
 mb:w.ownsRow base 147 2 (.slice A1 r.ZY.length k1) r.ZY.length (r.ZY.flatMap Mb.cs)
theorem Sv.keeps {us:List TypeId}{w w':World}{base:Nat}{r:Ro}{d:oA}{k0:Nat}{j:oA}{k1:Nat}(h:Sv w base r d k0 j k1)(m:ZS us w w')(s:9∉us)(u:147∉us):Sv w' base r d k0 j k1:=⟨h.nm.keeps m s,h.mb.keeps m u⟩
theorem Sv.below {w w':World}{base:Nat}{r:Ro}{d:oA}{k0:Nat}{j:oA}{k1:Nat}(h:Sv w base r d k0 j k1)(hb:Bw w w'):Sv w' base r d k0 j k1:=⟨h.nm.ZC hb,h.mb.ZC hb⟩
structure Gh (w:World) (r:Ro) (A0 A1:oA):Prop where
 nm:ZT w (Xs w CG) [.Z2] (YV r.ZU) A0
 mb:ZT w (Xs w CG) YM (r.ZY.map Mb.da) A1
theorem Sv.t {w:World}{base:Nat}{r:Ro}{d:oA}{k0:Nat}{j:oA}{k1:Nat}(h:Sv w base r d k0 j k1):Gh w r d j:=⟨UR (us:=CG) h.nm,Qp (us:=CG) h.mb⟩
theorem Gh.keeps {us:List TypeId}{w w':World}{r:Ro}{d j:oA}(h:Gh w r d j)(m:ZS us w w')(hd: ∀ t,t∈CG->t∉us):Gh w' r d j:=⟨ZI h.nm m hd,ZI h.mb m hd⟩
def DS (base p:Nat)(w:World)(e:Ending)(w':World):Prop:=
 ∃ (er:Int) (r':Ro) (B0:oA) (l0:Nat) (B1:oA) (l1:Nat),e= .returned (i6 er)/\ZP w' p 30 [.slice B0 r'.ZU.length l0,.slice B1 r'.ZY.length l1]/\Sv w' base r' B0 l0 B1 l1/\Below base w w'/\r'.Zo 512
def Il (g:Nat)(cb:Array Value)(r:Ro)(w0:World):Prop:=
 ∀ (w:World) (base p:Nat) (A0:oA) (k0:Nat) (A1:oA) (k1:Nat),w0.heap.size<=base->base<=w.heap.size->Bw w0 w->Sv w base r A0 k0 A1 k1->ZP w p 30 [.slice A0 r.ZU.length k0,.slice A1 r.ZY.length k1]->base<=p->Yc r=true->
  cQ g (#[pT p] ++cb) w (DS base p w)
def Jf (w:World)(e:Ending)(w':World):Prop:=
 ∃ (er:Int) (r':Ro) (B0:oA) (l0:Nat) (B1:oA) (l1:Nat),e= .returned (.tuple #[.agg #[.slice B0 r'.ZU.length l0,.slice B1 r'.ZY.length l1],i6 er])/\Gh w' r' B0 B1/\Bw w w'/\r'.Zo 512
theorem DI {F T:Nat->oA->Nat->oA->Nat->World->Prop}{G:Prop}(h:(∀ p A c B d w,F p A c B d w->T p A c B d w)->G)(k: ∀ p A c B d w,F p A c B d w->T p A c B d w):G:=h k
theorem Gh.none_ (w:World):Gh w ⟨[],[]⟩ none none:=⟨ZT.nil,ZT.nil⟩
theorem Ro.Lk:(⟨[],[]⟩:Ro).Zo 512:=⟨by simp,by simp,by simp,by simp⟩
theorem Vs (g:Nat)(cb:Array Value)(r:Ro)(A0:oA)(k0:Nat)(A1:oA)(k1:Nat)(w:World)(eg: ∀ args w,(callFunc g args).run prog w= .ok (.enter g args) w)(hN:rA w [.Z2] (YV r.ZU) A0)(hM:rA w YM (r.ZY.map Mb.da) A1)(ht:r.Zo 1099511627776)(am:Il g cb r w):
  cQ 178 #[.agg #[.slice A0 r.ZU.length k0,.slice A1 r.ZY.length k1],.func (.func g) #[] cb] w (Jf w):=by
 have ah:=hid hN;have ag:=hid hM;have HT:=hid ht;have aq:=hid am;have an:=ht.1;have ai:=ht.2.1;have N:=iN 30 2;have af:Hid (TP r=if Yc r then 0 else 1):=hid rfl;clear hN hM ht am;go_enter func178,ntmps178
 go_wp2_with fail;refine Zi _ fun Wa hW=> ?_
 have ae:=bQ hW;have Pa:=nD hW;have Qa:=nF hW;clear hW;refine(Pc r A0 k0 A1 k1 Wa (ah.o.later ae.o) (ag.o.later ae.o) HT.o).mono ?_
 rintro e m ⟨rfl,hb⟩;have C:=bt ae hb;have h:=bl Pa hb;have Q0:=bl Qa hb;clear hb ae Pa Qa
 cases hr:Yc r
 ·rw [hr] at af;rw [show TP r=1 from af.o];clear hr;go_wp2_with (first | ((refine sO Q0 N ?_);intro wS T) | fail);refine bodyPost_ret (rt (hid T.o.YK) underlying30 N) rfl ?_
  exact⟨1,⟨[],[]⟩,none,0,none,0,rfl,Gh.none_ _,T.o.below C.o (by omega),Ro.Lk⟩
 ·rw [hr] at af;rw [show TP r=0 from af.o];have av:=hid hr;clear hr;go_wp2_with fail;have d:Hid (Bw m m.drew):=hid br.drew;refine' DI (F:=fun p B0 l0 B1 l1 V=>Hid (ZP V p 30 [sl B0 r.ZU l0,sl B1 r.ZY l1])/\Hid (V.ownsRow m.heap.size 9 1 (sl B0 r.ZU l0) r.ZU.length (r.ZU.flatMap Yy))/\Hid (V.ownsRow m.heap.size 147 2 (sl B1 r.ZY l1) r.ZY.length (r.ZY.flatMap Mb.cs))/\Hid (Bw m V)/\Hid (m.heap.size<=p)) (fun key=>_) _
  rotate_left
  ·refine wp_region_held_drew (S:=fun w'=>Bw m w'/\w'.cell? (aN w 0)=some (sl A0 r.ZU k0)/\w'.cell? (aN w 1)=some (sl A1 r.ZY k1)) (by kernel_rfl) ⟨d.o,((d.o).cell (p:=(aN w 0)) h.o.lt).trans (h.o.cell 0),((d.o).cell (p:=(aN w 1)) h.o.lt).trans (h.o.cell 1)⟩ (fun s=> ?_)
   (try simp only [pp]);refine tk 0 15 s ?_;refine tk 1 16 s ?_;refine tk 3 18 s ?_;refine tk 4 19 s ?_;refine wpAnyH_ready (rs:= [2,7]) (by kernel_rfl) (by simp) ?_
   refine AllReadyH.cons (o:=⟨some 17,_,_,_,_,_⟩) rfl (fun K j=> ?_) (AllReadyH.cons (o:=⟨some 7,_,_,_,_,_⟩) rfl (fun K j=> ?_) AllReadyH.nil)
   ·go_simp;have O:=d.o.size;refine(Xk A0 k0 r.ZU m.drew (XS (ah.o.later (C.o.trans (d.o.mono C.o.size)))) an).mono ?_
    rintro e I ⟨B0,l0,rfl,G,hb⟩;replace d:=hid (d.o.trans (hb.mono d.o.size));have u:=hid (G.Yp (show m.heap.size<=m.drew.heap.size from O));clear G hb;refine j.out _ _ ⟨d.o,((d.o).cell (p:=(aN w 0)) h.o.lt).trans (h.o.cell 0),((d.o).cell (p:=(aN w 1)) h.o.lt).trans (h.o.cell 1)⟩ (fun s=> ?_);clear j K;(try simp only [pp])
    refine wpAnyH_ready (rs:= [5,7]) (by kernel_rfl) (by simp) ?_
    refine AllReadyH.cons (o:=⟨some 20,_,_,_,_,_⟩) rfl (fun K j=> ?_) (AllReadyH.cons (o:=⟨some 7,_,_,_,_,_⟩) rfl (fun K j=> ?_) AllReadyH.nil)
    ·go_simp;have O:=d.o.size;refine(Xc A1 k1 r.ZY I (Mb.Yn (ag.o.later (C.o.trans (d.o.mono C.o.size)))) ai).mono ?_
     rintro e M ⟨B1,l1,rfl,G,hb⟩;replace u:=hid (u.o.ZC hb);replace d:=hid (d.o.trans (hb.mono d.o.size));have L:=hid (G.Yp (show m.heap.size<=I.heap.size from O));clear G hb;refine j.out _ _ ⟨d.o,((d.o).cell (p:=(aN w 0)) h.o.lt).trans (h.o.cell 0),((d.o).cell (p:=(aN w 1)) h.o.lt).trans (h.o.cell 1)⟩ (fun s=> ?_);clear j K;(try simp only [pp])
     refine tk 6 21 s ?_;refine on 7 7 fun K j=> ?_
     go_simp;have hb:Below M.heap.size M (M.alloc (.cells #[sN,sN] 30)):=br.alloc lr _;have E:Hid (ZP (M.alloc (.cells #[sN,sN] 30)) M.heap.size 30 [sN,sN]):=hid (ZP.new M _ _);have J:Hid (m.heap.size<=M.heap.size):=hid d.o.size;replace u:=hid (u.o.ZC hb);replace L:=hid (L.o.ZC hb);replace d:=hid (d.o.trans (hb.mono d.o.size));clear hb;generalize M.alloc (.cells #[sN,sN] 30)=V3 at*;generalize M.heap.size=p at*;refine j.out _ _ ⟨d.o,((d.o).cell (p:=(aN w 0)) h.o.lt).trans (h.o.cell 0),((d.o).cell (p:=(aN w 1)) h.o.lt).trans (h.o.cell 1)⟩ (fun s=> ?_);clear j K;(try simp only [pp])
     refine SR 8 fun K j=> ?_
     refine Zk rfl 30 _ _ rfl p [sl B0 r.ZU l0,sl B1 r.ZY l1] rfl rfl E (by simp) (by simp) N (by simp [Value.oneCell']) ?_
     intro Z U;have D:Hid (Bw m Z):=hid (U.o.below d.o J.o);have ad:=hid (u.o.keeps U.o.keeps (by decide));have ac:=hid (L.o.keeps U.o.keeps (by decide));refine j.out _ _ ⟨D.o,((D.o).cell (p:=(aN w 0)) h.o.lt).trans (h.o.cell 0),((D.o).cell (p:=(aN w 1)) h.o.lt).trans (h.o.cell 1)⟩ (fun s=> ?_);clear j K;(try simp only [pp])
     refine wpAnyH_done (by kernel_rfl) ?_ _
     exact key p B0 l0 B1 l1 Z ⟨hid U.o.YK,ad,ac,D,J⟩
    ·go_simp;have hb:Below I.heap.size I (I.alloc (.cells #[sN,sN] 30)):=br.alloc lr _;have E:Hid (ZP (I.alloc (.cells #[sN,sN] 30)) I.heap.size 30 [sN,sN]):=hid (ZP.new I _ _);have J:Hid (m.heap.size<=I.heap.size):=hid d.o.size;replace u:=hid (u.o.ZC hb);replace d:=hid (d.o.trans (hb.mono d.o.size));clear hb;generalize I.alloc (.cells #[sN,sN] 30)=V4 at*;generalize I.heap.size=p at*;refine j.out _ _ ⟨d.o,((d.o).cell (p:=(aN w 0)) h.o.lt).trans (h.o.cell 0),((d.o).cell (p:=(aN w 1)) h.o.lt).trans (h.o.cell 1)⟩ (fun s=> ?_);clear j K;(try simp only [pp])
     refine on 5 20 fun K j=> ?_
     go_simp;have O:=d.o.size;refine(Xc A1 k1 r.ZY V4 (Mb.Yn (ag.o.later (C.o.trans (d.o.mono C.o.size)))) ai).mono ?_
     rintro e V5 ⟨B1,l1,rfl,G,hb⟩;replace u:=hid (u.o.ZC hb);replace E:=bl E hb;replace d:=hid (d.o.trans (hb.mono d.o.size));have L:=hid (G.Yp (show m.heap.size<=V4.heap.size from O));clear G hb;refine j.out _ _ ⟨d.o,((d.o).cell (p:=(aN w 0)) h.o.lt).trans (h.o.cell 0),((d.o).cell (p:=(aN w 1)) h.o.lt).trans (h.o.cell 1)⟩ (fun s=> ?_);clear j K;(try simp only [pp])
     refine tk 6 21 s ?_;refine SR 8 fun K j=> ?_
     refine Zk rfl 30 _ _ rfl p [sl B0 r.ZU l0,sl B1 r.ZY l1] rfl rfl E (by simp) (by simp) N (by simp [Value.oneCell']) ?_
     intro Z U;have D:Hid (Bw m Z):=hid (U.o.below d.o J.o);have ad:=hid (u.o.keeps U.o.keeps (by decide));have ac:=hid (L.o.keeps U.o.keeps (by decide));refine j.out _ _ ⟨D.o,((D.o).cell (p:=(aN w 0)) h.o.lt).trans (h.o.cell 0),((D.o).cell (p:=(aN w 1)) h.o.lt).trans (h.o.cell 1)⟩ (fun s=> ?_);clear j K;(try simp only [pp])
     refine wpAnyH_done (by kernel_rfl) ?_ _
     exact key p B0 l0 B1 l1 Z ⟨hid U.o.YK,ad,ac,D,J⟩
   ·go_simp;have hb:Below m.heap.size m (m.alloc (.cells #[sN,sN] 30)).drew:=(br.alloc lr _).drew;have E:Hid (ZP (m.alloc (.cells #[sN,sN] 30)).drew m.heap.size 30 [sN,sN]):=hid (ZP.new m _ _);have J:Hid (m.heap.size<=m.heap.size):=hid lr;replace d:=hid hb;clear hb;generalize hV:(m.alloc (.cells #[sN,sN] 30)).drew=V6 at*;clear hV;obtain⟨p,hp⟩: ∃ p,p=m.heap.size:=⟨_,rfl⟩
    have ak:Hid (ZP V6 p 30 [sN,sN]):=hid (by rw [hp];exact E.o);have ab:Hid (m.heap.size<=p):=hid (by rw [hp];exact Nat.le_refl _);rw [<-hp];clear E J hp;have E:=ak;have J:=ab;clear ak ab;refine j.out _ _ ⟨d.o,((d.o).cell (p:=(aN w 0)) h.o.lt).trans (h.o.cell 0),((d.o).cell (p:=(aN w 1)) h.o.lt).trans (h.o.cell 1)⟩ (fun s=> ?_);clear j K;(try simp only [pp])
    refine on 2 17 fun K j=> ?_
    go_simp;have O:=d.o.size;refine(Xk A0 k0 r.ZU V6 (XS (ah.o.later (C.o.trans (d.o.mono C.o.size)))) an).mono ?_
    rintro e V7 ⟨B0,l0,rfl,G,hb⟩;replace E:=bl E hb;replace d:=hid (d.o.trans (hb.mono d.o.size));have u:=hid (G.Yp (show m.heap.size<=V6.heap.size from O));clear G hb;refine j.out _ _ ⟨d.o,((d.o).cell (p:=(aN w 0)) h.o.lt).trans (h.o.cell 0),((d.o).cell (p:=(aN w 1)) h.o.lt).trans (h.o.cell 1)⟩ (fun s=> ?_);clear j K;(try simp only [pp])
    refine on 5 20 fun K j=> ?_
    go_simp;have O:=d.o.size;refine(Xc A1 k1 r.ZY V7 (Mb.Yn (ag.o.later (C.o.trans (d.o.mono C.o.size)))) ai).mono ?_
    rintro e V8 ⟨B1,l1,rfl,G,hb⟩;replace u:=hid (u.o.ZC hb);replace E:=bl E hb;replace d:=hid (d.o.trans (hb.mono d.o.size));have L:=hid (G.Yp (show m.heap.size<=V7.heap.size from O));clear G hb;refine j.out _ _ ⟨d.o,((d.o).cell (p:=(aN w 0)) h.o.lt).trans (h.o.cell 0),((d.o).cell (p:=(aN w 1)) h.o.lt).trans (h.o.cell 1)⟩ (fun s=> ?_);clear j K;(try simp only [pp])
    refine tk 6 21 s ?_;refine SR 8 fun K j=> ?_
    refine Zk rfl 30 _ _ rfl p [sl B0 r.ZU l0,sl B1 r.ZY l1] rfl rfl E (by simp) (by simp) N (by simp [Value.oneCell']) ?_
    intro Z U;have D:Hid (Bw m Z):=hid (U.o.below d.o J.o);have ad:=hid (u.o.keeps U.o.keeps (by decide));have ac:=hid (L.o.keeps U.o.keeps (by decide));refine j.out _ _ ⟨D.o,((D.o).cell (p:=(aN w 0)) h.o.lt).trans (h.o.cell 0),((D.o).cell (p:=(aN w 1)) h.o.lt).trans (h.o.cell 1)⟩ (fun s=> ?_);clear j K;(try simp only [pp])
    refine wpAnyH_done (by kernel_rfl) ?_ _
    exact key p B0 l0 B1 l1 Z ⟨hid U.o.YK,ad,ac,D,J⟩
  ·rintro p B0 l0 B1 l1 V ⟨HP,u,L,aa,ar⟩;clear d;go_wp2_with fail;have QV:=bl Q0 aa.o;refine(aq.o V m.heap.size p B0 l0 B1 l1 C.o.size aa.o.size (C.o.trans (aa.o.mono C.o.size)) ⟨u.o,L.o⟩ HP.o ar.o av.o).mono ?_
   rintro e M ⟨er,r',C0,m0,C1,m1,rfl,hp,ao,hb,ap⟩;have ax:=Q0.o.lt;have aj:=hid (C.o.trans ((aa.o.trans hb).mono C.o.size));have Q2:=hid (QV.o.below hb ax);have P2:=hid hp;have au:=hid ao;have aw:=hid ap;clear hp ao hb ap HP u L aa QV;by_cases h0:er=0
   ·subst h0;have e0:=ce P2 0;have e1:=ce P2 1;go_wp2_with (first | ((refine sO Q2 N ?_);intro wS T) | fail);refine bodyPost_ret (rt (hid T.o.YK) underlying30 N) rfl ?_
    exact⟨0,r',C0,m0,C1,m1,rfl,au.o.t.keeps T.o.keeps (by decide),T.o.below aj.o (by omega),aw.o⟩
   ·have h1:(er == 0)=false:=by simpa using h0
    go_wp2_with (first | ((refine sO Q2 N ?_);intro wS T) | fail);refine bodyPost_ret (rt (hid T.o.YK) underlying30 N) rfl ?_
    exact⟨er,⟨[],[]⟩,none,0,none,0,rfl,Gh.none_ _,T.o.below aj.o (by omega),Ro.Lk⟩
theorem Sv.GH {w:World}{base:Nat}{r:Ro}{d:oA}{k0:Nat}{j:oA}{k1:Nat}(h:Sv w base r d k0 j k1):Zj w w.heap.size d Yy r.ZU:=YS h.nm rfl
theorem Sv.J6 {w:World}{base:Nat}{r:Ro}{j:oA}{k0:Nat}{d:oA}{k1:Nat}(h:Sv w base r j k0 d k1):Zj w w.heap.size d Mb.cs r.ZY:=YS h.mb rfl
theorem GL (r:Ro)(nm:lU)(c1:Nat)(w0:World)(U:ZP w0 c1 9 [sT nm]):Il 187 #[pT c1] r w0:=by
 intro w base p u k0 N k1 aK aw az ax hp aL hr;have E:=hid hp;have af:=hid ax;have Z:Hid (base<=w.heap.size):=hid aw;have ak:Hid (Below base w w):=hid br;have T:Hid (ZP w c1 9 [sT nm]):=hid (U.below az U.lt);have ac:c1<base:=Nat.lt_of_lt_of_le U.lt aK;have L:Hid (r.Zo 512):=hid (by obtain⟨a,b,e,f⟩:=XD hr;exact⟨by omega,by omega,fun n D=>by have:=e n D;omega,fun m G=>by have:=f m G;omega⟩)
 have aJ:=hid hr;have ay:r.ZU.length<=1099511627776:=by have:=L.o.1;omega
 have aO:r.ZY.length<=1099511627776:=by have:=L.o.2.1;omega
 clear hp ax aw az hr U;go_enter func187,ntmps187
 go_wp2_with fail;refine wp_region_held_drew (S:=fun w'=>Bw w w'/\w'.cell? (aD p 0)=some (sl u r.ZU k0)/\w'.cell? (aD p 1)=some (sl N r.ZY k1)/\w'.cell? (aD c1 0)=some (sT nm)) (by kernel_rfl) (⟨(Below.refl w.heap.size w).drew,cb E ((Below.refl w.heap.size w).drew) 0,cb E ((Below.refl w.heap.size w).drew) 1,cb T ((Below.refl w.heap.size w).drew) 0⟩) (fun j=> ?_)
 (try simp only [pp]);refine tk 0 7 j ?_;refine tk 1 8 j ?_;refine tk 2 9 j ?_;refine tk 3 10 j ?_;refine tk 4 11 j ?_;refine on 5 12 fun K C=> ?_
 go_simp;refine(Ic r.ZU u k0 nm w.drew af.o.GH ay).mono ?_
 rintro e w1 ⟨at_,b,rfl,ai,_,hb⟩;have M:=j.1.trans hb;refine C.out _ _ ⟨M,cb E (M) 0,cb E (M) 1,cb T (M) 0⟩ (fun j=> ?_);clear hb M;clear C K;(try simp only [pp])
 refine tk 6 6 j ?_;refine tk 7 13 j ?_;refine tk 8 14 j ?_;refine tk 9 4 j ?_;refine tk 10 5 j ?_;refine wpAnyH_done (by kernel_rfl) ?_ _
 have d:=j.1;have aq:=bl E d;have au:=hid (af.o.below d);have am:=hid (ak.o.trans ((d).mono Z.o));have aa:=hid (Nat.le_trans Z.o (d).size);have ae:=bl T d;clear j d E af ak Z T;have q:=ce ae 0;go_wp2_with fail;refine(YI nm w1).mono ?_
 rintro e s ⟨rfl,m,G⟩;have d:Bw w1 s:=by rw [G];exact below_drewN br m
 clear G q;have F:=bl aq d;have J:=hid (au.o.below d);have O:=hid (am.o.trans ((d).mono aa.o));have ab:=hid (Nat.le_trans aa.o (d).size);have an:=bl ae d;clear d aq au am aa ae
 cases hnb:Zw nm
 ·clear hnb;go_wp2;go_ret;exact⟨1,r,u,k0,N,k1,rfl,F.o,J.o,O.o,L.o⟩
 have aG:=hid (X5 hnb);clear hnb
 cases b
 case true=>
  go_wp2;go_ret;exact⟨70,r,u,k0,N,k1,rfl,F.o,J.o,O.o,L.o⟩
 have q0:=ce F 0;by_cases h16:16<=r.ZU.length
 ·have h1:(r.ZU.length:Int)>=16:=by omega
  have h2:(16:Int)<=(r.ZU.length:Int):=by omega
  go_wp2;go_ret;exact⟨2,r,u,k0,N,k1,rfl,F.o,J.o,O.o,L.o⟩
 have h1: ¬ (r.ZU.length:Int)>=16:=by omega
 have h2: ¬ (16:Int)<=(r.ZU.length:Int):=by omega
 go_wp2_with fail;have hS:s.drew.cell? (aD p 0)=some (sl u r.ZU k0)/\s.drew.cell? (aD c1 0)=some (sT nm):=⟨F.o.cell 0,an.o.cell 0⟩
 refine Zp 11 (S:=fun w'=>w'.cell? (aD p 0)=some (sl u r.ZU k0)/\w'.cell? (aD c1 0)=some (sT nm)) (by kernel_rfl) hS (fun h=> ?_)
 (try simp only [pp]);refine YU 0 28 h ?_;refine YU 1 29 h ?_;refine YU 2 30 h ?_;refine YU 3 31 h ?_;refine YU 4 32 h ?_;refine YU 5 33 h ?_;refine YU 6 34 h ?_;refine OH 7 35 fun K C=> ?_
 go_simp;have d:Below s.heap.size s (s.alloc (.cells #[sT nm] 9)).drew:=(br.alloc lr _).drew;have HX:Hid (ZP (s.alloc (.cells #[sT nm] 9)).drew s.heap.size 9 [sT nm]):=hid (ZP.new s _ _);have ar:=bl F d;have av:=hid (J.o.below d);have aB:=hid (O.o.trans ((d).mono ab.o));have ad:=hid (Nat.le_trans ab.o (d).size);have ao:=bl an d;have aM: ∀ g,u=some (aD g 0)->s.heap.size≠g:=fun g hg e=>by have:=YB J.o.nm (k:=g) (by rw [hg];rfl);omega
 have ah:(s.alloc (.cells #[sT nm] 9)).drew.cell? (aD p 0)=some (sl u r.ZU k0)/\(s.alloc (.cells #[sT nm] 9)).drew.cell? (aD c1 0)=some (sT nm):=⟨ar.o.cell 0,ao.o.cell 0⟩
 refine C.out _ _ ah ?_
 generalize (s.alloc (.cells #[sT nm] 9)).drew=wx at*;generalize s.heap.size=xb at*;clear C K;(try simp only [pp])
 clear h;have h:=ah;refine OH 8 36 fun K C=> ?_
 go_simp;refine(Ko base r.ZU u k0 at_ nm xb wx av.o.nm ai HX.o aM ay ad.o).mono ?_
 rintro e w9 ⟨A5,c5,rfl,ho,hb,hk⟩;have I:=hid (ar.o.keeps hk (by decide));have aA:=hid (aB.o.trans hb);have aH:=hid ho;have aF:=hid (av.o.mb.keeps hk (by decide));have aE:=hid (ao.o.below hb ac);have ag:w9.cell? (aD p 0)=some (sl u r.ZU k0)/\w9.cell? (aD c1 0)=some (sT nm):=⟨I.o.cell 0,aE.o.cell 0⟩
 refine C.out _ _ ag ?_
 clear C K;(try simp only [pp])
 clear h;have h:=ag;refine TU 9 37 (fun _=>h) ?_;refine YU 10 38 h ?_;refine Zu.WR (i:=11) (o:=⟨none,_,_,_,_,_⟩) (by kernel_rfl) (by kernel_rfl) rfl (fun K C=> ?_)
 have e0:=ce I 0;have f0:=I.o.frozen 0;go_simp;refine C.out _ _ (Zu.done (by kernel_rfl) ?_ _);clear C K h ag hS ah e0 f0;refine Qv _ fun wz V=> ?_
 have ap:Hid (ZS [30] w9 wz):=hid (by rw [V];exact ZS.Zx I.o.Xr (by simp) _);have aI:=rB V (I.o.Zx 0 _);have aC:Hid (Below base w wz):=hid (by rw [V];exact aA.o.setCell aL _);clear V;have aj:(r.ZU.take at_ ++nm ::r.ZU.drop at_).length=r.ZU.length+1:=by simp only [List.length_append,List.length_take,List.length_cons,List.length_drop];omega
 go_wp2;go_ret;refine⟨0,⟨r.ZU.take at_ ++nm ::r.ZU.drop at_,r.ZY⟩,A5,c5,N,k1,rfl,?_,⟨?_,?_⟩,aC.o,?_⟩
 ·rw [aj];exact aI.o
 ·rw [aj];exact aH.o.keeps ap.o (by decide)
 ·exact aF.o.keeps ap.o (by decide)
 ·obtain⟨a,b,e,f⟩:=XD aJ.o;refine⟨by show List.length _<=512;rw [aj];omega,by show r.ZY.length<=512;omega,fun n D=> ?_,fun m G=>by have:=f m G;omega⟩
  rcases List.mem_append.1 D with D | D
  ·have:=e n (List.mem_of_mem_take D);omega
  ·rcases List.mem_cons.1 D with rfl | D
   ·have:=aG.o;omega
   ·have:=e n (List.mem_of_mem_drop D);omega
theorem J7 (m:Mb)(nm:lU)(c1:Nat)(w:World)(h:ZP w c1 9 [sT nm]):
  cQ 182 #[.agg (m.cs).toArray,pT c1] w fun e w'=>e= .returned (.bool (m.ZQ == nm || m.of == nm))/\Bw w w':=by
 have a0:w.cell? (aD c1 0)=some (sT nm):=h.cell 0;have l0:=h.lt;clear h;unfold Mb.cs
 cases hr:(m.ZQ == nm)
 ·go_enter func182,ntmps182
  go_wp2;go_ret;exact⟨rfl,br.alloc lr _⟩
 ·go_enter func182,ntmps182
  go_wp2;go_ret;exact⟨rfl,br.alloc lr _⟩
theorem IL (r:Ro)(nm:lU)(c1:Nat)(w0:World)(M:ZP w0 c1 9 [sT nm]):Il 179 #[pT c1] r w0:=by
 intro w base p s k0 C k1 ax ah am ai hp az hr;have u:=hid hp;have ab:=hid ai;have T:Hid (base<=w.heap.size):=hid ah;have ae:Hid (Below base w w):=hid br;have E:Hid (ZP w c1 9 [sT nm]):=hid (M.below am M.lt);have aj:c1<base:=Nat.lt_of_lt_of_le M.lt ax;have L:Hid (r.Zo 512):=hid (by obtain⟨a,b,e,f⟩:=XD hr;exact⟨by omega,by omega,fun n hn=>by have:=e n hn;omega,fun m hm=>by have:=f m hm;omega⟩)
 have av:=hid hr;have ak:r.ZU.length<=1099511627776:=by have:=L.o.1;omega
 have ay:r.ZY.length<=1099511627776:=by have:=L.o.2.1;omega
 clear hp ai ah am hr M;go_enter func179,ntmps179
 go_wp2_with fail;refine wp_region_held_drew (S:=fun w'=>Bw w w'/\w'.cell? (aD p 0)=some (sl s r.ZU k0)/\w'.cell? (aD p 1)=some (sl C r.ZY k1)/\w'.cell? (aD c1 0)=some (sT nm)) (by kernel_rfl) (⟨(Below.refl w.heap.size w).drew,cb u ((Below.refl w.heap.size w).drew) 0,cb u ((Below.refl w.heap.size w).drew) 1,cb E ((Below.refl w.heap.size w).drew) 0⟩) (fun h=> ?_)
 (try simp only [pp]);refine tk 0 7 h ?_;refine tk 1 8 h ?_;refine tk 2 9 h ?_;refine tk 3 10 h ?_;refine tk 4 11 h ?_;refine on 5 12 fun K hK=> ?_
 go_simp;refine(Ic r.ZU s k0 nm w.drew ab.o.GH ak).mono ?_
 rintro e w1 ⟨at_,b,rfl,aw,halt,hb⟩;have D:=h.1.trans hb;refine hK.out _ _ ⟨D,cb u (D) 0,cb u (D) 1,cb E (D) 0⟩ (fun h=> ?_);clear hb D;clear hK K;(try simp only [pp])
 refine tk 6 6 h ?_;refine tk 7 13 h ?_;refine tk 8 14 h ?_;refine tk 9 4 h ?_;refine tk 10 5 h ?_;refine wpAnyH_done (by kernel_rfl) ?_ _
 have O:=hid halt;have j:=h.1;have G:=bl u j;have J:=hid (ab.o.below j);have V:=hid (ae.o.trans ((j).mono T.o));have U:=hid (Nat.le_trans T.o (j).size);have F:=bl E j;clear h j halt u ab ae T E
 cases b
 ·clear O;go_wp2;go_ret;exact⟨71,r,s,k0,C,k1,rfl,G.o,J.o,V.o,L.o⟩
 have aa:at_<r.ZU.length:=O.o (by trivial);clear O;have q1:=ce G 1;go_wp2_with fail;have cH:=Ku (fun d=>tx d 0 == nm || tx d 1 == nm) 182 #[pT c1] (r.ZY.map Mb.da) C k1 w1 (enters_of func182 (by kernel_rfl) rfl) (ZT.XJ (us:=CG) (Qp J.o.mb)) (by simpa using ay) (by
  intro W' d vs hb _ hv;obtain⟨m,rfl,rfl⟩:=Mb.YG hv;exact J7 m nm c1 W' (F.o.below hb F.o.lt))
 rw [List.length_map] at cH;refine cH.mono ?_
 rintro e w2 ⟨rfl,j⟩;have Z:=bl G j;have ac:=hid (J.o.below j);have af:=hid (V.o.trans ((j).mono U.o));have ap:=hid (Nat.le_trans U.o (j).size);have aA:=bl F j;clear cH j q1 G J V U F;generalize ((r.ZY.map Mb.da).any fun d=>tx d 0 == nm || tx d 1 == nm)=b2 at*
 cases b2
 case true=>
  go_wp2;go_ret;exact⟨73,r,s,k0,C,k1,rfl,Z.o,ac.o,af.o,L.o⟩
 have q:=ce Z 0;go_wp2_with fail;refine(KN base r.ZU s k0 at_ w2 ac.o.nm aa ak).mono ?_
 rintro e N ⟨rfl,ho,hb,hk,_⟩;have I:=hid (Z.o.keeps hk (by decide));have an:=hid (af.o.trans hb);have ar:=hid ho;have aq:=hid (ac.o.mb.keeps hk (by decide));clear ho hb hk q;have e0:=ce I 0;have f0:=I.o.frozen 0;have ag:Hid (ZS [30] N (N.setCell (aD p 0) (.slice s (r.ZU.length - 1:Nat) k0))):=hid (ZS.Zx I.o.Xr (by simp) _);have au:Hid (ZP (N.setCell (aD p 0) (.slice s (r.ZU.length - 1:Nat) k0)) p 30 [.slice s (r.ZU.length - 1:Nat) k0,sl C r.ZY k1]):=hid (I.o.Zx 0 _);have ao:Hid (Below base w (N.setCell (aD p 0) (.slice s (r.ZU.length - 1:Nat) k0))):=hid (an.o.setCell az _);have ad:(r.ZU.eraseIdx at_).length=r.ZU.length - 1:=List.length_eraseIdx_of_lt aa;go_wp2;go_ret;refine⟨0,⟨r.ZU.eraseIdx at_,r.ZY⟩,s,k0,C,k1,rfl,?_,⟨?_,?_⟩,ao.o,?_⟩
 ·rw [ad];exact au.o
 ·rw [ad];exact ar.o.keeps ag.o (by decide)
 ·exact aq.o.keeps ag.o (by decide)
 ·obtain⟨a,b,e,f⟩:=XD av.o;refine⟨by show List.length _<=512;rw [ad];omega,by show r.ZY.length<=512;omega,fun n hn=>by have:=e n (List.mem_of_mem_eraseIdx hn);omega,fun m hm=>by have:=f m hm;omega⟩
theorem JX (r:Ro)(M I:lU)(c1 c2:Nat)(w0:World)(F:ZP w0 c1 9 [sT M])(G:ZP w0 c2 9 [sT I]):Il 192 #[pT c1,pT c2] r w0:=by
 intro w base p J k0 h k1 ah ai ad aj hp ay hr;have s:=hid hp;have V:=hid aj;have T:Hid (base<=w.heap.size):=hid ai;have ae:Hid (Below base w w):=hid br;have C:Hid (ZP w c1 9 [sT M]):=hid (F.below ad F.lt);have ak:c1<base:=Nat.lt_of_lt_of_le F.lt ah;have D:Hid (ZP w c2 9 [sT I]):=hid (G.below ad G.lt);have am:c2<base:=Nat.lt_of_lt_of_le G.lt ah;have ab:Hid (r.Zo 512):=hid (by obtain⟨a,b,e,f⟩:=XD hr;exact⟨by omega,by omega,fun n hn=>by have:=e n hn;omega,fun m hm=>by have:=f m hm;omega⟩)
 have aw:=hid hr;have aB:r.ZU.length<=1099511627776:=by have:=ab.o.1;omega
 have an:r.ZY.length<=1099511627776:=by have:=ab.o.2.1;omega
 clear hp aj ai ad hr F G;go_enter func192,ntmps192
 go_wp2_with fail;refine wp_region_held_drew (S:=fun w'=>Bw w w'/\w'.cell? (aD p 0)=some (sl J r.ZU k0)/\w'.cell? (aD p 1)=some (sl h r.ZY k1)/\w'.cell? (aD c1 0)=some (sT M)/\w'.cell? (aD c2 0)=some (sT I)) (by kernel_rfl) (⟨(Below.refl w.heap.size w).drew,cb s ((Below.refl w.heap.size w).drew) 0,cb s ((Below.refl w.heap.size w).drew) 1,cb C ((Below.refl w.heap.size w).drew) 0,cb D ((Below.refl w.heap.size w).drew) 0⟩) (fun d=> ?_)
 (try simp only [pp]);refine tk 0 8 d ?_;refine tk 1 9 d ?_;refine tk 2 10 d ?_;refine tk 3 11 d ?_;refine tk 4 12 d ?_;refine tk 5 13 d ?_;refine tk 6 14 d ?_;refine on 7 15 fun K hK=> ?_
 go_simp;have L:=PW r.ZY h k1 (⟨M,I⟩:Mb) w.drew V.o.J6 an;unfold Mb.cs at L;dsimp only at L;refine L.mono ?_
 rintro e w1 ⟨at_,b,rfl,ax,halt,hb⟩;have u:=d.1.trans hb;refine hK.out _ _ ⟨u,cb s (u) 0,cb s (u) 1,cb C (u) 0,cb D (u) 0⟩ (fun d=> ?_);clear hb u L;clear hK K;(try simp only [pp])
 refine tk 8 7 d ?_;refine tk 9 16 d ?_;refine tk 10 17 d ?_;refine tk 11 5 d ?_;refine tk 12 6 d ?_;refine wpAnyH_done (by kernel_rfl) ?_ _
 have O:=hid halt;have j:=d.1;have U:=bl s j;have Z:=hid (V.o.below j);have af:=hid (ae.o.trans ((j).mono T.o));have aq:=hid (Nat.le_trans T.o (j).size);have az:=bl C j;have aA:=bl D j;clear d j halt s V ae T C D
 cases b
 ·clear O;go_wp2;go_ret;exact⟨71,r,J,k0,h,k1,rfl,U.o,Z.o,af.o,ab.o⟩
 have aa:at_<r.ZY.length:=O.o (by trivial);clear O;have q:=ce U 1;go_wp2_with fail;refine(OC base r.ZY h k1 at_ w1 Z.o.mb aa an).mono ?_
 rintro e N ⟨rfl,ho,hb,hk,_⟩;have E:=hid (U.o.keeps hk (by decide));have ao:=hid (af.o.trans hb);have au:=hid ho;have ar:=hid (Z.o.nm.keeps hk (by decide));clear ho hb hk q;have e0:=ce E 1;have f0:=E.o.frozen 1;have ag:Hid (ZS [30] N (N.setCell (aD p 1) (.slice h (r.ZY.length - 1:Nat) k1))):=hid (ZS.Zx E.o.Xr (by simp) _);have av:Hid (ZP (N.setCell (aD p 1) (.slice h (r.ZY.length - 1:Nat) k1)) p 30 [sl J r.ZU k0,.slice h (r.ZY.length - 1:Nat) k1]):=hid (E.o.Zx 1 _);have ap:Hid (Below base w (N.setCell (aD p 1) (.slice h (r.ZY.length - 1:Nat) k1))):=hid (ao.o.setCell ay _);have ac:(r.ZY.eraseIdx at_).length=r.ZY.length - 1:=List.length_eraseIdx_of_lt aa;go_wp2;go_ret;refine⟨0,⟨r.ZU,r.ZY.eraseIdx at_⟩,J,k0,h,k1,rfl,?_,⟨?_,?_⟩,ap.o,?_⟩
 ·rw [ac];exact av.o
 ·exact ar.o.keeps ag.o (by decide)
 ·rw [ac];exact au.o.keeps ag.o (by decide)
 ·obtain⟨a,b,e,f⟩:=XD aw.o;refine⟨by show r.ZU.length<=512;omega,by show List.length _<=512;rw [ac];omega,fun n hn=>by have:=e n hn;omega,fun m hm=>by have:=f m (List.mem_of_mem_eraseIdx hm);omega⟩
theorem II (r:Ro)(u C:lU)(c1 c2:Nat)(w0:World)(av:ZP w0 c1 9 [sT u])(aw:ZP w0 c2 9 [sT C]):Il 189 #[pT c1,pT c2] r w0:=by
 intro w base p F k0 G k1 aY a6 aK a7 hp bj hr;have aR:=hid hp;have aT:=hid a7;have af:Hid (base<=w.heap.size):=hid a6;have aL:Hid (Below base w w):=hid br;have ay:Hid (ZP w c1 9 [sT u]):=hid (av.below aK av.lt);have a8:c1<base:=Nat.lt_of_lt_of_le av.lt aY;have az:Hid (ZP w c2 9 [sT C]):=hid (aw.below aK aw.lt);have ba:c2<base:=Nat.lt_of_lt_of_le aw.lt aY;have ac:Hid (r.Zo 512):=hid (by obtain⟨a,b,e,f⟩:=XD hr;exact⟨by omega,by omega,fun n hn=>by have:=e n hn;omega,fun m T=>by have:=f m T;omega⟩)
 have aE:=hid hr;have aq:r.ZU.length<=1099511627776:=by have:=ac.o.1;omega
 have bb:r.ZY.length<=1099511627776:=by have:=ac.o.2.1;omega
 clear hp a7 a6 aK hr av aw;have a1:=ce ay 0;have a2:=ce az 0;go_enter func189,ntmps189
 go_wp2_with fail;refine Wh _ fun E hW=> ?_
 have h:Bw w E:=by rw [hW];exact br.alloc lr _
 have am:=nC hW;clear hW a1 a2;have ak:=bl aR h;have aB:=hid (aT.o.below h);have aM:=hid (aL.o.trans ((h).mono af.o));have ag:=hid (Nat.le_trans af.o (h).size);have ar:=bl ay h;have au:=bl az h;clear h aR aT aL af ay az;generalize w.heap.size=yb at*;refine wp_region_held_drew (S:=fun w'=>Bw E w'/\w'.cell? (aD p 0)=some (sl F r.ZU k0)/\w'.cell? (aD p 1)=some (sl G r.ZY k1)/\w'.cell? (aD c1 0)=some (sT u)/\w'.cell? (aD c2 0)=some (sT C)/\w'.cell? (aD yb 0)=some (sT u)/\w'.cell? (aD yb 1)=some (sT C)) (by kernel_rfl) (⟨(Below.refl E.heap.size E).drew,cb ak ((Below.refl E.heap.size E).drew) 0,cb ak ((Below.refl E.heap.size E).drew) 1,cb ar ((Below.refl E.heap.size E).drew) 0,cb au ((Below.refl E.heap.size E).drew) 0,cb am ((Below.refl E.heap.size E).drew) 0,cb am ((Below.refl E.heap.size E).drew) 1⟩) (fun d=> ?_)
 (try simp only [pp]);refine tk 0 12 d ?_;refine tk 1 13 d ?_;refine tk 2 14 d ?_;refine tk 3 15 d ?_;refine tk 4 16 d ?_;refine on 5 17 fun K s=> ?_
 go_simp;have cB:=PW r.ZY G k1 (⟨u,C⟩:Mb) E.drew aB.o.J6 bb;unfold Mb.cs at cB;dsimp only at cB;refine cB.mono ?_
 rintro e j ⟨at_,b,rfl,aH,halt,hb⟩;have D:=d.1.trans hb;refine s.out _ _ ⟨D,cb ak (D) 0,cb ak (D) 1,cb ar (D) 0,cb au (D) 0,cb am (D) 0,cb am (D) 1⟩ (fun d=> ?_);clear hb D cB;clear s K;(try simp only [pp])
 refine tk 6 11 d ?_;refine tk 7 18 d ?_;refine tk 8 19 d ?_;refine tk 9 6 d ?_;refine tk 10 7 d ?_;refine wpAnyH_done (by kernel_rfl) ?_ _
 have bc:=hid halt;have h:=d.1;have L:=bl ak h;have O:=hid (aB.o.below h);have ah:=hid (aM.o.trans ((h).mono ag.o));have U:=hid (Nat.le_trans ag.o (h).size);have V:=bl ar h;have Z:=bl au h;have M:=bl am h;clear d h halt ak aB aM ag ar au am;go_wp2_with fail
 cases hn1:r.ZU.contains u
 ·refine wp_region_held_drew (S:=fun w'=>Bw j w'/\w'.cell? (aD p 0)=some (sl F r.ZU k0)/\w'.cell? (aD p 1)=some (sl G r.ZY k1)/\w'.cell? (aD c1 0)=some (sT u)/\w'.cell? (aD c2 0)=some (sT C)/\w'.cell? (aD yb 0)=some (sT u)/\w'.cell? (aD yb 1)=some (sT C)) (by kernel_rfl) (⟨(Below.refl j.heap.size j).drew,cb L ((Below.refl j.heap.size j).drew) 0,cb L ((Below.refl j.heap.size j).drew) 1,cb V ((Below.refl j.heap.size j).drew) 0,cb Z ((Below.refl j.heap.size j).drew) 0,cb M ((Below.refl j.heap.size j).drew) 0,cb M ((Below.refl j.heap.size j).drew) 1⟩) (fun d=> ?_)
  (try simp only [pp]);refine tk 0 21 d ?_;refine tk 1 22 d ?_;refine tk 2 23 d ?_;refine tk 3 24 d ?_;refine tk 4 25 d ?_;refine on 5 26 fun K s=> ?_
  go_simp;refine(Zf r.ZU F k0 u j.drew (ZT.XJ (us:=CG) (UR (XX O.o.nm))) aq).mono ?_
  rintro e _ ⟨rfl,rfl⟩;rw [hn1];refine s.out _ _ d (fun d=> ?_);clear s K;(try simp only [pp])
  refine tk 6 27 d ?_;refine tb 7 28 (.bool true) d ?_;refine sk 8 29 d ?_;refine sk 9 30 d ?_;refine sk 10 31 d ?_;refine sk 11 32 d ?_;refine sk 12 33 d ?_;refine sk 13 34 d ?_;refine sk 14 35 d ?_;refine tk 15 36 d ?_;refine tk 16 20 d ?_;refine wpAnyH_done (by kernel_rfl) ?_ _
  have h:=d.1;have N:=bl L h;have ab:=hid (O.o.below h);have ae:=hid (ah.o.trans ((h).mono U.o));have aa:=hid (Nat.le_trans U.o (h).size);have ai:=bl V h;have aj:=bl Z h;have ad:=bl M h;clear d h L O ah U V Z M;generalize j.drew=w3 at*;go_wp2;go_ret;exact⟨71,r,F,k0,G,k1,rfl,N.o,ab.o,ae.o,ac.o⟩
 ·have aU:Hid (u.length<=16):=hid (X5 ((Vr aE.o).2.2.1 u (by simpa using hn1)))
  cases hn2:r.ZU.contains C
  ·refine wp_region_held_drew (S:=fun w'=>Bw j w'/\w'.cell? (aD p 0)=some (sl F r.ZU k0)/\w'.cell? (aD p 1)=some (sl G r.ZY k1)/\w'.cell? (aD c1 0)=some (sT u)/\w'.cell? (aD c2 0)=some (sT C)/\w'.cell? (aD yb 0)=some (sT u)/\w'.cell? (aD yb 1)=some (sT C)) (by kernel_rfl) (⟨(Below.refl j.heap.size j).drew,cb L ((Below.refl j.heap.size j).drew) 0,cb L ((Below.refl j.heap.size j).drew) 1,cb V ((Below.refl j.heap.size j).drew) 0,cb Z ((Below.refl j.heap.size j).drew) 0,cb M ((Below.refl j.heap.size j).drew) 0,cb M ((Below.refl j.heap.size j).drew) 1⟩) (fun d=> ?_)
   (try simp only [pp]);refine tk 0 21 d ?_;refine tk 1 22 d ?_;refine tk 2 23 d ?_;refine tk 3 24 d ?_;refine tk 4 25 d ?_;refine on 5 26 fun K s=> ?_
   go_simp;refine(Zf r.ZU F k0 u j.drew (ZT.XJ (us:=CG) (UR (XX O.o.nm))) aq).mono ?_
   rintro e _ ⟨rfl,rfl⟩;rw [hn1];refine s.out _ _ d (fun d=> ?_);clear s K;(try simp only [pp])
   refine tk 6 27 d ?_;refine tb 7 28 (.bool false) d ?_;refine tk 8 29 d ?_;refine tk 9 30 d ?_;refine tk 10 31 d ?_;refine tk 11 32 d ?_;refine tk 12 33 d ?_;refine on 13 34 fun K s=> ?_
   go_simp;refine(Zf r.ZU F k0 C j.drew (ZT.XJ (us:=CG) (UR (XX O.o.nm))) aq).mono ?_
   rintro e _ ⟨rfl,rfl⟩;rw [hn2];refine s.out _ _ d (fun d=> ?_);clear s K;(try simp only [pp])
   refine tk 14 35 d ?_;refine tk 15 36 d ?_;refine tk 16 20 d ?_;refine wpAnyH_done (by kernel_rfl) ?_ _
   have h:=d.1;have N:=bl L h;have ab:=hid (O.o.below h);have ae:=hid (ah.o.trans ((h).mono U.o));have aa:=hid (Nat.le_trans U.o (h).size);have ai:=bl V h;have aj:=bl Z h;have ad:=bl M h;clear d h L O ah U V Z M;generalize j.drew=w3 at*;go_wp2;go_ret;exact⟨71,r,F,k0,G,k1,rfl,N.o,ab.o,ae.o,ac.o⟩
  ·have aQ:Hid (C.length<=16):=hid (X5 ((Vr aE.o).2.2.1 C (by simpa using hn2)));refine wp_region_held_drew (S:=fun w'=>Bw j w'/\w'.cell? (aD p 0)=some (sl F r.ZU k0)/\w'.cell? (aD p 1)=some (sl G r.ZY k1)/\w'.cell? (aD c1 0)=some (sT u)/\w'.cell? (aD c2 0)=some (sT C)/\w'.cell? (aD yb 0)=some (sT u)/\w'.cell? (aD yb 1)=some (sT C)) (by kernel_rfl) (⟨(Below.refl j.heap.size j).drew,cb L ((Below.refl j.heap.size j).drew) 0,cb L ((Below.refl j.heap.size j).drew) 1,cb V ((Below.refl j.heap.size j).drew) 0,cb Z ((Below.refl j.heap.size j).drew) 0,cb M ((Below.refl j.heap.size j).drew) 0,cb M ((Below.refl j.heap.size j).drew) 1⟩) (fun d=> ?_)
   (try simp only [pp]);refine tk 0 21 d ?_;refine tk 1 22 d ?_;refine tk 2 23 d ?_;refine tk 3 24 d ?_;refine tk 4 25 d ?_;refine on 5 26 fun K s=> ?_
   go_simp;refine(Zf r.ZU F k0 u j.drew (ZT.XJ (us:=CG) (UR (XX O.o.nm))) aq).mono ?_
   rintro e _ ⟨rfl,rfl⟩;rw [hn1];refine s.out _ _ d (fun d=> ?_);clear s K;(try simp only [pp])
   refine tk 6 27 d ?_;refine tb 7 28 (.bool false) d ?_;refine tk 8 29 d ?_;refine tk 9 30 d ?_;refine tk 10 31 d ?_;refine tk 11 32 d ?_;refine tk 12 33 d ?_;refine on 13 34 fun K s=> ?_
   go_simp;refine(Zf r.ZU F k0 C j.drew (ZT.XJ (us:=CG) (UR (XX O.o.nm))) aq).mono ?_
   rintro e _ ⟨rfl,rfl⟩;rw [hn2];refine s.out _ _ d (fun d=> ?_);clear s K;(try simp only [pp])
   refine tk 14 35 d ?_;refine tk 15 36 d ?_;refine tk 16 20 d ?_;refine wpAnyH_done (by kernel_rfl) ?_ _
   have h:=d.1;have N:=bl L h;have ab:=hid (O.o.below h);have ae:=hid (ah.o.trans ((h).mono U.o));have aa:=hid (Nat.le_trans U.o (h).size);have ai:=bl V h;have aj:=bl Z h;have ad:=bl M h;clear d h L O ah U V Z M;generalize j.drew=w3 at*;clear hn1 hn2
   cases b
   case true=>
    go_wp2;go_ret;exact⟨70,r,F,k0,G,k1,rfl,N.o,ab.o,ae.o,ac.o⟩
   go_wp2_with fail;refine wp_region_held_drew (S:=fun w'=>Bw w3 w'/\w'.cell? (aD p 0)=some (sl F r.ZU k0)/\w'.cell? (aD p 1)=some (sl G r.ZY k1)/\w'.cell? (aD c1 0)=some (sT u)/\w'.cell? (aD c2 0)=some (sT C)/\w'.cell? (aD yb 0)=some (sT u)/\w'.cell? (aD yb 1)=some (sT C)) (by kernel_rfl) (⟨(Below.refl w3.heap.size w3).drew,cb N ((Below.refl w3.heap.size w3).drew) 0,cb N ((Below.refl w3.heap.size w3).drew) 1,cb ai ((Below.refl w3.heap.size w3).drew) 0,cb aj ((Below.refl w3.heap.size w3).drew) 0,cb ad ((Below.refl w3.heap.size w3).drew) 0,cb ad ((Below.refl w3.heap.size w3).drew) 1⟩) (fun d=> ?_)
   (try simp only [pp]);refine tk 0 40 d ?_;refine tk 1 41 d ?_;refine tk 2 42 d ?_;refine tk 3 43 d ?_;refine tk 5 45 d ?_;refine on 4 44 fun K s=> ?_
   go_simp;refine(OQ r.ZY F r.ZU.length k0 G k1 C w3.drew ab.o.J6 (by have:=ac.o.2.1;omega) (fun m T=>by have:=ac.o.2.2.2 m T;omega) (by have:=aQ.o;omega)).mono ?_
   rintro e I ⟨fb,N5,f5,rfl,aX,_,_,aZ,_⟩;have ap:(Instr.lookup 164 (.map (some fb)) (sT u) false).run prog I= .ok (i6 (f5 u)) I:=aX.look VQ underlying164 (by kernel_rfl) (x:=u) (by have:=aU.o;unfold maxLen;omega)
   generalize f5 u=fr at*;have D:=d.1.trans aZ;refine s.out _ _ ⟨D,cb N (D) 0,cb N (D) 1,cb ai (D) 0,cb aj (D) 0,cb ad (D) 0,cb ad (D) 1⟩ (fun d=> ?_);clear aX aZ D;clear s K;(try simp only [pp])
   refine on 6 46 fun K s=> ?_
   go_simp;refine s.out _ _ d (fun d=> ?_);clear ap;clear s K;(try simp only [pp])
   refine tk 7 47 d ?_;refine tk 8 39 d ?_;refine wpAnyH_done (by kernel_rfl) ?_ _
   have h:=d.1;have aA:=bl N h;have aC:=hid (ab.o.below h);have aO:=hid (ae.o.trans ((h).mono aa.o));have an:=hid (Nat.le_trans aa.o (h).size);have bm:=bl ai h;have bn:=bl aj h;have aW:=bl ad h;clear d h N ab ae aa ai aj ad;by_cases hfr:(fr:Int) > 0
   ·have aI:(0:Int)< (fr:Int):=hfr;go_wp2;go_ret;exact⟨72,r,F,k0,G,k1,rfl,aA.o,aC.o,aO.o,ac.o⟩
   have aI: ¬ (0:Int)< (fr:Int):=hfr;go_wp2_with fail;have hS:I.drew.cell? (aD p 1)=some (sl G r.ZY k1):=aA.o.cell 1;refine Zp 11 (S:=fun w'=>w'.cell? (aD p 1)=some (sl G r.ZY k1)) (by kernel_rfl) hS (fun J=> ?_)
   (try simp only [pp]);refine YU 0 48 J ?_;refine YU 1 49 J ?_;refine YU 2 50 J ?_;refine YU 3 51 J ?_;refine YU 4 52 J ?_;refine YU 5 53 J ?_;have x0:I.drew.cell? (aD yb 0)=some (sT u):=aW.o.cell 0
   have x1:I.drew.cell? (aD yb 1)=some (sT C):=aW.o.cell 1;refine OH 6 54 fun K s=> ?_
   go_simp;refine s.out _ _ J ?_
   clear x0 x1;clear s K;(try simp only [pp])
   refine OH 7 55 fun K s=> ?_
   go_simp;have h:Below I.heap.size I (I.alloc (.cells #[sT u,sT C] 147)).drew:=(br.alloc lr _).drew;have HX:Hid (ZP (I.alloc (.cells #[sT u,sT C] 147)).drew I.heap.size 147 (Mb.cs ⟨u,C⟩)):=hid (ZP.new I _ _);have aS:=bl aA h;have aV:=hid (aC.o.below h);have be:=hid (aO.o.trans ((h).mono an.o));have ax:=hid (Nat.le_trans an.o (h).size);have bk: ∀ g,G=some (aD g 0)->I.heap.size≠g:=fun g hg e=>by have:=YB aC.o.mb (k:=g) (by rw [hg];rfl);omega
   have aG:(I.alloc (.cells #[sT u,sT C] 147)).drew.cell? (aD p 1)=some (sl G r.ZY k1):=aS.o.cell 1;refine s.out _ _ aG ?_
   generalize (I.alloc (.cells #[sT u,sT C] 147)).drew=wx at*;generalize I.heap.size=xb at*;clear s K;(try simp only [pp])
   clear J;have J:=aG;refine OH 8 56 fun K s=> ?_
   go_simp;refine(Oy base r.ZY G k1 at_ ⟨u,C⟩ xb wx aV.o.mb aH HX.o bk bb ax.o).mono ?_
   rintro e w9 ⟨A5,c5,rfl,ho,hb,hk⟩;have ao:=hid (aS.o.keeps hk (by decide));have bd:=hid (be.o.trans hb);have bh:=hid ho;have bg:=hid (aV.o.nm.keeps hk (by decide));have aF:=ce ao 1;refine s.out _ _ aF ?_
   clear s K;(try simp only [pp])
   clear J;have J:=aF;refine TU 9 57 (fun _=>J) ?_;refine YU 10 58 J ?_;refine Zu.WR (i:=11) (o:=⟨none,_,_,_,_,_⟩) (by kernel_rfl) (by kernel_rfl) rfl (fun K s=> ?_)
   have e0:=ce ao 1;have f0:=ao.o.frozen 1;go_simp;refine s.out _ _ (Zu.done (by kernel_rfl) ?_ _);clear s K J aF hS aG e0 f0;refine Qv _ fun wz hW=> ?_
   have aP:Hid (ZS [30] w9 wz):=hid (by rw [hW];exact ZS.Zx ao.o.Xr (by simp) _);have bi:=rB hW (ao.o.Zx 1 _);have bf:Hid (Below base w wz):=hid (by rw [hW];exact bd.o.setCell bj _);clear hW;have aJ:(r.ZY.take at_ ++ ⟨u,C⟩ ::r.ZY.drop at_).length=r.ZY.length+1:=by simp only [List.length_append,List.length_take,List.length_cons,List.length_drop];omega
   go_wp2;go_ret;refine⟨0,⟨r.ZU,r.ZY.take at_ ++ ⟨u,C⟩ ::r.ZY.drop at_⟩,F,k0,A5,c5,rfl,?_,⟨?_,?_⟩,bf.o,?_⟩
   ·rw [aJ];exact bi.o
   ·exact bg.o.keeps aP.o (by decide)
   ·rw [aJ];exact bh.o.keeps aP.o (by decide)
   ·obtain⟨a,b,e,f⟩:=XD aE.o;refine⟨by show r.ZU.length<=512;omega,by show List.length _<=512;rw [aJ];omega,fun n hn=>by have:=e n hn;omega,fun m T=> ?_⟩
    rcases List.mem_append.1 T with T | T
    ·have:=f m (List.mem_of_mem_take T);omega
    ·rcases List.mem_cons.1 T with rfl | T
     ·have:=aU.o;have:=aQ.o;simp only;omega
     ·have:=f m (List.mem_of_mem_drop T);omega
theorem GM (r:Ro)(j:oA)(k0:Nat)(m:oA)(k1:Nat)(nm:lU)(w:World)(I:rA w [.Z2] (YV r.ZU) j)(G:rA w YM (r.ZY.map Mb.da) m)(K:r.Zo 1099511627776):
  cQ 135 #[.agg #[.slice j r.ZU.length k0,.slice m r.ZY.length k1],sT nm] w (Jf w):=by
 have N:=hid I;have M:=hid G;have U:=hid K;have u:=iN 30 2;clear I G K;go_enter func135,ntmps135
 go_wp2_with fail;refine Zi _ fun F h=> ?_
 have d:=bR h;have D:=nG h;have E:=nH h;clear h;refine(Vs 187 #[pT (w.heap.size+1)] r j k0 m k1 F (enters_of func187 (by kernel_rfl) rfl) (N.o.later d.o) (M.o.later d.o) U.o (GL r nm (w.heap.size+1) F D.o)).mono ?_
 rintro e W1 ⟨Z,r',B0,l0,B1,l1,rfl,J,hb,C⟩;have L:=bt d hb;have V:=bl E hb;have O:=hid J;have T:=hid C;clear J hb C d E D;go_wp2_with (first | ((refine sO V u ?_);intro wS s) | fail);refine bodyPost_ret (rt (hid s.o.YK) underlying30 u) rfl ?_
 exact⟨Z,r',B0,l0,B1,l1,rfl,O.o.keeps s.o.keeps (by decide),s.o.below L.o (by omega),T.o⟩
theorem NI (r:Ro)(j:oA)(k0:Nat)(m:oA)(k1:Nat)(nm:lU)(w:World)(I:rA w [.Z2] (YV r.ZU) j)(G:rA w YM (r.ZY.map Mb.da) m)(K:r.Zo 1099511627776):
  cQ 132 #[.agg #[.slice j r.ZU.length k0,.slice m r.ZY.length k1],sT nm] w (Jf w):=by
 have N:=hid I;have M:=hid G;have U:=hid K;have u:=iN 30 2;clear I G K;go_enter func132,ntmps132
 go_wp2_with fail;refine Zi _ fun F h=> ?_
 have d:=bR h;have D:=nG h;have E:=nH h;clear h;refine(Vs 179 #[pT (w.heap.size+1)] r j k0 m k1 F (enters_of func179 (by kernel_rfl) rfl) (N.o.later d.o) (M.o.later d.o) U.o (IL r nm (w.heap.size+1) F D.o)).mono ?_
 rintro e W1 ⟨Z,r',B0,l0,B1,l1,rfl,J,hb,C⟩;have L:=bt d hb;have V:=bl E hb;have O:=hid J;have T:=hid C;clear J hb C d E D;go_wp2_with (first | ((refine sO V u ?_);intro wS s) | fail);refine bodyPost_ret (rt (hid s.o.YK) underlying30 u) rfl ?_
 exact⟨Z,r',B0,l0,B1,l1,rfl,O.o.keeps s.o.keeps (by decide),s.o.below L.o (by omega),T.o⟩
theorem IJ (r:Ro)(h:oA)(k0:Nat)(j:oA)(k1:Nat)(s d:lU)(w:World)(L:rA w [.Z2] (YV r.ZU) h)(K:rA w YM (r.ZY.map Mb.da) j)(N:r.Zo 1099511627776):
  cQ 136 #[.agg #[.slice h r.ZU.length k0,.slice j r.ZY.length k1],sT s,sT d] w (Jf w):=by
 have U:=hid L;have T:=hid K;have HT:=hid N;have E:=iN 30 2;clear L K N;go_enter func136,ntmps136
 go_wp2_with fail;refine Zi _ fun m u=> ?_
 have C:Hid (Bw w m):=hid (by rw [u];exact(((br.alloc lr _).alloc (by simp) _).alloc (by simp;omega) _).alloc (by simp;omega) _);have G:Hid (ZP m (w.heap.size+1) 9 [sT s]):=hid (by
  rw [u];have:=((ZP.new (w.alloc (.cells #[sl h r.ZU k0,sl j r.ZY k1] 30)) 9 [sT s]).alloc (.cells #[sT d] 9)).alloc (.cells #[sN,sN] 30);simpa using this)
 have I:Hid (ZP m (w.heap.size+2) 9 [sT d]):=hid (by
  rw [u];have:=(ZP.new ((w.alloc (.cells #[sl h r.ZU k0,sl j r.ZY k1] 30)).alloc (.cells #[sT s] 9)) 9 [sT d]).alloc (.cells #[sN,sN] 30);simpa using this)
 have J:Hid (ZP m (w.heap.size+3) 30 [sN,sN]):=hid (by
  rw [u];have:=ZP.new (((w.alloc (.cells #[sl h r.ZU k0,sl j r.ZY k1] 30)).alloc (.cells #[sT s] 9)).alloc (.cells #[sT d] 9)) 30 [sN,sN];simpa using this)
 clear u;refine(Vs 189 #[pT (w.heap.size+1),pT (w.heap.size+2)] r h k0 j k1 m (enters_of func189 (by kernel_rfl) rfl) (U.o.later C.o) (T.o.later C.o) HT.o (II r s d (w.heap.size+1) (w.heap.size+2) m G.o I.o)).mono ?_
 rintro e W1 ⟨er,r',B0,l0,B1,l1,rfl,M,hb,F⟩;have O:=bt C hb;have Q1:=bl J hb;have V:=hid M;have Z:=hid F;clear M hb F C J G I;go_wp2_with (first | ((refine sO Q1 E ?_);intro wS D) | fail);refine bodyPost_ret (rt (hid D.o.YK) underlying30 E) rfl ?_
 exact⟨er,r',B0,l0,B1,l1,rfl,V.o.keeps D.o.keeps (by decide),D.o.below O.o (by omega),Z.o⟩
theorem JY (r:Ro)(h:oA)(k0:Nat)(j:oA)(k1:Nat)(s d:lU)(w:World)(L:rA w [.Z2] (YV r.ZU) h)(K:rA w YM (r.ZY.map Mb.da) j)(N:r.Zo 1099511627776):
  cQ 137 #[.agg #[.slice h r.ZU.length k0,.slice j r.ZY.length k1],sT s,sT d] w (Jf w):=by
 have U:=hid L;have T:=hid K;have HT:=hid N;have E:=iN 30 2;clear L K N;go_enter func137,ntmps137
 go_wp2_with fail;refine Zi _ fun m u=> ?_
 have C:Hid (Bw w m):=hid (by rw [u];exact(((br.alloc lr _).alloc (by simp) _).alloc (by simp;omega) _).alloc (by simp;omega) _);have G:Hid (ZP m (w.heap.size+1) 9 [sT s]):=hid (by
  rw [u];have:=((ZP.new (w.alloc (.cells #[sl h r.ZU k0,sl j r.ZY k1] 30)) 9 [sT s]).alloc (.cells #[sT d] 9)).alloc (.cells #[sN,sN] 30);simpa using this)
 have I:Hid (ZP m (w.heap.size+2) 9 [sT d]):=hid (by
  rw [u];have:=(ZP.new ((w.alloc (.cells #[sl h r.ZU k0,sl j r.ZY k1] 30)).alloc (.cells #[sT s] 9)) 9 [sT d]).alloc (.cells #[sN,sN] 30);simpa using this)
 have J:Hid (ZP m (w.heap.size+3) 30 [sN,sN]):=hid (by
  rw [u];have:=ZP.new (((w.alloc (.cells #[sl h r.ZU k0,sl j r.ZY k1] 30)).alloc (.cells #[sT s] 9)).alloc (.cells #[sT d] 9)) 30 [sN,sN];simpa using this)
 clear u;refine(Vs 192 #[pT (w.heap.size+1),pT (w.heap.size+2)] r h k0 j k1 m (enters_of func192 (by kernel_rfl) rfl) (U.o.later C.o) (T.o.later C.o) HT.o (JX r s d (w.heap.size+1) (w.heap.size+2) m G.o I.o)).mono ?_
 rintro e W1 ⟨er,r',B0,l0,B1,l1,rfl,M,hb,F⟩;have O:=bt C hb;have Q1:=bl J hb;have V:=hid M;have Z:=hid F;clear M hb F C J G I;go_wp2_with (first | ((refine sO Q1 E ?_);intro wS D) | fail);refine bodyPost_ret (rt (hid D.o.YK) underlying30 E) rfl ?_
 exact⟨er,r',B0,l0,B1,l1,rfl,V.o.keeps D.o.keeps (by decide),D.o.below O.o (by omega),Z.o⟩
def Cm.cs (x:Cm)(A:Option Addr)(k:Nat)(B:Option Addr)(n:Nat):List Value:= [.int .i64 x.ZV,.string (Z2 x.ZH),.string (Z2 x.Z9),.string (Z2 x.ZZ),.string (Z2 x.name),.string (Z2 x.ZQ),.slice A x.Z3.length k,.string (Z2 x.ZX.name),.int .i64 x.ZX.ZV,.slice B x.ZX.Z3.length n,.int .i64 x.ZX.low,.int .i64 x.ZX.ZB,.string (Z2 x.ZX.Z9),.string (Z2 x.ZX.ZZ),.string (Z2 x.ZX.key),.int .i64 x.right,.bool x.Zq]
abbrev zX (x:Cm)(A:Option Addr)(k:Nat)(B:Option Addr)(n:Nat):List Value:=[.int .i64 x.ZV,.string (Z2 x.ZH),.string (Z2 x.Z9),.string (Z2 x.ZZ),.string (Z2 x.name),.string (Z2 x.ZQ),.slice A x.Z3.length k,.string (Z2 x.ZX.name),.int .i64 x.ZX.ZV,.slice B x.ZX.Z3.length n,.int .i64 x.ZX.low,.int .i64 x.ZX.ZB,.string (Z2 x.ZX.Z9),.string (Z2 x.ZX.ZZ),.string (Z2 x.ZX.key),.int .i64 x.right,.bool x.Zq]
theorem Fc (k:Int)(w:World):Calls prog 72 #[.int .i64 k] w fun e w'=>e= .returned (.int .i64 (PT k))/\w'=w:=by
 go_enter func72,ntmps72
 by_cases h2:k=2
 ·subst h2;have d:PT 2=1:=by decide
  rw [d];clear d;go_wp2;go_ret;exact⟨rfl,rfl⟩
 have h:(k == 2)=false:=by simpa using h2
 by_cases h3:k=3
 ·subst h3;have d:PT 3=1:=by decide
  rw [d];clear d;go_wp2;go_ret;exact⟨rfl,rfl⟩
 have j:(k == 3)=false:=by simpa using h3
 by_cases h4:k=4
 ·subst h4;have d:PT 4=2:=by decide
  rw [d];clear d;go_wp2;go_ret;exact⟨rfl,rfl⟩
 have m:(k == 4)=false:=by simpa using h4
 by_cases h5:k=5
 ·subst h5;have d:PT 5=2:=by decide
  rw [d];clear d;go_wp2;go_ret;exact⟨rfl,rfl⟩
 have s:(k == 5)=false:=by simpa using h5
 by_cases h6:k=6
 ·subst h6;have d:PT 6=2:=by decide
  rw [d];clear d;go_wp2;go_ret;exact⟨rfl,rfl⟩
 have u:(k == 6)=false:=by simpa using h6
 by_cases h7:k=7
 ·subst h7;have d:PT 7=2:=by decide
  rw [d];clear d;go_wp2;go_ret;exact⟨rfl,rfl⟩
 have C:(k == 7)=false:=by simpa using h7
 by_cases h8:k=8
 ·subst h8;have d:PT 8=2:=by decide
  rw [d];clear d;go_wp2;go_ret;exact⟨rfl,rfl⟩
 have D:(k == 8)=false:=by simpa using h8
 by_cases h9:k=9
 ·subst h9;have d:PT 9=2:=by decide
  rw [d];clear d;go_wp2;go_ret;exact⟨rfl,rfl⟩
 have E:(k == 9)=false:=by simpa using h9
 by_cases h14:k=14
 ·subst h14;have d:PT 14=3:=by decide
  rw [d];clear d;go_wp2;go_ret;exact⟨rfl,rfl⟩
 have g14:(k == 14)=false:=by simpa using h14
 by_cases h15:k=15
 ·subst h15;have d:PT 15=3:=by decide
  rw [d];clear d;go_wp2;go_ret;exact⟨rfl,rfl⟩
 have g15:(k == 15)=false:=by simpa using h15
 have d:PT k=0:=by unfold PT;simp [h2,h3,h4,h5,h6,h7,h8,h9,h14,h15]
 rw [d];clear d h2 h3 h4 h5 h6 h7 h8 h9 h14 h15;go_wp2;go_ret;exact⟨rfl,rfl⟩
theorem KJ (x:Cm)(A:Option Addr)(k:Nat)(B:Option Addr)(n:Nat)(w:World):
  Calls prog 36 #[.agg (x.cs A k B n).toArray] w fun e w'=>e= .returned (.bool (Ul x))/\Below w.heap.size w w':=by
 have h:Hid (Ul x=if x.ZV=2∨x.ZV=4∨x.ZV=6∨x.ZV=9∨x.ZV=11∨x.ZV=13∨x.ZV=15 then true else if x.ZV=7 then x.ZX.ZV != 1 else false):=hid rfl;generalize Ul x=res at*;unfold Cm.cs;have j:Hid (ZP (w.alloc (.cells (zX x A k B n).toArray 43)) w.heap.size 43 (zX x A k B n)):=hid (ZP.new w _ _);have d:Hid (Below w.heap.size w (w.alloc (.cells (zX x A k B n).toArray 43))):=hid (br.alloc lr _);go_enter func36,ntmps36
 go_wp2_with fail
 all_goals go_ret
 all_goals refine⟨(congrArg (fun b=>Ending.returned (.bool b)) ?_:Ending.returned (.bool _)=Ending.returned (.bool res)),d.out⟩
 all_goals clear d j
 all_goals (have m:=h.out;clear h;simp_all)
theorem If (a b c d:List UInt8):(Z2 a ++Z2 b ++Z2 c ++Z2 d).toList.isEmpty=(a ++b ++c ++d == []):=by
 rw [ByteArray.toList_eq];have h:(Z2 a ++Z2 b ++Z2 c ++Z2 d).data.toList=a ++b ++c ++d:=by simp [Z2,ByteArray.data_append]
 rw [h]
 cases a ++b ++c ++d <;> rfl
theorem Ih (x:Ru)(B:Option Addr)(n:Nat)(w:World)(C:x.Zo 1099511627776)(u:x.name.length<=1099511627776):
  Calls prog 68 #[.agg (x.cs B n).toArray] w fun e w'=>e= .returned (.bool (TX x))/\Below w.heap.size w w':=by
 have G:(Z2 x.name ++Z2 x.Z9 ++Z2 x.ZZ ++Z2 x.key).toList.isEmpty=(x.name ++x.Z9 ++x.ZZ ++x.key == []):=If _ _ _ _;have d:Hid (TX x=(x.Z3.length == 0 && (x.name ++x.Z9 ++x.ZZ ++x.key == []) && x.ZV == 0 && x.low == 0 && x.ZB == 0)):=hid rfl;generalize TX x=res at*;generalize (x.name ++x.Z9 ++x.ZZ ++x.key == [])=bb at*;obtain⟨s,D,E,F⟩:=C;have I: ¬ 9223372036854775807< (Z2 x.name).size+ (Z2 x.Z9).size:=by rw [Yk,Yk];omega
 have J: ¬ 9223372036854775807< (Z2 x.name).size+ (Z2 x.Z9).size+ (Z2 x.ZZ).size:=by rw [Yk,Yk,Yk];omega
 have K: ¬ 9223372036854775807< (Z2 x.name).size+ (Z2 x.Z9).size+ (Z2 x.ZZ).size+ (Z2 x.key).size:=by rw [Yk,Yk,Yk,Yk];omega
 unfold Ru.cs;have j:Hid (Below w.heap.size w (w.alloc (.cells #[.string (Z2 x.name),.int .i64 x.ZV,.slice B x.Z3.length n,.int .i64 x.low,.int .i64 x.ZB,.string (Z2 x.Z9),.string (Z2 x.ZZ),.string (Z2 x.key)] 40))):=hid (br.alloc lr _);clear u;have h:(x.Z3.length == 0)=((x.Z3.length:Int) == 0):=by rw [Bool.eq_iff_iff];simp
 rw [h] at d;clear h D E F s;generalize hx0:((x.Z3.length:Int) == 0)=b0 at*;generalize hx1:(x.ZV == 0)=b1 at*;generalize hx2:(x.low == 0)=b2 at*;generalize hx3:(x.ZB == 0)=b3 at*;go_enter func68,ntmps68
 cases b0 <;> cases bb <;> cases b1 <;> cases b2 <;> cases b3
 all_goals (have m:Hid (res=_):=hid d.out;clear d)
 all_goals go_wp2
 all_goals go_ret
 all_goals exact⟨by rw [m.out];rfl,j.out⟩
def Sl (E:Int):List PanicEntry:= [{ v:= .iface 82 (.agg #[i6 E]),recovered:=false}]
theorem YE (E:Int)(w:World):cQ 26 #[i6 E] w fun e w'=>e=(if E=0 then .returned (.tuple #[]) else .panicked (Sl E))/\w'=w:=by
 go_enter func26,ntmps26
 by_cases h:E=0
 ·subst h;rw [if_pos rfl];go_wp2;go_end0;exact⟨rfl,rfl⟩
 ·have g:(E != 0)=true:=by simpa using h
  rw [if_neg h];go_wp2;exact⟨rfl,rfl,rfl⟩
theorem Ym (b:Bool)(E:Int)(w:World):cQ 28 #[.bool b,i6 E] w fun e w'=>e=(if b then .returned (.tuple #[]) else .panicked (Sl E))/\w'=w:=by
 go_enter func28,ntmps28
 cases b
 ·go_wp2;exact⟨rfl,rfl,rfl⟩
 ·go_wp2;go_end0;exact⟨rfl,rfl⟩
theorem KT (c : Ca) (A : Wd) (w : World) (C : UH w w.heap.size c A) (D : c.Zo 1099511627776) :
    Calls prog 27 #[.agg (c.cs A).toArray] w fun e w' => e = .returned (.int .i64 (Xy c)) /\ Below w.heap.size w w' := by
  have G := Lib.hid C
  have I := Lib.hid D
  have F : Hid ((prog.info? 33).map (·.size) = some 7) := Lib.hid (by kernel_rfl)
  clear C D
  have j : Hid (Below w.heap.size w (w.alloc (.cells (zC c A).toArray 33))) := Lib.hid ((Below.refl _ _).alloc (Nat.le_refl _) _)
  have u : Hid (ZP (w.alloc (.cells (zC c A).toArray 33)) w.heap.size 33 (zC c A)) := Lib.hid (ZP.new w _ _)
  have s := KC c A _ (G.out.later j.out) I.out
  have m : Hid (Xy c = if decide (0 <= c.ZO) && decide (c.ZO <= 1000) && decide (0 <= c.ZR) && decide (c.ZR <= 1000000000) && Xf c then 0 else 1) := Lib.hid rfl
  unfold Ca.cs at s ⊢
  generalize Xy c = res at *
  generalize Xf c = wh at *
  go_enter func27, ntmps27
  have d : ∀ (h : (decide (0 <= c.ZO) && decide (c.ZO <= 1000) && decide (0 <= c.ZR) && decide (c.ZR <= 1000000000)) = false), res = 1 := fun h => by rw [m.out, h]; rfl
  by_cases h1 : c.ZO < 0
  · have g : res = 1 := d (by
     have : decide (0 <= c.ZO) = false := by simp; omega
     rw [this]; rfl)
    clear d m s
    subst g
    go_wp2
    go_ret
    exact ⟨rfl, j.out⟩
  by_cases h2 : 1000 < c.ZO
  · have g : res = 1 := d (by
     have : decide (c.ZO <= 1000) = false := by simp; omega
     rw [this]; simp)
    clear d m s
    subst g
    go_wp2
    go_ret
    exact ⟨rfl, j.out⟩
  by_cases h3 : c.ZR < 0
  · have g : res = 1 := d (by
     have : decide (0 <= c.ZR) = false := by simp; omega
     rw [this]; simp)
    clear d m s
    subst g
    go_wp2
    go_ret
    exact ⟨rfl, j.out⟩
  by_cases h4 : 1000000000 < c.ZR
  · have g : res = 1 := d (by
     have : decide (c.ZR <= 1000000000) = false := by simp; omega
     rw [this]; simp)
    clear d m s
    subst g
    go_wp2
    go_ret
    exact ⟨rfl, j.out⟩
  have g : Hid (res = if wh then 0 else 1) := Lib.hid (by
    rw [m.out]
    have J : decide (0 <= c.ZO) = true := by simp; omega
    have K : decide (c.ZO <= 1000) = true := by simp; omega
    have L : decide (0 <= c.ZR) = true := by simp; omega
    have M : decide (c.ZR <= 1000000000) = true := by simp; omega
    rw [J, K, L, M]; rfl)
  clear d m
  go_wp2_with (first | (with_reducible refine Zs rfl 33 _ rfl (w.heap.size) rfl u (n := 7) rfl underlying33 rfl F ?_) | fail)
  refine s.mono ?_
  rintro e w' ⟨rfl, hb⟩
  have E := Lib.hid (j.out.trans (hb.mono j.out.size))
  clear s hb u j
  cases wh
  all_goals (have N := g.out; subst N; clear g)
  all_goals go_wp2
  all_goals go_ret
  all_goals exact ⟨rfl, E.out⟩
theorem I7 (E:Int)(w:World):(Instr.typeAssert (.iface 82 (.agg #[i6 E])) 20 82 false).run prog w= .ok (.agg #[i6 E]) w:=by kernel_rfl
theorem Nk (E:Int)(w:World):(Instr.field 82 (.agg #[i6 E]) 0).run prog w= .ok (i6 E) w:=by kernel_rfl
theorem Qf (p q:Addr)(w:World):
  CallsD prog 25 #[.pointer (some p),.pointer (some q)] .returning w fun e j w'=>e= .returned (.tuple #[])/\j= .returning/\w'=w:=by
 refine callsD_of_wpS func25 rfl fun h cs d=> ?_
 apply wpS_seq
 apply wpS_region
 simp [wpOpsS,go_sem,recoverD,d,ntmps25,Exit.thenS];apply wpS_seq
 apply wpS_region
 simp [wpOpsS,go_sem,recoverD,d,ntmps25,Exit.thenS];refine wpS_cond (t:=false) (by simp [Act.eval,Array.replicate]) ?_
 simp only [Bool.false_eq_true,if_false];refine wpS_of_wp (wp_skip ?_)
 cases h
 simp_all [bodyPostS,results]
theorem Ja (base g h:Nat)(E:Int)(G:lV)(x:Int)(w:World)(D:ZP w g 33 G)(T:G.length=7)(F:ZP w h 45 [i6 x])(J:base<=g)(L:base<=h)(u:g≠h):
  CallsD prog 25 #[pT g,pT h] (.panicking ({ v:= .iface 82 (.agg #[i6 E]),recovered:=false} :: [])) w fun e V w'=>
   e= .returned (.tuple #[])/\V= .panicking ({ v:= .iface 82 (.agg #[i6 E]),recovered:=true} :: [])/\ZP w' g 33 [i6 0,i6 0,sN,sN,sN,sN,sN]/\ZP w' h 45 [i6 E]/\Below base w w':=by
 refine callsD_of_wpS func25 rfl fun c₀ cs s=> ?_
 apply wpS_seq
 apply wpS_region
 simp [wpOpsS,go_sem,recoverD,s,ntmps25,Exit.thenS];apply wpS_seq
 apply wpS_region
 simp [wpOpsS,go_sem,recoverD,s,ntmps25,Exit.thenS];refine wpS_cond (t:=true) (by simp [Act.eval,Array.replicate]) ?_
 simp only [if_true];refine wpS_of_wp (Code.wp_mono (Q:=fun e C w'=>e= .normal/\C.defers= []/\(ZP w' g 33 [i6 0,i6 0,sN,sN,sN,sN,sN]/\ZP w' h 45 [i6 E]/\Below base w w')) ?_ ?_)
 ·rintro e C w' ⟨rfl,hd,O⟩;simp [bodyPostS,results,hd,O]
 clear s;have Z:=I7 E;have aa:=Nk E;have I:=iN 33 7;have M:=hid (D.drew);have N:=hid (F.drew);clear D F;show (Code.region 2 _ true).wp _ _ { tmps:= #[pT g,pT h,.iface 82 (.agg #[i6 E]),.iface 82 (.agg #[i6 E]),.iface 82 (.agg #[i6 E]),.bool true,undef,undef,undef,undef],defers:= []} w
 refine wp_region_held_drew (S:=fun w'=>True) (by kernel_rfl) (trivial) (fun d=> ?_)
 (try simp only [pp]);refine tk 0 6 d ?_;refine tk 1 7 d ?_;refine tk 2 8 d ?_;refine tk 3 9 d ?_;refine SR 4 fun K j=> ?_
 refine Zk rfl 33 _ _ rfl g [i6 0,i6 0,sN,sN,sN,sN,sN] rfl rfl M T (by simp) I (by simp [Value.oneCell']) ?_
 intro w9 U;refine j.out _ _ trivial (fun d=> ?_);clear j K;(try simp only [pp])
 have m:=hid ((U.o.other N.o (Ne.symm u)));have f9:=m.o.frozen 0;have c9:=ce m 0;refine SR 5 fun K j=> ?_
 go_simp;refine j.out _ _ trivial (fun d=> ?_);clear j K;(try simp only [pp])
 refine wpAnyH_done (by kernel_rfl) ?_ _
 exact⟨rfl,rfl,U.o.YK.WT u _,m.o.Zx 0 _,(U.o.below br.drew J).setCell L _⟩
theorem YC {P:Program}{E:Func}{t u v:Tmp}{C m:TypeId}(h:E.results= #[.cell t C,.cell u m,.tmp v])(tmps:Array Value)(w:World)(b s:Nat)(hb:tmps.getD t undef=pT b)(J:tmps.getD u undef=pT s)
  {t' T:TypeId} {cs j:lV} (U:Hid (ZP w b t' cs)) (G:Hid (ZP w s T j)) {n n2:Nat} (hn:cs.length=n) (N:j.length=n2) {d D:TypeDesc}
  (hu:P.underlying C=some d) (hd:d.isRow=true) (V:Hid ((P.info? C).map (·.size)=some n)) (O:P.underlying m=some D) (K:D.isRow=true) (L:Hid ((P.info? m).map (·.size)=some n2)):
  (results E tmps).run P w= .ok (.tuple #[.agg cs.toArray,.agg j.toArray,tmps.getD v undef]) w:=by
 have Z:=run_loadVar_mid w b 0 C cs d U.o.Yz hu hd (hn▸V.o);have M:=run_loadVar_mid w s 0 m j D G.o.Yz O K (N▸L.o);have I:tmps[t]?.getD undef=pT b:=by simpa using hb
 have F:tmps[u]?.getD undef=pT s:=by simpa using J
 simp [results,h,I,Z,F,M,asAddr]
theorem Zy (w:World)(o o4:Obj)(a b:lV)(t u:TypeId):
  ZP ((((w.alloc o).alloc (.cells a.toArray t)).alloc (.cells b.toArray u)).alloc o4) (w.heap.size+1) t a/\ZP ((((w.alloc o).alloc (.cells a.toArray t)).alloc (.cells b.toArray u)).alloc o4) (w.heap.size+1+1) u b/\Below w.heap.size w ((((w.alloc o).alloc (.cells a.toArray t)).alloc (.cells b.toArray u)).alloc o4):=by
 have d:(w.alloc o).heap.size=w.heap.size+1:=by simp
 have j:((w.alloc o).alloc (.cells a.toArray t)).heap.size=w.heap.size+1+1:=by simp
 have m:(((w.alloc o).alloc (.cells a.toArray t)).alloc (.cells b.toArray u)).heap.size=w.heap.size+1+1+1:=by simp
 refine⟨?_,?_,?_⟩
 ·have h:=((ZP.new (w.alloc o) t a).alloc (.cells b.toArray u)).alloc o4;rwa [d] at h
 ·have h:=(ZP.new ((w.alloc o).alloc (.cells a.toArray t)) u b).alloc o4;rwa [j] at h
 ·exact(((br.alloc lr _).alloc (by omega) _).alloc (by omega) _).alloc (by omega) _
def Wi (k:Int):lV:= [.bool (Vy k).1,.bool (Vy k).2.1,.bool (Vy k).2.2.1,.bool (Vy k).2.2.2]
def JO (x:Cm):lV:= [sT x.Z9,sT x.ZZ,sT x.name,sT x.ZQ]
theorem Gl (x:Cm)(A:oA)(k:Nat)(B:oA)(n:Nat)(w:World):
  cQ 66 #[.agg (x.cs A k B n).toArray] w fun e w'=>e= .returned (.tuple #[.agg (JO x).toArray,.agg (Wi x.ZV).toArray,.bool (XC x.ZV)])/\Bw w w':=by
 have s:=iN 130 4;have u:=iN 131 4;have m:Hid (XC x.ZV=(decide (1<=x.ZV) && decide (x.ZV<=15))):=hid rfl;unfold Cm.cs JO;generalize x.ZV=kk at*;go_enter func66,ntmps66
 by_cases h1:kk=1
 ·subst h1;have j:Wi 1= [.bool true,.bool false,.bool false,.bool false]:=rfl;have d:XC 1=true:=rfl;rw [j,d];clear j d m;go_wp2;refine bodyPost_ret (YC rfl _ _ (w.heap.size+1) (w.heap.size+1+1) rfl rfl (hid (Zy w _ _ _ _ _ _).1) (hid (Zy w _ _ _ _ _ _).2.1) rfl rfl underlying130 rfl s underlying131 rfl u) rfl ?_
  exact⟨rfl,(Zy w _ _ _ _ _ _).2.2⟩
 have C:(kk == 1)=false:=by simpa using h1
 by_cases h2:kk=2
 ·subst h2;have j:Wi 2= [.bool true,.bool false,.bool false,.bool false]:=rfl;have d:XC 2=true:=rfl;rw [j,d];clear j d m;go_wp2;refine bodyPost_ret (YC rfl _ _ (w.heap.size+1) (w.heap.size+1+1) rfl rfl (hid (Zy w _ _ _ _ _ _).1) (hid (Zy w _ _ _ _ _ _).2.1) rfl rfl underlying130 rfl s underlying131 rfl u) rfl ?_
  exact⟨rfl,(Zy w _ _ _ _ _ _).2.2⟩
 have D:(kk == 2)=false:=by simpa using h2
 by_cases h3:kk=3
 ·subst h3;have j:Wi 3= [.bool true,.bool true,.bool false,.bool false]:=rfl;have d:XC 3=true:=rfl;rw [j,d];clear j d m;go_wp2;refine bodyPost_ret (YC rfl _ _ (w.heap.size+1) (w.heap.size+1+1) rfl rfl (hid (Zy w _ _ _ _ _ _).1) (hid (Zy w _ _ _ _ _ _).2.1) rfl rfl underlying130 rfl s underlying131 rfl u) rfl ?_
  exact⟨rfl,(Zy w _ _ _ _ _ _).2.2⟩
 have E:(kk == 3)=false:=by simpa using h3
 by_cases h4:kk=4
 ·subst h4;have j:Wi 4= [.bool true,.bool true,.bool false,.bool false]:=rfl;have d:XC 4=true:=rfl;rw [j,d];clear j d m;go_wp2;refine bodyPost_ret (YC rfl _ _ (w.heap.size+1) (w.heap.size+1+1) rfl rfl (hid (Zy w _ _ _ _ _ _).1) (hid (Zy w _ _ _ _ _ _).2.1) rfl rfl underlying130 rfl s underlying131 rfl u) rfl ?_
  exact⟨rfl,(Zy w _ _ _ _ _ _).2.2⟩
 have F:(kk == 4)=false:=by simpa using h4
 by_cases h5:kk=5
 ·subst h5;have j:Wi 5= [.bool true,.bool true,.bool false,.bool false]:=rfl;have d:XC 5=true:=rfl;rw [j,d];clear j d m;go_wp2;refine bodyPost_ret (YC rfl _ _ (w.heap.size+1) (w.heap.size+1+1) rfl rfl (hid (Zy w _ _ _ _ _ _).1) (hid (Zy w _ _ _ _ _ _).2.1) rfl rfl underlying130 rfl s underlying131 rfl u) rfl ?_
  exact⟨rfl,(Zy w _ _ _ _ _ _).2.2⟩
 have G:(kk == 5)=false:=by simpa using h5
 by_cases h6:kk=6
 ·subst h6;have j:Wi 6= [.bool true,.bool true,.bool true,.bool false]:=rfl;have d:XC 6=true:=rfl;rw [j,d];clear j d m;go_wp2;refine bodyPost_ret (YC rfl _ _ (w.heap.size+1) (w.heap.size+1+1) rfl rfl (hid (Zy w _ _ _ _ _ _).1) (hid (Zy w _ _ _ _ _ _).2.1) rfl rfl underlying130 rfl s underlying131 rfl u) rfl ?_
  exact⟨rfl,(Zy w _ _ _ _ _ _).2.2⟩
 have I:(kk == 6)=false:=by simpa using h6
 by_cases h7:kk=7
 ·subst h7;have j:Wi 7= [.bool true,.bool true,.bool false,.bool false]:=rfl;have d:XC 7=true:=rfl;rw [j,d];clear j d m;go_wp2;refine bodyPost_ret (YC rfl _ _ (w.heap.size+1) (w.heap.size+1+1) rfl rfl (hid (Zy w _ _ _ _ _ _).1) (hid (Zy w _ _ _ _ _ _).2.1) rfl rfl underlying130 rfl s underlying131 rfl u) rfl ?_
  exact⟨rfl,(Zy w _ _ _ _ _ _).2.2⟩
 have J:(kk == 7)=false:=by simpa using h7
 by_cases h8:kk=8
 ·subst h8;have j:Wi 8= [.bool true,.bool true,.bool true,.bool false]:=rfl;have d:XC 8=true:=rfl;rw [j,d];clear j d m;go_wp2;refine bodyPost_ret (YC rfl _ _ (w.heap.size+1) (w.heap.size+1+1) rfl rfl (hid (Zy w _ _ _ _ _ _).1) (hid (Zy w _ _ _ _ _ _).2.1) rfl rfl underlying130 rfl s underlying131 rfl u) rfl ?_
  exact⟨rfl,(Zy w _ _ _ _ _ _).2.2⟩
 have K:(kk == 8)=false:=by simpa using h8
 by_cases h9:kk=9
 ·subst h9;have j:Wi 9= [.bool true,.bool true,.bool false,.bool true]:=rfl;have d:XC 9=true:=rfl;rw [j,d];clear j d m;go_wp2;refine bodyPost_ret (YC rfl _ _ (w.heap.size+1) (w.heap.size+1+1) rfl rfl (hid (Zy w _ _ _ _ _ _).1) (hid (Zy w _ _ _ _ _ _).2.1) rfl rfl underlying130 rfl s underlying131 rfl u) rfl ?_
  exact⟨rfl,(Zy w _ _ _ _ _ _).2.2⟩
 have L:(kk == 9)=false:=by simpa using h9
 by_cases h10:kk=10
 ·subst h10;have j:Wi 10= [.bool false,.bool false,.bool false,.bool true]:=rfl;have d:XC 10=true:=rfl;rw [j,d];clear j d m;go_wp2;refine bodyPost_ret (YC rfl _ _ (w.heap.size+1) (w.heap.size+1+1) rfl rfl (hid (Zy w _ _ _ _ _ _).1) (hid (Zy w _ _ _ _ _ _).2.1) rfl rfl underlying130 rfl s underlying131 rfl u) rfl ?_
  exact⟨rfl,(Zy w _ _ _ _ _ _).2.2⟩
 have g10:(kk == 10)=false:=by simpa using h10
 by_cases h11:kk=11
 ·subst h11;have j:Wi 11= [.bool false,.bool false,.bool false,.bool true]:=rfl;have d:XC 11=true:=rfl;rw [j,d];clear j d m;go_wp2;refine bodyPost_ret (YC rfl _ _ (w.heap.size+1) (w.heap.size+1+1) rfl rfl (hid (Zy w _ _ _ _ _ _).1) (hid (Zy w _ _ _ _ _ _).2.1) rfl rfl underlying130 rfl s underlying131 rfl u) rfl ?_
  exact⟨rfl,(Zy w _ _ _ _ _ _).2.2⟩
 have g11:(kk == 11)=false:=by simpa using h11
 by_cases h12:kk=12
 ·subst h12;have j:Wi 12= [.bool false,.bool false,.bool true,.bool true]:=rfl;have d:XC 12=true:=rfl;rw [j,d];clear j d m;go_wp2;refine bodyPost_ret (YC rfl _ _ (w.heap.size+1) (w.heap.size+1+1) rfl rfl (hid (Zy w _ _ _ _ _ _).1) (hid (Zy w _ _ _ _ _ _).2.1) rfl rfl underlying130 rfl s underlying131 rfl u) rfl ?_
  exact⟨rfl,(Zy w _ _ _ _ _ _).2.2⟩
 have g12:(kk == 12)=false:=by simpa using h12
 by_cases h13:kk=13
 ·subst h13;have j:Wi 13= [.bool false,.bool false,.bool true,.bool true]:=rfl;have d:XC 13=true:=rfl;rw [j,d];clear j d m;go_wp2;refine bodyPost_ret (YC rfl _ _ (w.heap.size+1) (w.heap.size+1+1) rfl rfl (hid (Zy w _ _ _ _ _ _).1) (hid (Zy w _ _ _ _ _ _).2.1) rfl rfl underlying130 rfl s underlying131 rfl u) rfl ?_
  exact⟨rfl,(Zy w _ _ _ _ _ _).2.2⟩
 have g13:(kk == 13)=false:=by simpa using h13
 by_cases h14:kk=14
 ·subst h14;have j:Wi 14= [.bool true,.bool true,.bool false,.bool true]:=rfl;have d:XC 14=true:=rfl;rw [j,d];clear j d m;go_wp2;refine bodyPost_ret (YC rfl _ _ (w.heap.size+1) (w.heap.size+1+1) rfl rfl (hid (Zy w _ _ _ _ _ _).1) (hid (Zy w _ _ _ _ _ _).2.1) rfl rfl underlying130 rfl s underlying131 rfl u) rfl ?_
  exact⟨rfl,(Zy w _ _ _ _ _ _).2.2⟩
 have g14:(kk == 14)=false:=by simpa using h14
 by_cases h15:kk=15
 ·subst h15;have j:Wi 15= [.bool true,.bool true,.bool false,.bool true]:=rfl;have d:XC 15=true:=rfl;rw [j,d];clear j d m;go_wp2;refine bodyPost_ret (YC rfl _ _ (w.heap.size+1) (w.heap.size+1+1) rfl rfl (hid (Zy w _ _ _ _ _ _).1) (hid (Zy w _ _ _ _ _ _).2.1) rfl rfl underlying130 rfl s underlying131 rfl u) rfl ?_
  exact⟨rfl,(Zy w _ _ _ _ _ _).2.2⟩
 have g15:(kk == 15)=false:=by simpa using h15
 have j:Wi kk= [.bool false,.bool false,.bool false,.bool false]:=by unfold Wi Vy;simp [h1,h2,h3,h4,h5,h6,h7,h8,h9,h10,h11,h12,h13,h14,h15]
 have d:XC kk=false:=by rw [m.o];by_cases h:1<=kk;simp;omega;simp [h]
 rw [j,d];clear j d m h1 h2 h3 h4 h5 h6 h7 h8 h9 h10 h11 h12 h13 h14 h15;go_wp2;refine bodyPost_ret (YC rfl _ _ (w.heap.size+1) (w.heap.size+1+1) rfl rfl (hid (Zy w _ _ _ _ _ _).1) (hid (Zy w _ _ _ _ _ _).2.1) rfl rfl underlying130 rfl s underlying131 rfl u) rfl ?_
 exact⟨rfl,(Zy w _ _ _ _ _ _).2.2⟩
end Go.Proofs.YtnhmoibjlakhjaaGreat
