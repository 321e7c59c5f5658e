/- Lemmas, each under its own conditions. -/
import Derived.Test.YtnhmoibjlakhjaaGreatW39
set_option linter.all false
namespace Go.Proofs.YtnhmoibjlakhjaaGreat
open Go.Proofs.Tryz
open Lib (hid)
set_option maxRecDepth 100000
set_option maxHeartbeats 16000000
open Go.RowKit
open Lib (hid)
attribute [local go_sem] Oper.semAt_some
section
variable {w W : World} {t : TypeId} {cs : List Value} {o o1 o2 o3 : Obj}
theorem q1 (e:W=(((w.alloc (.cells cs.toArray t)).alloc o1).alloc o2).alloc o3):Hid (ZP W w.heap.size t cs):=hid (by rw [e];exact(((ZP.new w t cs).alloc _).alloc _).alloc _)
theorem q2 (e:W=(((w.alloc o).alloc (.cells cs.toArray t)).alloc o2).alloc o3):Hid (ZP W (w.heap.size+1) t cs):=hid (by rw [e];simpa using ((ZP.new (w.alloc o) t cs).alloc o2).alloc o3)
theorem q3 (e:W=(((w.alloc o).alloc o1).alloc (.cells cs.toArray t)).alloc o3):Hid (ZP W (w.heap.size+2) t cs):=hid (by rw [e];simpa using (ZP.new ((w.alloc o).alloc o1) t cs).alloc o3)
theorem q4 (e:W=(((w.alloc o).alloc o1).alloc o2).alloc (.cells cs.toArray t)):Hid (ZP W (w.heap.size+3) t cs):=hid (by rw [e];simpa using ZP.new (((w.alloc o).alloc o1).alloc o2) t cs)
theorem q0 (e:W=(((w.alloc o).alloc o1).alloc o2).alloc o3):Hid (Bw w W):=hid (by rw [e];exact(((br.alloc lr _).alloc (by simp) _).alloc (by simp;omega) _).alloc (by simp;omega) _)
end
def DL (s0:Sf)(row:List Vl)(w:World)(e:Ending)(w':World):Prop:= ∃ E:Int,e= .returned (i6 E)/\(E=0->VU s0.t row=0/\s0.rs.length<64)/\(VU s0.t row=0->s0.rs.length<64->s0.t.ZW= []->E=0)/\Bw w w'
theorem Uk {t:Tb}{row:List Vl}(h:VU t row=0):XK t.Z3 row=true:=by
 unfold VU at h;split at h
 ·cases h
 split at h
 ·cases h
 ·rename_i d;simpa using d
def Fg (s0:Sf)(w:World)(c:Code)(W:World):Prop:=c= .ret/\ ∃ E:Int,E≠0/\s0.t.ZW≠ []/\ZP W (w.heap.size+3) 45 [i6 E]/\Bw w W
def Fs (s0:Sf)(D:Nat)(w:World)(c:Code)(W:World):Prop:=Fg s0 w c W/\W.heap[D]?=some (.deferred (some []))
theorem MZ {q:Sf->Sf->Prop} : ∀ {m:List Sf},(m.Pairwise fun a b=>a.p≠b.p/\q a b)-> ∀ {a b:Sf},a∈m->b∈m->a.p=b.p->a=b
 | x ::l,h,a,b,ha,hb,e=>by
  obtain⟨s,u⟩:=List.pairwise_cons.1 h;rcases List.mem_cons.1 ha with d | d <;> rcases List.mem_cons.1 hb with j | j
  ·rw [d,j]
  ·exact absurd e (by rw [d];exact(s b j).1)
  ·exact absurd e.symm (by rw [j];exact(s a d).1)
  ·exact MZ u d j e
theorem Jj: ∃ j,prog.info? 112=some j/\j.size≠0:=by
 have h:=(iN 112 6).o
 cases hj:prog.info? 112 with
 | none=>rw [hj] at h;cases h
 | some j=>
  rw [hj] at h;have d:j.size=6:=by injection h
  exact⟨j,rfl,by omega⟩
theorem PF (a:Nat)(W:World):(binOp .eql 110 (pT a) (pT a)).run prog W= .ok (.bool true) W:=by
 obtain⟨j,d,h⟩:=Jj;exact run_eql_ptr_same W _ underlying110 d
theorem Rt {a b:Nat}{m cb:lV}{W:World}(d:a≠b)(s:ZP W a 112 m)(hb:ZP W b 112 cb):(binOp .eql 110 (pT a) (pT b)).run prog W= .ok (.bool false) W:=by
 obtain⟨j,u,C⟩:=Jj;exact run_eql_ptr_other W underlying110 u C (fun h=>d (by injection h)) s hb
theorem GR {x y:Value}{t:TypeId}{b:Bool}{W:World}(h:(binOp .eql t x y).run prog W= .ok (.bool b) W)(d: ∃ p,x= .pointer p)(j: ∃ p,y= .pointer p):(binOp .neq t x y).run prog W= .ok (.bool !b) W:=by
 obtain⟨p,rfl⟩:=d;obtain⟨q,rfl⟩:=j;simp only [binOp] at h ⊢;simp only [Sem.run_bind,Sem.run_pure] at h ⊢
 cases hr:(Op.equal t (.pointer p) (.pointer q)).run prog W <;> rw [hr] at h <;> simp_all [Result.andThen]
theorem La {β:Type}{s0:Sf}{w:World}{c:Code}{B:Nat}(D:w.heap.size<=B):OwnFrom B (fun(_:β) W=>Fg s0 w c W):=fun _ X Y row F h j=>by
 obtain⟨m,E,s,u,C,d⟩:=F;exact⟨m,E,s,u,Xe C h (fun r e=>(j r e).2),d.grown h d.size (fun k e=>Nat.le_trans D (j k e).1)⟩
theorem Is {β:Type}{s0:Sf}{D:Nat}{w:World}{c:Code}{B:Nat}(m:w.heap.size<=B)(s:D<B):OwnFrom B (fun(_:β) W=>Fs s0 D w c W):=fun z X Y row d h j=>⟨La m z X Y row d.1 h j,(h.block D (Array.getElem?_eq_some_iff.1 d.2).1 (fun e=>by have:=(j D e.symm).1;omega)).trans d.2⟩
def GX (ds:List Nat):List Deferred:=ds.map fun D=> { target:= .collected D,args:= #[]}
def Ww (ds:List Nat)(W:World):Prop:= ∀ D∈ds,W.heap[D]?=some (.deferred (some []))
theorem Wq {F:Fence}{n:Nat}{P:Program}{m:Func}{tmps:Array Value}{R:Ending->World->Prop}{h:World}(b:Nat)(t:TypeId)(cs:lV): ∀ (ds:List Nat)(w:World),ds.Nodup->(∀ D∈ds,h.heap.size<=D)->Ww ds w->ZP w b t cs->Bw h w->(∀ w',ZP w' b t cs->Bw h w'->LeavesInM F n P m tmps R [] .returning w')->LeavesInM F n P m tmps R (GX ds) .returning w
 | [],w,_,_,_,hb,hw,k=>k w hb hw
 | D ::ds,w,hn,hB,hm,hb,hw,k=>by
  have j:=hm D (by simp);obtain⟨u,C⟩:=List.nodup_cons.1 hn;refine⟨by simp,.inl ⟨D,_,rfl,run_takeDeferred j,?_⟩⟩
  refine Wq b t cs ds _ C (fun E d=>hB E (List.mem_cons_of_mem _ d)) (fun E d=> ?_) (Xe hb (grownBy_putObj' _ D (.deferred none)) (fun r e=>by cases e;exact⟨_,j,rfl⟩)) (hw.trans (belowK_b (w:=h) lr w D _ (.deferred none) (hB D (by simp)) j rfl rfl)) k
  have s:=hm E (List.mem_cons_of_mem _ d);exact((grownBy_putObj' w D (.deferred none)).block E (Array.getElem?_eq_some_iff.1 s).1 (fun e=>by injection e with e;exact u (e▸d))).trans s
theorem DK {F T:oA->Nat->Nat->World->Prop}{G:Prop}(h:(∀ A c p X,F A c p X->T A c p X)->G)(k: ∀ A c p X,F A c p X->T A c p X):G:=h k
theorem Ir (base g:Nat)(ss:List Sf)(s0:Sf)(row:List Vl)(B:oA)(m:Nat)(w:World)(h:WO w base g ss)(hg:WQ ss)(bI:s0∈ss)(u:rA w Zh (row.map Vl.da) B):
  cQ 113 #[pT g,pT s0.p,.slice B row.length m] w (DL s0 row w):=by
 obtain⟨i0,bZ,b1,aI,aJ⟩:=info_parts Vo;have ac:=hid h;have HG:=hid hg;have HM:=hid bI;have HR:=hid u;have bM:=iN 73 5;clear h hg bI u;refine callsIn_wide (n:=6) |>.1 ?_
 refine callsIn_of_wp_marks func113 rfl trivial ?_ rfl
 simp only [ntmps113,List.size_toArray,List.length_cons,List.length_nil,Nat.reduceAdd,Nat.reduceSub,Array.replicate_succ,Array.replicate_zero,List.push_toArray,List.append_toArray,List.nil_append,List.cons_append];refine wpIn_wide.2 ?_
 go_upto_region 1 with fail
 refine Wh _ fun W hW=> ?_
 have O:=q0 hW;have K0:Hid (ZP W w.heap.size 57 [pT g]):=q1 hW;have Z:Hid (ZP W (w.heap.size+1) 110 [pT s0.p]):=q2 hW;have K2:Hid (ZP W (w.heap.size+2) 61 [sl B row m]):=q3 hW;have L:Hid (ZP W (w.heap.size+3) 45 [i6 0]):=q4 hW;clear hW;have G:=hid ((ac.o.sh s0 HM.o).later O.o);have HS:Hid (∀ V,Bw W V->(fun V=>Bw W V/\V.cell? (aD (w.heap.size+1) 0)=some (pT s0.p)/\V.cell? (aD (w.heap.size+2) 0)=some (sl B row m)/\V.rangeAt s0.p 0 [sT s0.t.Z9,sT s0.t.name,sT s0.t.ZN,sl s0.X s0.t.Z3 s0.x,sl s0.Y s0.t.ZW s0.y]) V):=hid fun V h=>⟨h,cb Z h 0,cb K2 h 0,(G.o.YK.below h G.o.YK.lt).range 0 _ rfl⟩
 have HC:=hid fun V (h:Bw W V)=>Jz s0.t s0.X s0.x s0.Y s0.y row B m V (G.o.I6.later h) (G.o.Ej.later h) (HR.o.later (O.o.trans (h.mono O.o.size))) (HG.o.t s0 HM.o).tm
 refine wp_region_noPanic ?_
 refine wp_region_held_drew (S:=fun V=>Bw W V/\V.cell? (aD (w.heap.size+1) 0)=some (pT s0.p)/\V.cell? (aD (w.heap.size+2) 0)=some (sl B row m)/\V.rangeAt s0.p 0 [sT s0.t.Z9,sT s0.t.name,sT s0.t.ZN,sl s0.X s0.t.Z3 s0.x,sl s0.Y s0.t.ZW s0.y]) (by kernel_rfl) (HS.o _ br.drew) (fun j=> ?_)
 (try simp only [pp]);refine tk 0 17 j ?_;refine tk 1 18 j ?_;refine tk 2 19 j ?_;refine tv 3 20 rfl j (yieldsIf_load_mid (by rfl) _ _ rfl (s0.p) 0 rfl [sT s0.t.Z9,sT s0.t.name,sT s0.t.ZN,sl s0.X s0.t.Z3 s0.x,sl s0.Y s0.t.ZW s0.y] _ (fun _ h=>h.2.2.2) underlying73 rfl bM.o) ?_
 refine tk 4 21 j ?_;refine on 5 22 fun K C=> ?_
 go_simp;refine(HC.o _ j.1).mono ?_
 rintro e V1 ⟨rfl,hb⟩;have ad:Bw W V1:=j.1.trans (hb.mono j.1.size);refine C.out _ _ (HS.o _ ad) (fun j=> ?_);clear C K j hb;(try simp only [pp])
 refine tk 6 7 (HS.o _ ad) ?_;refine wpAnyH_done (by kernel_rfl) ?_ _
 unfold NoPanic;dsimp only;have ag:=bt O ad;have bs:=bl K0 ad;have bu:=bl Z ad;have bv:=bl K2 ad;have bz:=bl L ad;have bq:=hid (G.o.later ad);clear HS HC G O K0 Z K2 L ad;have O:=ag;have K0:=bs;have Z:=bu;have K2:=bv;have L:=bz;have G:=bq;clear ag bs bu bv bz bq;by_cases hft:VU s0.t row=0
 ·have ay:=hid hft;rw [hft];clear hft;have x1:V1.cell? (aD (w.heap.size+1) 0)=some (pT s0.p):=ce Z 0;have x5:V1.cell? (aD s0.p 5)=some (sl s0.R s0.rs s0.r):=cd G.o.YK 5;by_cases hrm:64<=s0.rs.length
  ·have bc:(64:Int)<=(s0.rs.length:Int):=by omega
   have aY:=hid hrm;clear hrm;have q3:V1.cell? (aD (w.heap.size+3) 0)=some (i6 0):=ce L 0;have f3:=L.o.frozen 0;have HE:=hid (L.o.Zx 0 (i6 (2)));have ak:=hid (O.o.setCell (p:=(aD (w.heap.size+3) 0)) (by show _<=w.heap.size+3;omega) (i6 (2)))
   go_wp2;have aZ:=HE.o.cell0;refine⟨i6 (2),?_,2,rfl,(fun h=>by cases h),(fun _ h=>absurd h (by have:=aY.o;omega)),ak.o⟩
   simp [results,Tryz.f113,go_sem,aZ]
  ·have bc: ¬ (64:Int)<=(s0.rs.length:Int):=by omega
   have aY:=hid hrm;clear hrm;go_wp2_with fail;refine(Th s0.p 2 _).mono ?_
   rintro e W3 ⟨g1,g2,rfl,aF,aG,aI,aJ,hb⟩;have G1:=hid aF;have G2:=hid aG;have ag:=bt O hb;have av:=bl K0 hb;have aw:=bl Z hb;have ax:=bl K2 hb;have ah:=bl L hb;have au:=hid (G.o.later hb);clear O G K0 Z K2 L;have O:=ag;have K0:=av;have Z:=aw;have K2:=ax;have L:=ah;have G:=au;clear ag au av aw ax ah;clear x1 x5 hb aF aG aI aJ j;go_wp2_with fail;refine JF fun a0 an=> ?_
   have aR:=(HG.o.t s0 HM.o).tm.2.1;have bL:w.heap.size+3<W3.heap.size:=L.o.lt;refine wpIn_wide.1 (wpIn_rangeFunc_ownH (F:=Fence.wide) (n:=6) rfl (by omega) (gf:=238) (lb:= #[pT g1,pT g2]) (by rw [an];rfl) trivial (enters_of func238 (by kernel_rfl) rfl)
    (UO 4 s0.p s0.t s0.X s0.x s0.Y s0.y s0.rs s0.R s0.r 2 g1 g2 w W3 aR O.o ((ac.o.sh s0 HM.o).Ej) G.o.YK G1.o G2.o) belowK_t (belowK_b (Nat.le_refl _)) br (fun _=>rfl)
    (fun _ W=>Bw W3 W)
    (fun c _ W=>Fg s0 w c W)
    (ownFrom_below (Nat.le_refl _) (Nat.le_refl _))
    (fun c=>La (by omega))
    br
    (fun x a' W=> ∃ Bx,W3.heap.size<=Bx/\ZP W Bx 40 (YH.cs x.1)/\a'= { tmps:=(a0.tmps.setIfInBounds 34 (.agg (YH.cs x.1).toArray)).setIfInBounds 8 (pT Bx),defers:= []})
    (fun x a' _ X Y row hs hg M=>by obtain⟨Bx,e1,e2,e3⟩:=hs;exact⟨Bx,e1,Xe e2 hg (fun r e=>(M r e).2),e3⟩)
    ?assign ?body ?done ?stop)
   case assign=>
    rintro l pre x W4 K u C;obtain⟨⟨T,V2,v2⟩,hy⟩: ∃ y,x.1=y:=⟨_,rfl⟩
    simp only [K5.enc,hy,YH.cs,Ru.cs] at C ⊢;clear hy;subst an;simp only [pp] at C ⊢;gi_wp2
    exact C _ _ ((KeepsOthers.alloc _ _).from _) (br.alloc u.size _) (u.alloc u.size _) ⟨W4.heap.size,u.size,ZP.new W4 _ _,rfl⟩
   case body=>
    rintro l pre x a' W4 hl ⟨lr,ba⟩ u ⟨Bx,bU,bX,rfl⟩ bb;obtain⟨⟨T,V2,v2⟩,hy⟩: ∃ y,x.1=y:=⟨_,rfl⟩
    have HX:Hid (T∈s0.t.ZW/\T.ZV=2/\rA w [.Z2] (YV T.Z3) V2):=hid (by have h:=x.2;rw [hy] at h;exact h);simp only [hy,YH.cs,Ru.cs] at bX ⊢;clear hy;subst an;simp only [pp];have BX:=hid bX;have I:=hid u;have J:=bt O u;clear ba bb bX;have x2:=ce BX 2;have k1:=cb Z u 0;have k2:=cb K2 u 0;have ap:=hid (HG.o.t s0 HM.o);have aQ:=ap.o.tm.1;have ae:row.length=s0.t.Z3.length:=Yd (Uk ay.o);have bo:=hid ae;have aC:=hid (TZ s0 T.Z3 V2 v2 row B m W4 (G.o.YK.below u G.o.YK.lt) (G.o.I6.later u) (HX.o.2.2.later J.o) (HR.o.later J.o) (ap.o.ru T HX.o.1).1 aQ (fun n hn=>by rw [ae];exact(ap.o.ru T HX.o.1).2 n hn));clear ae u;gi_wp2_with fail
    refine⟨trivial,?_⟩
    refine(CallsIn.inRound l (callsIn_wide.2 aC.o)).mono ?_
    rintro e V ⟨vs,A,c,b,aS,rfl,hA,hb⟩;have d:=hid hb;have HA:=hid hA;have b2:=hid aS;have aj:=bt I hb;have HS:Hid (∀ X,Bw V X->(fun X=>Bw V X/\X.cell? (aD (w.heap.size+1) 0)=some (pT s0.p)/\X.cell? (aD s0.p 5)=some (sl s0.R s0.rs s0.r)/\X.cell? (aD Bx 2)=some (sl V2 T.Z3 v2)) X):=hid fun X h=>by
     have h5:=aj.o.trans (h.mono aj.o.size);exact⟨h,cb Z h5 0,cd (G.o.YK.below h5 G.o.YK.lt) 5,cb BX (d.o.trans (h.mono d.o.size)) 2⟩
    clear x2 k1 k2 hb hA aC aS;gi_wp2_with fail
    cases b
    ·refine Yb (S:=fun X=>Bw V X/\X.cell? (aD (w.heap.size+1) 0)=some (pT s0.p)/\X.cell? (aD s0.p 5)=some (sl s0.R s0.rs s0.r)/\X.cell? (aD Bx 2)=some (sl V2 T.Z3 v2)) (by kernel_rfl) (by kernel_rfl) (by rintro⟨a,w,h⟩;exact h) (HS.o _ br.drew) (fun j=> ?_)
     (try simp only [pp]);refine tk 0 43 j ?_;refine tk 1 44 j ?_;refine sk 2 45 j ?_;refine sk 3 46 j ?_;refine sk 4 47 j ?_;refine sk 5 48 j ?_;refine sk 6 49 j ?_;refine sk 7 50 j ?_;refine sk 8 51 j ?_;refine sk 9 52 j ?_;refine sk 10 53 j ?_;refine tk 11 54 j ?_;refine wpAnyH_done (by kernel_rfl) ?_ _
     have am:=bt d j.1;clear j d HS aj;have d:=am;clear am;gi_wp2
     exact⟨Ws d.o (Nat.le_refl _),d.o.mono I.o.size,I.o.trans (d.o.mono I.o.size)⟩
    ·refine Yb (S:=fun X=>Bw V X/\X.cell? (aD (w.heap.size+1) 0)=some (pT s0.p)/\X.cell? (aD s0.p 5)=some (sl s0.R s0.rs s0.r)/\X.cell? (aD Bx 2)=some (sl V2 T.Z3 v2)) (by kernel_rfl) (by kernel_rfl) (by rintro⟨a,w,h⟩;exact h) (HS.o _ br.drew) (fun j=> ?_)
     (try simp only [pp]);refine tk 0 43 j ?_;refine tk 1 44 j ?_;refine tk 2 45 j ?_;refine tk 3 46 j ?_;refine tk 4 47 j ?_;refine tk 5 48 j ?_;refine tk 6 49 j ?_;refine tk 7 50 j ?_;refine tk 8 51 j ?_;refine tk 9 52 j ?_;refine on 10 53 fun K C=> ?_
     go_simp;have aE:=aj.o.trans (j.1.mono aj.o.size);have af:=J.o.trans ((d.o.trans (j.1.mono d.o.size)).mono J.o.size);have bJ:=HG.o.r s0 HM.o;refine(Tu s0 T.Z3 V2 v2 vs A c s0.rs s0.R s0.r _ (G.o.YK.below aE G.o.YK.lt) (G.o.I6.later aE) (HX.o.2.2.later af) (HA.o.later j.1) (ap.o.ru T HX.o.1).1 aQ (YS (G.o.own.ZC aE) rfl) (fun r M=>((G.o.Rz r M).XJ).later aE) (by omega) (fun r M n hn=>by rw [Yd (bJ.2 r M)];exact(ap.o.ru T HX.o.1).2 n hn)).mono ?_
     rintro e V6 ⟨b,rfl,hb⟩;have a8:=j.1.trans (hb.mono j.1.size);refine C.out _ _ (HS.o _ a8) (fun j=> ?_);clear C K hb aE af bJ;(try simp only [pp])
     refine tk 11 54 j ?_;refine wpAnyH_done (by kernel_rfl) ?_ _
     have am:=bt d a8;clear j d HS aj a8;have d:=am;clear am
     cases b
     ·gi_wp2
      exact⟨Ws d.o (Nat.le_refl _),d.o.mono I.o.size,I.o.trans (d.o.mono I.o.size)⟩
     ·have h4:=L.o.below (I.o.trans (d.o.mono I.o.size)) L.o.lt;have q3:V6.cell? (aD (w.heap.size+3) 0)=some (i6 0):=h4.cell0;have f3:V6.frozen? (aD (w.heap.size+3) 0)=false:=h4.frozen 0;have HE:=hid (h4.Zx 0 (i6 111));have ak:=hid ((J.o.trans (d.o.mono J.o.size)).setCell (p:=(aD (w.heap.size+3) 0)) (by show _<=w.heap.size+3;omega) (i6 111))
      have aA:=hid ((Ws (B:=W3.heap.size) d.o (Nat.le_refl _)).trans ((KeepsOthers.setCell V6 (aD (w.heap.size+3) 0) (i6 111)).from _));clear h4;gi_wp2
      exact⟨aA.o,rfl,111,by decide,List.ne_nil_of_mem HX.o.1,HE.o,ak.o⟩
   case done=>
    rintro D ys W4 hD _ u C;subst an;have bh:=hid C;have bB:D<W4.heap.size:=(Array.getElem?_eq_some_iff.1 C).1;have bi:=hid (show w.heap.size+3<D by omega);have ag:=bt O u;have av:=bl K0 u;have aw:=bl Z u;have ax:=bl K2 u;have ah:=bl L u;have au:=hid (G.o.later u);clear O G K0 Z K2 L;have O:=ag;have K0:=av;have Z:=aw;have K2:=ax;have L:=ah;have G:=au;clear ag au av aw ax ah;clear C u G1 G2 aR bL;dsimp only;have x1:=ce Z 0;go_wp2_with fail;refine(Th s0.p 4 _).mono ?_
    rintro e W6 ⟨g1,g2,rfl,aF,aG,aI,aJ,hb⟩;have G1:=hid aF;have G2:=hid aG;have aK:Hid (W6.heap[D]?=some (.deferred (some []))):=hid ((hb.block D bB).trans bh.o);have ag:=bt O hb;have av:=bl K0 hb;have aw:=bl Z hb;have ax:=bl K2 hb;have ah:=bl L hb;have au:=hid (G.o.later hb);clear O G K0 Z K2 L;have O:=ag;have K0:=av;have Z:=aw;have K2:=ax;have L:=ah;have G:=au;clear ag au av aw ax ah;have aM:D<W6.heap.size:=(Array.getElem?_eq_some_iff.1 aK.o).1;clear x1 hb aF aG aI aJ bB bh;go_wp2_with fail;refine JF fun a0 an=> ?_
    have aR:=(HG.o.t s0 HM.o).tm.2.1;have bL:w.heap.size+3<W6.heap.size:=L.o.lt;refine wpIn_wide.1 (wpIn_rangeFunc_ownH (F:=Fence.wide) (n:=6) rfl (by omega) (gf:=238) (lb:= #[pT g1,pT g2]) (by rw [an];rfl) trivial (enters_of func238 (by kernel_rfl) rfl)
     (UO 4 s0.p s0.t s0.X s0.x s0.Y s0.y s0.rs s0.R s0.r 4 g1 g2 w W6 aR O.o ((ac.o.sh s0 HM.o).Ej) G.o.YK G1.o G2.o) belowK_t (belowK_b (Nat.le_refl _)) br (fun _=>rfl)
     (fun _ W=>Bw W6 W)
     (fun c _ W=>Fs s0 D w c W)
     (ownFrom_below (Nat.le_refl _) (Nat.le_refl _))
     (fun c=>Is (by omega) aM)
     br
     (fun x a' W=> ∃ Bx,W6.heap.size<=Bx/\ZP W Bx 40 (YH.cs x.1)/\a'= { tmps:=(a0.tmps.setIfInBounds 57 (.agg (YH.cs x.1).toArray)).setIfInBounds 11 (pT Bx),defers:= []})
     (fun x a' _ X Y row hs hg M=>by obtain⟨Bx,e1,e2,e3⟩:=hs;exact⟨Bx,e1,Xe e2 hg (fun r e=>(M r e).2),e3⟩)
     ?assign2 ?body2 ?done2 ?stop2)
    case assign2=>
     rintro l pre x W4 K u C;obtain⟨⟨T,V2,v2⟩,hy⟩: ∃ y,x.1=y:=⟨_,rfl⟩
     simp only [K5.enc,hy,YH.cs,Ru.cs] at C ⊢;clear hy;subst an;simp only [pp] at C ⊢;gi_wp2
     exact C _ _ ((KeepsOthers.alloc _ _).from _) (br.alloc u.size _) (u.alloc u.size _) ⟨W4.heap.size,u.size,ZP.new W4 _ _,rfl⟩
    case body2=>
     rintro l pre x a' W4 hl ⟨lr,ba⟩ u ⟨Bx,bU,bX,rfl⟩ bb;obtain⟨⟨T,V2,v2⟩,hy⟩: ∃ y,x.1=y:=⟨_,rfl⟩
     have HX:Hid (T∈s0.t.ZW/\T.ZV=4/\rA w [.Z2] (YV T.Z3) V2):=hid (by have h:=x.2;rw [hy] at h;exact h);simp only [hy,YH.cs,Ru.cs] at bX ⊢;clear hy;subst an;simp only [pp];have BX:=hid bX;have I:=hid u;have J:=bt O u;clear ba bb bX;have x2:=ce BX 2;have k1:=cb Z u 0;have k2:=cb K2 u 0;have ap:=hid (HG.o.t s0 HM.o);have aQ:=ap.o.tm.1;have ae:row.length=s0.t.Z3.length:=Yd (Uk ay.o);have bo:=hid ae;have aC:=hid (TZ s0 T.Z3 V2 v2 row B m W4 (G.o.YK.below u G.o.YK.lt) (G.o.I6.later u) (HX.o.2.2.later J.o) (HR.o.later J.o) (ap.o.ru T HX.o.1).1 aQ (fun n hn=>by rw [ae];exact(ap.o.ru T HX.o.1).2 n hn));clear ae u;gi_wp2_with fail
     refine⟨trivial,?_⟩
     refine(CallsIn.inRound l (callsIn_wide.2 aC.o)).mono ?_
     rintro e V0 ⟨vs,Aw,cw,b,aS,rfl,hA,hb⟩;have bp:=hid hb;have bf:=hid hA;have bD:=I.o.trans (hb.mono I.o.size);have k0:=cb K0 bD 0;have y0:=cb BX hb 0;have y1:=cb BX hb 1;have y2:=cb BX hb 2;have y3:=cb BX hb 3;have y4:=cb BX hb 4;have y5:=cb BX hb 5;have y6:=cb BX hb 6;have y7:=cb BX hb 7;clear x2 k1 k2 hA aC aS;gi_wp2_with fail
     have bj:=hid (NP base g ss s0 T V2 v2 V0 (ac.o.later (J.o.trans (hb.mono J.o.size))) HG.o HM.o HX.o.1 HX.o.2.1);refine⟨trivial,?_⟩
     refine(CallsIn.inRound l (callsIn_wide.2 bj.o)).mono ?_
     rintro e V ⟨s,ZU,N,nc,bK,rfl,bF,bG,hN,a7⟩;have U:=hid bK;have bm:=hid bF;have aX:=hid bG;have HN:=hid hN;have HA:=hid (bf.o.later a7);have d:=bt bp a7;have aj:=bt I d.o;clear k0 y0 y1 y2 y3 y4 y5 y6 y7 bK bF bG hN a7 hb bD bj bp bf;have aH:=J.o.trans (d.o.mono J.o.size);have z5:V.cell? (aD s.p 5)=some (sl s.R s.rs s.r):=cd ((ac.o.sh s U.o).YK.below aH (ac.o.sh s U.o).YK.lt) 5;have k1:=cb Z aj.o 0;have aU:=hid ((ac.o.sh s U.o).YK.below aH (ac.o.sh s U.o).YK.lt);have aT:=hid ((ac.o.sh s0 HM.o).YK.below aH (ac.o.sh s0 HM.o).YK.lt);by_cases hp:s.p=s0.p
     ·obtain rfl:s=s0:=MZ ac.o.nd U.o HM.o hp;have bH:=PF s.p V;clear hp aH aU aT;gi_wp2_with fail
      have k2:=cb K2 aj.o 0;have HS:Hid (∀ X,Bw V X->(fun X=>Bw V X/\X.cell? (aD (w.heap.size+2) 0)=some (sl B row m)) X):=hid fun X h=>⟨h,cb K2 (aj.o.trans (h.mono aj.o.size)) 0⟩
      clear k1 k2 z5 bH;refine' DK (F:=fun A c p X=>Hid (X.ownsRow V.heap.size 61 1 (sl A s.rs c) s.rs.length (s.rs.flatMap X3.cs))/\Hid (ZP X p 61 [sl B row m])/\Hid (Bw V X)) (fun key=>_) _
      rotate_left
      ·refine Yb (S:=fun X=>Bw V X/\X.cell? (aD (w.heap.size+2) 0)=some (sl B row m)) (by kernel_rfl) (by kernel_rfl) (by rintro⟨a,w,h⟩;exact h) (HS.o _ br.drew) (fun j=> ?_)
       (try simp only [pp]);refine tk 0 79 j ?_;refine tk 2 81 j ?_;have aP:Bw V V.drew:=br.drew
       refine wpAnyH_ready (rs:= [1,3]) (by kernel_rfl) (by simp) ?_
       refine AllReadyH.cons (o:=⟨some 80,_,_,_,_,_⟩) rfl (fun K C=> ?_) (AllReadyH.cons (o:=⟨some 82,_,_,_,_,_⟩) rfl (fun K C=> ?_) AllReadyH.nil)
       ·go_simp;refine(PR s.R s.r s.rs V.drew (YS ((ac.o.sh s U.o).own.ZC ((J.o.trans (d.o.mono J.o.size)).trans ((aP).mono (J.o.trans (d.o.mono J.o.size)).size))) rfl) (by have:=(HG.o.r s U.o).1;omega)).mono ?_
        rintro e X1 ⟨A,c,rfl,hO,hb⟩;have ad:Bw V X1:=(aP).trans (hb.mono (aP).size);refine C.out _ _ (HS.o _ ad) (fun j=> ?_);clear C K;(try simp only [pp])
        refine on 3 82 fun K C=> ?_
        go_simp;have ai:=hid (ad.alloc ad.size (.cells #[sl B row m] 61));have aB:=hid ((hO.Yp aP.size).ZC (br.alloc (Nat.le_refl X1.heap.size) (.cells #[sl B row m] 61)));have az:=hid (ZP.new X1 61 [sl B row m]);generalize X1.alloc (.cells #[sl B row m] 61)=Xa at*;generalize X1.heap.size=p at*;refine C.out _ _ (HS.o _ ai.o) (fun j=> ?_);clear C K;(try simp only [pp])
        exact key A c p Xa ⟨aB,az,ai⟩
       ·go_simp;obtain⟨p,hp⟩: ∃ p,p=V.heap.size:=⟨_,rfl⟩
        have ai:Hid (Below V.heap.size V (V.alloc (.cells #[sl B row m] 61)).drew):=hid (br.alloc (Nat.le_refl _) (.cells #[sl B row m] 61)).drew;have az:Hid (ZP (V.alloc (.cells #[sl B row m] 61)).drew p 61 [sl B row m]):=hid (by rw [hp];exact(ZP.new V 61 [sl B row m]).drew);generalize hVA:(V.alloc (.cells #[sl B row m] 61)).drew=Va at*;rw [<-hp];clear hp hVA;refine C.out _ _ (HS.o _ ai.o) (fun j=> ?_);clear C K;(try simp only [pp])
        refine on 1 80 fun K C=> ?_
        go_simp;refine(PR s.R s.r s.rs Va (YS ((ac.o.sh s U.o).own.ZC ((J.o.trans (d.o.mono J.o.size)).trans ((ai.o).mono (J.o.trans (d.o.mono J.o.size)).size))) rfl) (by have:=(HG.o.r s U.o).1;omega)).mono ?_
        rintro e X1 ⟨A,c,rfl,hO,hb⟩;have ad:Bw V X1:=(ai.o).trans (hb.mono (ai.o).size);have bT:=bl az hb;have ag:=hid ad;have bO:=hid (hO.Yp ai.o.size);refine C.out _ _ (HS.o _ ad) (fun j=> ?_);clear C K;(try simp only [pp])
        exact key A c p X1 ⟨bO,bT,ag⟩
      rintro A c p X ⟨aB,az,ai⟩;refine on 4 83 fun K C=> ?_
      have b0:=(HG.o.r s U.o).1;have be:=ai.o.size;refine Ux rfl _ _ _ rfl V.heap.size 61 i0 _ 1 24 underlying67 bZ b1 aI aJ rfl (by decide) (sl A s.rs c) s.rs.length _ rfl aB.o (aD p 0) 1 1 [sl B row m] rfl rfl (ZP.news az.o) (by simp [Value.oneCell']) (by unfold maxLen;omega) (by omega) be ?_
      intro A7 c7 w7 bn bE;have ao:Hid (Bw V w7):=hid (ai.o.grown bE.o be (ZD aB.o));have bS:Hid (w7.ownsRow V.heap.size 61 1 (.slice A7 (s.rs ++ [((row,B,m):X3)]).length c7) (s.rs ++ [((row,B,m):X3)]).length ((s.rs ++ [((row,B,m):X3)]).flatMap X3.cs)):=hid (by have h:=bn.o;simpa [X3.cs] using h)
      refine C.out _ _ (HS.o _ ao.o) (fun j=> ?_);clear C K bn bE aB az ai be;(try simp only [pp])
      refine tk 5 16 j ?_;refine wpAnyH_done (by kernel_rfl) ?_ _
      clear j HS;rw [show s.rs.length+1=(s.rs ++ [((row,B,m):X3)]).length by simp];have ar:=bt d ao.o
      cases b
      ·gi_wp2_with fail
       refine⟨trivial,?_⟩
       clear d;have d:=ar;gi_wp2
       exact⟨Ws d.o (Nat.le_refl _),d.o.mono I.o.size,I.o.trans (d.o.mono I.o.size)⟩
      ·gi_wp2_with fail
       have af:=J.o.trans (ar.o.mono J.o.size);have aq:=hid (ac.o.sh s U.o);have ab: ∀ r∈(s.rs ++ [((row,B,m):X3)]),rA w7 Zh (r.1.map Vl.da) r.2.1:=by
        intro r M;rcases List.mem_append.1 M with M | M
        ·exact((ac.o.sh s U.o).Rz r M).XJ.later af
        ·rw [List.mem_singleton.1 M];exact HR.o.later af
       have aa: ∀ r∈(s.rs ++ [((row,B,m):X3)]),∀ n∈ZU,∃ i,Y7 s.t.Z3 n=some i/\i<r.1.length:=by
        intro r M n hn;rcases List.mem_append.1 M with M | M
        ·rw [Yd ((HG.o.r s U.o).2 r M)];exact aX.o n hn
        ·rw [List.mem_singleton.1 M];show ∃ i,Y7 s.t.Z3 n=some i/\i<row.length
         rw [bo.o];exact aX.o n hn
       have hh:=Tu s ZU N nc vs Aw cw (s.rs ++ [((row,B,m):X3)]) A7 c7 w7 (aq.o.YK.below af aq.o.YK.lt) (aq.o.I6.later af) (HN.o.later ao.o) (HA.o.later ao.o) bm.o (HG.o.t s U.o).tm.1 (YS bS.o rfl) ab (by have:=(HG.o.r s U.o).1;simp;omega) aa;(try rw [List.length_append,List.length_singleton] at hh)
       refine⟨trivial,?_⟩
       refine(CallsIn.inRound l (callsIn_wide.2 hh)).mono ?_
       clear hh ab aa;rintro e V8 ⟨b,rfl,hb⟩;have am:=bt ar hb;clear d hb af;have d:=am;clear am ar ao
       cases b
       ·have h4:=L.o.below (I.o.trans (d.o.mono I.o.size)) L.o.lt;have q3:V8.cell? (aD (w.heap.size+3) 0)=some (i6 0):=h4.cell0;have f3:V8.frozen? (aD (w.heap.size+3) 0)=false:=h4.frozen 0;have HE:=hid (h4.Zx 0 (i6 112));have ak:=hid ((J.o.trans (d.o.mono J.o.size)).setCell (p:=(aD (w.heap.size+3) 0)) (by show _<=w.heap.size+3;omega) (i6 112))
        have aA:=hid ((Ws (B:=W6.heap.size) d.o (Nat.le_refl _)).trans ((KeepsOthers.setCell V8 (aD (w.heap.size+3) 0) (i6 112)).from _));clear h4;have aV:=hid ((I.o.block D aM).trans aK.o);have aW:=hid ((Ws (B:=0) d.o (Nat.le_refl _)).trans ((KeepsOthers.setCell V8 (aD (w.heap.size+3) 0) (i6 112)).from _));gi_wp2
        exact⟨aA.o,⟨rfl,112,by decide,List.ne_nil_of_mem HX.o.1,HE.o,ak.o⟩,aW.o.same D _ (Nat.zero_le D) aV.o rfl⟩
       ·gi_wp2
        exact⟨Ws d.o (Nat.le_refl _),d.o.mono I.o.size,I.o.trans (d.o.mono I.o.size)⟩
     ·have bH:=Rt hp aU.o aT.o;clear hp aH aU aT;have ao:=hid (Below.refl V.heap.size V);have ar:=bt d ao.o
      cases b
      ·gi_wp2_with fail
       refine⟨trivial,?_⟩
       clear d;have d:=ar;gi_wp2
       exact⟨Ws d.o (Nat.le_refl _),d.o.mono I.o.size,I.o.trans (d.o.mono I.o.size)⟩
      ·gi_wp2_with fail
       have af:=J.o.trans (ar.o.mono J.o.size);have aq:=hid (ac.o.sh s U.o);have ab: ∀ r∈s.rs,rA V Zh (r.1.map Vl.da) r.2.1:=by
        intro r M;exact((aq.o.Rz r M).XJ).later af
       have aa: ∀ r∈s.rs,∀ n∈ZU,∃ i,Y7 s.t.Z3 n=some i/\i<r.1.length:=by
        intro r M n hn;rw [Yd ((HG.o.r s U.o).2 r M)];exact aX.o n hn
       have hh:=Tu s ZU N nc vs Aw cw s.rs s.R s.r V (aq.o.YK.below af aq.o.YK.lt) (aq.o.I6.later af) (HN.o.later ao.o) (HA.o.later ao.o) bm.o (HG.o.t s U.o).tm.1 (YS (aq.o.own.ZC af) rfl) ab (by have:=(HG.o.r s U.o).1;omega) aa;(try rw [List.length_append,List.length_singleton] at hh)
       refine⟨trivial,?_⟩
       refine(CallsIn.inRound l (callsIn_wide.2 hh)).mono ?_
       clear hh ab aa;rintro e V8 ⟨b,rfl,hb⟩;have am:=bt ar hb;clear d hb af;have d:=am;clear am ar ao
       cases b
       ·have h4:=L.o.below (I.o.trans (d.o.mono I.o.size)) L.o.lt;have q3:V8.cell? (aD (w.heap.size+3) 0)=some (i6 0):=h4.cell0;have f3:V8.frozen? (aD (w.heap.size+3) 0)=false:=h4.frozen 0;have HE:=hid (h4.Zx 0 (i6 112));have ak:=hid ((J.o.trans (d.o.mono J.o.size)).setCell (p:=(aD (w.heap.size+3) 0)) (by show _<=w.heap.size+3;omega) (i6 112))
        have aA:=hid ((Ws (B:=W6.heap.size) d.o (Nat.le_refl _)).trans ((KeepsOthers.setCell V8 (aD (w.heap.size+3) 0) (i6 112)).from _));clear h4;have aV:=hid ((I.o.block D aM).trans aK.o);have aW:=hid ((Ws (B:=0) d.o (Nat.le_refl _)).trans ((KeepsOthers.setCell V8 (aD (w.heap.size+3) 0) (i6 112)).from _));gi_wp2
        exact⟨aA.o,⟨rfl,112,by decide,List.ne_nil_of_mem HX.o.1,HE.o,ak.o⟩,aW.o.same D _ (Nat.zero_le D) aV.o rfl⟩
       ·gi_wp2
        exact⟨Ws d.o (Nat.le_refl _),d.o.mono I.o.size,I.o.trans (d.o.mono I.o.size)⟩
    case done2=>
     rintro D2 ys W7 bA _ aL aO;subst an;have bC:=(aL.block D aM).trans aK.o;have bg:=bt O aL;have ah:=bl L aL;have q3:W7.cell? (aD (w.heap.size+3) 0)=some (i6 0):=ce ah 0;have f3:=ah.o.frozen 0;have HE:=hid (ah.o.Zx 0 (i6 0));have ak:=hid (bg.o.setCell (p:=(aD (w.heap.size+3) 0)) (by show _<=w.heap.size+3;omega) (i6 0))
     have hz:=bi.o;have bk:Hid ([D2,D].Nodup/\ ∀ E∈ [D2,D],w.heap.size<=E):=hid ⟨by simp;omega,by simp;omega⟩
     have bN:Hid (Ww [D2,D] (W7.setCell (aD (w.heap.size+3) 0) (i6 0))):=hid fun E hE=>by
      rcases List.mem_cons.1 hE with rfl | hE
      ·exact(Below.heap_setCell _ (aD (w.heap.size+3) 0) _ _ (by show _≠w.heap.size+3;omega)).trans aO
      ·rw [List.mem_singleton.1 hE];exact(Below.heap_setCell _ (aD (w.heap.size+3) 0) _ _ (by show _≠w.heap.size+3;omega)).trans bC
     clear aO aL bC ah bg hz bA;dsimp only;go_wp2;refine Wq (w.heap.size+3) _ _ [D2,D] _ bk.o.1 bk.o.2 bN.o HE.o ak.o (fun w' a6 bd=> ?_)
     have c3:=a6.cell0;refine⟨i6 0,?_,0,rfl,fun _=>⟨ay.o,by have:=aY.o;omega⟩,fun _ _ _=>rfl,bd⟩
     simp [results,Tryz.f113,go_sem,c3]
    case stop2=>
     rintro D2 c pre W7 bA _ ⟨⟨rfl,E,h1,h2,h3,h4⟩,bV⟩ aO;subst an;have hz:=bi.o;gi_wp2
     refine Wq (w.heap.size+3) _ _ [D2,D] _ (by simp;omega) (by simp;omega) (fun E hE=>by
      rcases List.mem_cons.1 hE with rfl | hE
      ·exact aO
      ·rw [List.mem_singleton.1 hE];exact bV) h3 h4 (fun w' a6 bd=> ?_)
     have c3:=a6.cell0;refine⟨i6 E,?_,E,rfl,fun h=>absurd h h1,fun _ _ h=>absurd h h2,bd⟩
     simp [results,Tryz.f113,go_sem,c3]
   case stop=>
    rintro D c pre W4 hD _ ⟨rfl,E,h1,h2,h3,h4⟩ C;subst an;gi_wp2
    refine⟨by simp,.inl ⟨_,_,rfl,run_takeDeferred C,?_⟩⟩
    have c3:=cell_kept h3.cell0 (grownBy_putObj' _ D (.deferred none)) (fun r e=>by cases e;exact⟨_,C,rfl⟩);have bW:=h4.trans (belowK_b (w:=w) (Nat.le_refl _) W4 D _ (.deferred none) (by omega) C rfl rfl);refine⟨i6 E,?_,E,rfl,fun h=>absurd h h1,fun _ _ h=>absurd h h2,bW⟩
    simp [results,Tryz.f113,go_sem,c3]
 ·have ay:=hid hft;have b3:(VU s0.t row == 0)=false:=by simpa using hft
  have bY:(VU s0.t row != 0)=true:=by simpa using hft
  clear hft;have q3:V1.cell? (aD (w.heap.size+3) 0)=some (i6 0):=ce L 0;have f3:=L.o.frozen 0;have HE:=hid (L.o.Zx 0 (i6 (VU s0.t row)));have ak:=hid (O.o.setCell (p:=(aD (w.heap.size+3) 0)) (by show _<=w.heap.size+3;omega) (i6 (VU s0.t row)))
  go_wp2;have aZ:=HE.o.cell0;refine⟨i6 (VU s0.t row),?_,VU s0.t row,rfl,(fun h=>absurd h ay.o),(fun h=>absurd h ay.o),ak.o⟩
  simp [results,Tryz.f113,go_sem,aZ]
end Go.Proofs.YtnhmoibjlakhjaaGreat
