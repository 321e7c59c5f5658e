/- Lemmas, each under its own conditions. -/
import Derived.Test.YtnhmoibjlakhjaaGreatW40
set_option linter.all false
namespace Go.Proofs.YtnhmoibjlakhjaaGreat
open Go.Proofs.Tryz
open Lib (hid)
set_option maxRecDepth 100000
set_option maxHeartbeats 16000000
open Go.RowKit
open Lib (hid)
theorem Iy {P:Program}{w:World}{ops:Array Oper}{o:Oper}{a:Act}{K:Act->World->Prop}{Q:Exit->Act->World->Prop}{Z:Prop}(T:o.guard=none)(s x:Operand)(t:TypeId)
  (ho:o.op= .call { callee:= .builtin .append,args:= #[s,x],argTypes:= #[t,t]})
  (base:Nat) (e:TypeId) (i:TypeInfo) (z:Value) (size bytes:Nat) (ht:P.underlying t=some (.slice e)) (hi:P.info? e=some i) (hz:i.zero=some z)
  (J:i.size=size) (O:i.bytes=bytes) (V:z.cells.size=size) (U:0<size)
  (v:Value) (n:Nat) (xs:lV) (hs:a.eval s=v) (L:w.ownsRow base e size v n xs)
  (D:Addr) (m c:Nat) (news:lV) (hx:a.eval x= .slice (some D) m c) (hl:news.length=m*size) (I: ∀ j u,news[j]?=some u->w.cell? (D.add j)=some u) (h1: ∀ u∈news,u.oneCell'=true)
  (N:n+m<=maxLen) (F:(n+m)*bytes<=140737488355328) (G:base<=w.heap.size)
  (h: ∀ d C w',Hid (w'.ownsRow base e size (.slice d (n+m) C) (n+m) (xs ++news))->Hid (w.grownBy w' v.ownBlock)->Hid ((Value.slice d (n+m) C).ownBlock=v.ownBlock∨(Value.slice d (n+m) C).ownBlock=some w.heap.size)->K (a.put o.dst (.slice d (n+m) C)) w'):if Region.wanted o (yielded ops a.tmps)=true then Oper.wp P o a w K Q else Z:=by
 have hw:Region.wanted o (yielded ops a.tmps)=true:=by simp [Region.wanted,T]
 rw [if_pos hw];obtain⟨v',w',M,E,h3,_,h5⟩:=run_append_own_at (P:=P) w base t o.type e i z size bytes ht hi hz J O V U v n xs L D m c news hl I h1 N F G;unfold Oper.wp execOp;simp only [ho,resolve,invoke,builtin,Sem.run_bind,Sem.run_pure,Result.andThen_ok,List.map_toArray,List.map_cons,List.map_nil,hs,hx,M];obtain⟨d,C,rfl⟩:=WH E;exact h d C w' E h3 h5
structure Wv (base g:Nat) (ss:List Sf) (w:World) (ss':List Sf) (w':World):Prop where
 st:WO w' base g ss'
 gd:WQ ss'
 tb:ss'.map (·.t)=ss.map (·.t)
 kp:ZS [112,61] w w'
 bw:Below base w w'
theorem Wv.same {base g:Nat}{d:List Sf}{w w':World}(h:WO w base g d)(m:WQ d)(hb:Bw w w'):Wv base g d w d w':=by
 have s:base<=w.heap.size:=by
  obtain⟨L,c,j,_⟩:=h.st;exact Nat.le_trans h.gb (Nat.le_of_lt j.lt)
 exact⟨h.later hb,m,rfl,ZS.ZA hb lr,hb.mono s⟩
theorem Wv.later {base g:Nat}{j d:List Sf}{w w' w'':World}(h:Wv base g j w d w')(hb:Bw w' w''):Wv base g j w d w'':=
 ⟨h.st.later hb,h.gd,h.tb,h.kp.trans (ZS.ZA hb lr),h.bw.trans (hb.mono (by
  obtain⟨L,c,m,_⟩:=h.st.st;exact Nat.le_trans h.st.gb (Nat.le_of_lt m.lt)))⟩
theorem Wv.ahead {base g:Nat}{m j:List Sf}{d w w':World}(hb:Bw d w)(s:base<=d.heap.size)(h:Wv base g m w j w'):Wv base g m d j w':=
 ⟨h.st,h.gd,h.tb,(ZS.ZA hb lr).trans h.kp,(hb.mono s).trans h.bw⟩
theorem Wv.put {w w':World}{base g:Nat}{d:List Sf}{i:Nat}{s:Sf}(h:WO w base g d)(G:WQ d)(I:d[i]?=some s)(rs:List X3)(R:oA)(r:Nat)(m:UZ s.p s.ob w w')
  (u:ZP w' s.p 112 (Sf.cs (s.put rs R r))) (D:w'.ownsRow base 61 1 (.slice R rs.length r) rs.length (rs.flatMap X3.cs)) (E: ∀ x∈rs,ZT w' (Xs w' VT) Zh (x.1.map Vl.da) x.2.1)
  (C: ∀ k,(Value.slice R rs.length r).ownBlock=some k->s.ob=some k∨w.heap.size<=k) (J:rs.length<=64) (F: ∀ x∈rs,XK s.t.Z3 x.1=true) (hb:Below base w w'):Wv base g d w (d.set i (s.put rs R r)) w':=by
 obtain⟨j,rfl⟩:=List.getElem?_eq_some_iff.1 I
 exact⟨h.EJ j rs R r m u D E C,G.EJ j rs R r J F,Ld j rs R r,h.Fm j m,hb⟩
theorem Sf.pc (s:Sf)(rs:List X3)(R:oA)(r:Nat):Sf.cs (s.put rs R r)=(Sf.cs s).set 5 (.slice R rs.length r):=rfl
def DN (base g:Nat)(ss:List Sf)(i:Nat)(s:Sf)(q:Wo)(w:World)(e:Ending)(w':World):Prop:= ∃ (er:Int) (B:oA) (k c:Nat) (ss':List Sf),e= .returned (.tuple #[.slice B k c,i6 er])/\Wv base g ss w ss' w'/\
 (er=0->k=1/\VU s.t q.row=0/\ ∃ rs R r,ss'=ss.set i (s.put rs R r)/\rs.map (·.1)=s.rs.map (·.1) ++ [q.row])/\(VU s.t q.row=0->s.rs.length<64->s.t.ZW= []->er=0)
theorem Km (base g:Nat)(J:List Sf)(i:Nat)(s:Sf)(q:Wo)(A:oA)(n:Nat)(w:World)(h:WO w base g J)(hg:WQ J)(hi:J[i]?=some s)(hA:ZT w (Sx w base) Zh (q.row.map Vl.da) A):
  cQ 54 #[pT g,pT s.p,.agg #[i6 q.ZV,sT q.ZQ,sT q.Z9,sT q.ZZ,.slice A q.row.length n,sT q.WB,i6 q.val.ZV,i6 q.val.num,sT q.val.word]] w (DN base g J i s q w):=by
 obtain⟨i0,aM,aO,aP,aQ⟩:=info_parts Vo;have HM:=hid (List.mem_of_getElem? hi);have O:base<=w.heap.size:=by
  obtain⟨L,c,hB,_⟩:=h.st;exact Nat.le_trans h.gb (Nat.le_of_lt hB.lt)
 have ap:=hid h;have Z:=hid hg;have aK:=hid hi;have HA:=hid hA;clear h hg hi hA;go_enter func54,ntmps54
 go_upto_region 1 with fail
 refine Wh _ fun W C=> ?_
 have HB:=bP C;have B0:Hid (ZP W w.heap.size 66 [i6 q.ZV,sT q.ZQ,sT q.Z9,sT q.ZZ,.slice A q.row.length n,sT q.WB,i6 q.val.ZV,i6 q.val.num,sT q.val.word]):=nC C;clear C;have c4:=ce B0 4;go_wp2_with fail;refine(Ir base g J s q.row A n W (ap.o.later HB.o) Z.o HM.o ((Sb HA.o O).later HB.o)).mono ?_
 rintro e j ⟨E,rfl,h1,h2,hb⟩;have M:=bt HB hb;have B2:=bl B0 hb;have ac:=hid (ap.o.later M.o);have an:=hid h1;have aC:=hid h2;clear h1 h2 hb c4 HB B0;by_cases hE:E=0
 case neg=>
  have aF:=hid hE;have g1:(E == 0)=false:=by simpa using hE
  have g2:(E != 0)=true:=by simpa using hE
  clear hE;go_wp2;go_ret2;exact⟨E,none,0,0,J,rfl,Wv.same ap.o Z.o M.o,fun h=>absurd h aF.o,fun a b c=>absurd (aC.o a b c) aF.o⟩
 subst hE;have ao:=hid (an.o rfl).1;have aT:=(an.o rfl).2;clear an aC;go_upto_region 4 with fail
 have u:=hid (ac.o.sh s HM.o);have x5:=cd u.o.YK 5;have c4:=ce B2 4;have aJ:=u.o.YK.lt;have aS:=B2.o.lt;have af:q.row.length<=1099511627776:=by
  rw [Yd (Uk ao.o)];exact(Z.o.t s HM.o).tm.1
 have ab:base<=j.heap.size:=Nat.le_trans O M.o.size;refine Ys 12 (S:=fun V=>V.cell? (aD s.p 5)=some (.slice s.R s.rs.length s.r)/\V.cell? (aD w.heap.size 4)=some (.slice A q.row.length n)) (by kernel_rfl) ⟨x5,c4⟩ (fun G=> ?_)
 (try simp only [pp]);refine WZ 0 17 G ?_;refine WZ 1 18 G ?_;refine WZ 2 19 G ?_;refine WZ 3 20 G ?_;refine WZ 4 21 G ?_;refine WZ 5 22 G ?_;refine WZ 6 23 G ?_;refine UK 7 24 fun K d=> ?_
 go_simp;have av:Bw j j.drew:=br.drew;refine(TN A n q.row j.drew (Vl.Yn (((Sb HA.o O).later M.o).later av)) af).mono ?_
 rintro e V1 ⟨Bv,bc,rfl,ho,hb⟩;have ag:Hid (Bw j V1):=hid (av.trans hb);have aG:=hid (RJ (us:=VT) ho (by decide));clear ho hb av;refine d.out _ _ ⟨cd (u.o.YK.below ag.o aJ) 5,ce (bl B2 ag.o) 4⟩ ?_
 clear d K;(try simp only [pp])
 refine UK 8 25 fun K d=> ?_
 go_simp;refine Fe _ fun V2 au=> ?_
 have am:Hid (Bw V1 V2):=bP au;have aE:Hid (ZP V2 V1.heap.size 61 [.slice Bv q.row.length bc]):=nC au;clear au;have F:=bt ag am.o;have aj:=hid (u.o.own.ZC F.o);have ak:=hid (u.o.YK.below F.o aJ);have B4:=bl B2 F.o;refine d.out _ _ ⟨ce ak 5,ce B4 4⟩ ?_
 clear d K;(try simp only [pp])
 refine UK 9 26 fun K d=> ?_
 have ae:base<=V2.heap.size:=Nat.le_trans ab F.o.size;refine Iy rfl _ _ _ rfl base 61 i0 _ 1 24 underlying67 aM aO aP aQ rfl (by decide) (.slice s.R s.rs.length s.r) s.rs.length _ rfl aj.o (aD V1.heap.size 0) 1 1 [.slice Bv q.row.length bc] rfl rfl (ZP.news aE.o) (by simp [Value.oneCell']) (by unfold maxLen;omega) (by omega) ae ?_
 intro A7 c7 w7 aH T ad;have ah:Hid (ZS [61] V2 w7):=hid (ZS.grown aj.o T.o (by simp) T.o.size);have D:=hid (ak.o.keeps ah.o (by decide));have U:=hid (B4.o.keeps ah.o (by decide));have aI:Hid (UZ s.p s.ob j w7):=hid ((UZ.ZA F.o).trans (UZ.grown T.o));have aA:Hid (Below base j w7):=hid ((F.o.mono ab).grown T.o ae (ZD aj.o));have az:Hid ((Value.slice A7 (s.rs.length+1) c7).ownBlock=s.ob∨ ∃ k,(Value.slice A7 (s.rs.length+1) c7).ownBlock=some k/\j.heap.size<=k):=hid (ad.o.imp id fun h=>⟨_,h,F.o.size⟩);clear ad;refine d.out _ _ ⟨ce D 5,ce U 4⟩ ?_
 clear d K;(try simp only [pp])
 refine UK 10 27 fun K d=> ?_
 go_simp;refine d.out _ _ ⟨ce D 5,ce U 4⟩ ?_
 clear d K;(try simp only [pp])
 refine UK 11 28 fun K d=> ?_
 go_simp;refine d.out _ _ ⟨ce D 5,ce U 4⟩ ?_
 clear d K;(try simp only [pp])
 refine Yt.WR (i:=12) (o:=⟨none,_,_,_,_,_⟩) (by kernel_rfl) rfl rfl (fun K d=> ?_)
 have e7:=ce D 5;have f7:=D.o.frozen 5;go_simp;refine d.out _ _ (Yt.done (by kernel_rfl) ?_ _);clear d K;refine Qv _ fun I C=> ?_
 have ax:=rB C (D.o.Zx 5 _);have ai:Hid (ZS [112] w7 I):=hid (by rw [C];exact ZS.Zx D.o.Xr (by simp) _);have aa:Hid (UZ s.p s.ob j I):=hid (aI.o.trans (by rw [C];exact UZ.set 5 _));have aB:Hid (Below base j I):=hid (by rw [C];exact aA.o.setCell (p:=(aD s.p 5)) u.o.pb _);have B9:=hid (U.o.keeps ai.o (by decide));have N:Hid (Wv base g J j (J.set i (s.put (s.rs ++ [((q.row,Bv,bc):X3)]) A7 c7)) I):=hid (by
  have hl:(s.rs ++ [((q.row,Bv,bc):X3)]).length=s.rs.length+1:=by simp
  have ar:ZS [112,61] j I:=aa.o.keeps u.o.YK.Xr (fun k hk=>Yx u.o.own hk);have aL:ZS [112,61] V1 I:=((ZS.ZA am.o lr).trans (ah.o.X6 (by simp))).trans (ai.o.X6 (by simp));refine Wv.put ac.o Z.o aK.o _ _ _ aa.o ?_ ?_ (fun x m=> ?_) (fun k hk=> ?_) (by rw [hl];omega) (fun x m=> ?_) aB.o
  ·rw [Sf.pc,hl];exact ax.o
  ·rw [hl];have h:=aH.o.keeps ai.o (by decide);simpa [X3.cs] using h
  ·rcases List.mem_append.1 m with m | m
   ·exact ZI (u.o.Rz x m) ar (by decide)
   ·rw [List.mem_singleton.1 m];exact ZI aG.o aL (by decide)
  ·rw [hl] at hk;rcases az.o with h | ⟨k',h,h'⟩
   ·exact .inl (h.symm.trans hk)
   ·rw [hk] at h;injection h with h
    exact .inr (by omega)
  ·rcases List.mem_append.1 m with m | m
   ·exact(Z.o.r s HM.o).2 x m
   ·rw [List.mem_singleton.1 m];exact Uk ao.o)
 have ay:=hid (Pu (Pt HA.o M.o O) N.o.kp (by decide) N.o.bw);have aw:base<=I.heap.size:=Nat.le_trans ab N.o.bw.size;clear C e7 f7 ai aa aB aI aA az aH T ah D U ax aj ak B4 aE am aG ag F G x5 c4;have c4:=ce B9 4;go_wp2_with fail;refine(TN A n q.row I (Vl.Yn (Sb ay.o aw)) af).mono ?_
 rintro e aR ⟨Bw,bw,rfl,-,hb⟩;have aq:=hid (Wv.ahead M.o O (N.o.later hb));clear hb c4 N ay;go_wp2;go_ret2;exact⟨0,_,1,_,_,rfl,aq.o.later (br.alloc lr _),fun _=>⟨rfl,ao.o,_,_,_,rfl,by simp⟩,fun _ _ _=>rfl⟩
attribute [local go_sem] Oper.semAt_some
section
variable {w W : World} {t : TypeId} {cs : List Value} {o o1 o2 o3 o4 : Obj}
theorem v1 (e:W=((((w.alloc (.cells cs.toArray t)).alloc o1).alloc o2).alloc o3).alloc o4):Hid (ZP W (w.heap.size) t cs):=hid (by rw [e];exact((((ZP.new w t cs).alloc _).alloc _).alloc _).alloc _)
theorem v2 (e:W=((((w.alloc o).alloc (.cells cs.toArray t)).alloc o2).alloc o3).alloc o4):Hid (ZP W (w.heap.size+1) t cs):=hid (by rw [e];simpa using (((ZP.new (w.alloc o) t cs).alloc _).alloc _).alloc _)
theorem v3 (e:W=((((w.alloc o).alloc o1).alloc (.cells cs.toArray t)).alloc o3).alloc o4):Hid (ZP W (w.heap.size+2) t cs):=hid (by rw [e];simpa using ((ZP.new ((w.alloc o).alloc o1) t cs).alloc _).alloc _)
theorem v4 (e:W=((((w.alloc o).alloc o1).alloc o2).alloc (.cells cs.toArray t)).alloc o4):Hid (ZP W (w.heap.size+3) t cs):=hid (by rw [e];simpa using (ZP.new (((w.alloc o).alloc o1).alloc o2) t cs).alloc _)
theorem v5 (e:W=((((w.alloc o).alloc o1).alloc o2).alloc o3).alloc (.cells cs.toArray t)):Hid (ZP W (w.heap.size+4) t cs):=hid (by rw [e];simpa using ZP.new ((((w.alloc o).alloc o1).alloc o2).alloc o3) t cs)
theorem v0 (e:W=((((w.alloc o).alloc o1).alloc o2).alloc o3).alloc o4):Hid (Bw w W):=hid (by rw [e];exact((((br.alloc lr _).alloc (by simp) _).alloc (by simp;omega) _).alloc (by simp;omega) _).alloc (by simp;omega) _)
end
def Ey (ds:List Nat)(w:World)(c:Code)(W:World):Prop:=c= .ret/\ZP W (w.heap.size+4) 4 [.bool true]/\Bw w W/\Ww ds W
theorem Hn {β:Type}{ds:List Nat}{w:World}{c:Code}{B:Nat}(C:w.heap.size<=B)(E: ∀ D∈ds,D<B):OwnFrom B (fun(_:β) W=>Ey ds w c W):=fun _ X Y row F d h=>by
 obtain⟨s,u,j,m⟩:=F;exact⟨s,Xe u d (fun r e=>(h r e).2),j.grown d j.size (fun k e=>Nat.le_trans C (h k e).1),fun D hd=>(d.block D (Array.getElem?_eq_some_iff.1 (m D hd)).1 (fun e=>by have:=(h D e.symm).1;have:=E D hd;omega)).trans (m D hd)⟩
theorem WI {ds:List Nat}{w w':World}(h:Ww ds w)(hb:Bw w w'):Ww ds w':=fun D hd=>(hb.block D (Array.getElem?_eq_some_iff.1 (h D hd)).1).trans (h D hd)
theorem GW {ds:List Nat}{w:World}(h:Ww ds w): ∀ D∈ds,D<w.heap.size:=fun D hd=>(Array.getElem?_eq_some_iff.1 (h D hd)).1
theorem Rn {ds:List Nat}{w:World}(h:Ww ds w)(b i:Nat)(u:Value)(d: ∀ D∈ds,D≠b):Ww ds (w.setCell (aD b i) u):=fun D hd=>(Below.heap_setCell w (aD b i) u D (d D hd)).trans (h D hd)
theorem Hm (base g:Nat)(J:List Sf)(s0:Sf)(left:List X3)(L:oA)(lc:Nat)(gone:List X3)(G:oA)(gc:Nat)(w:World)(h:WO w base g J)(hg:WQ J)(bq:s0∈J)(hL:Zj w w.heap.size L X3.cs left)(hG:Zj w w.heap.size G X3.cs gone)(hl: ∀ r∈left,r∈s0.rs)(bn: ∀ r∈gone,r∈s0.rs)(cW:left.length<=64)(de:gone.length<=64):
  cQ 116 #[pT g,pT s0.p,.slice L left.length lc,.slice G gone.length gc] w fun e w'=> ∃ b,e= .returned (.bool b)/\Bw w w':=by
 have HG:=hid hg;have HM:=hid bq;have bf:=hid h;have af:=hid hL;have ae:=hid hG;have aa:=hid hl;have ab:=hid bn;clear h hg bq hL hG hl bn;refine callsIn_wide (n:=6) |>.1 ?_
 refine callsIn_of_wp_marks func116 rfl trivial ?_ rfl
 simp only [ntmps116,List.size_toArray,List.length_cons,List.length_nil,Nat.reduceAdd,Nat.reduceSub,Array.replicate_succ,Array.replicate_zero,List.push_toArray,List.append_toArray,List.nil_append,List.cons_append];refine wpIn_wide.2 ?_
 go_upto_region 1 with fail
 refine Wh _ fun W hW=> ?_
 have HB:=v0 hW;have K0:Hid (ZP W w.heap.size 57 [pT g]):=v1 hW;have K1:Hid (ZP W (w.heap.size+1) 110 [pT s0.p]):=v2 hW;have K2:Hid (ZP W (w.heap.size+2) 67 [sl L left lc]):=v3 hW;have K3:Hid (ZP W (w.heap.size+3) 67 [sl G gone gc]):=v4 hW;have K4:Hid (ZP W (w.heap.size+4) 4 [.bool false]):=v5 hW;clear hW;have aj:=hid (bf.o.later HB.o);have ak:=hid (af.o.later HB.o);have aA:=hid (ae.o.later HB.o);have M:=hid (aj.o.sh s0 HM.o);clear bf af ae;obtain⟨L0,c0,bi,bj⟩:=aj.o.st;have HP:=hid bj;have dg:=HB.o.size;have cV:=K4.o.lt;have k0:=ce K0 0;have b0:=bi.cell 0;have aE:=(HG.o.t s0 HM.o).tm.1;have cZ:=HG.o.n;clear bi bj;go_wp2_with fail;refine wp_loop (fun a' wr=> ∃ (ds:List Nat) (j:Nat) (bv bz aZ bA bB bC bD bE bF bG bH bI bJ bK bL bM bN bO bS bT bU bV bW bY bZ b1 b2 b3 b4 b5 b6 b9 ca cc cf cg ch ci cj ck cn cp Dr cq cr cu cv cx cy cz cA cB cC cD cE cF cG cH:Value),(j<=J.length/\aZ=i6 j/\Hid (Bw W wr)/\Hid (Ww ds wr)/\Hid (ds.Nodup/\ ∀ D∈ds,W.heap.size<=D))/\a'= { tmps:= #[pT g,pT s0.p,sl L left lc,sl G gone gc,pT w.heap.size,pT (w.heap.size+1),pT (w.heap.size+2),pT (w.heap.size+3),pT (w.heap.size+4),undef,bv,bz,undef,undef,undef,undef,undef,undef,undef,pT g,pT g,pT g,sl L0 J c0,i6 J.length,aZ,bA,bB,bC,bD,bE,bF,bG,bH,bI,bJ,bK,bL,bM,bN,bO,bS,bT,bU,bV,bW,bY,bZ,b1,b2,b3,b4,b5,b6,b9,ca,cc,cf,cg,ch,ci,cj,ck,cn,cp,Dr,cq,cr,cu,cv,cx,cy,cz,cA,cB,cC,cD,cE,cF,cG,cH],defers:=GX ds}) (fun a' _=>J.length - (intOf (a'.tmps.getD 24 undef)).toNat) ⟨[],0,_,_,_,_,_,_,_,_,_,_,_,_,_,_,_,_,_,_,_,_,_,_,_,_,_,_,_,_,_,_,_,_,_,_,_,_,_,_,_,_,_,_,_,_,_,_,_,_,_,_,_,_,_,_,_,_,_,_,⟨Nat.zero_le _,rfl,hid br,hid (fun D hd=>by cases hd),hid ⟨List.nodup_nil,fun D hd=>by cases hd⟩⟩,rfl⟩ ?_
 clear k0 b0;rintro a1 wr ⟨ds,j,bv,bz,aZ,bA,bB,bC,bD,bE,bF,bG,bH,bI,bJ,bK,bL,bM,bN,bO,bS,bT,bU,bV,bW,bY,bZ,b1,b2,b3,b4,b5,b6,b9,ca,cc,cf,cg,ch,ci,cj,ck,cn,cp,Dr,cq,cr,cu,cv,cx,cy,cz,cA,cB,cC,cD,cE,cF,cG,cH,⟨hj,rfl,aG,aP,ai⟩,rfl⟩;by_cases aI:j<J.length
 ·have dc:(j:Int)< (J.length:Int):=by omega
  obtain⟨ad,rfl,_,C⟩:=(HP.o.keeps (us:= []) (ZS.ZA aG.o (Nat.le_refl _)) (by simp)) (by omega);have hc:=C j J[j] (List.getElem?_eq_getElem aI);have ap:=hid (List.getElem_mem aI);clear C;generalize J[j]=s at*;have U:=hid ((aj.o.sh s ap.o));go_upto_region 4 with fail
  refine Wh _ fun V1 aH=> ?_
  have Y1:Hid (ZP V1 wr.heap.size 110 [pT s.p]):=nC aH;have aF:=bt aG (bP aH).o;have a8:=hid (WI aP.o (bP aH).o);clear aH hc;have y0:=ce Y1 0;have z5:=cd (U.o.YK.below aF.o U.o.YK.lt) 5;go_upto_region 5 with fail
  refine Wh _ fun V2 aB=> ?_
  have A2:Hid (ZP V2 V1.heap.size 67 [sl s.R s.rs s.r]):=nC aB;have T:=bt aF (bP aB).o;have Y2:=bl Y1 (bP aB).o;have ao:=hid (WI a8.o (bP aB).o);clear aB y0 z5 Y1 a8 aP;go_cut [24,34] from 24 to 79 (fun v24 c8 V=>v24=i6 j/\ ∃ b,c8= .bool b/\Hid (b=decide (s.p=s0.p))/\Hid (V=V2))
  case first=>
   have y0:=ce Y2 0;have k1:=cb K1 T.o 0;by_cases I:s.p=s0.p
   ·have hd:Hid (true=decide (s.p=s0.p)):=hid (by simp [I]);have aJ:=PF s0.p V2;rw [I] at y0;clear I;go_wp2;go_meet
    case rel=>exact⟨rfl,true,rfl,hd,hid rfl⟩
   ·have hd:Hid (false=decide (s.p=s0.p)):=hid (by simp [I]);have aJ:=Rt I (U.o.YK.below T.o U.o.YK.lt) (M.o.YK.below T.o M.o.YK.lt);clear I;go_wp2;go_meet
    case rel=>exact⟨rfl,false,rfl,hd,hid rfl⟩
  case rest=>
  obtain⟨rfl,b,rfl,Hd,bg⟩:=hcut;have cT:=bg.o.symm;clear bg;subst cT;go_upto_if 34 with fail
  go_cut [24] from 24 to 79 (fun v24 V=>v24=i6 j/\ ∃ (O:List X3) (AR:oA) (ac:Nat),Hid (Bw W V)/\Hid (ZP V wr.heap.size 110 [pT s.p])/\Hid (ZP V V1.heap.size 67 [sl AR O ac])/\Hid (Zj V V.heap.size AR X3.cs O)/\Hid (∀ r∈O,r∈s.rs)/\Hid (O.length<=64)/\Hid (Ww ds V))
  case first=>
   cases b
   ·go_wp2;go_meet
    case rel=>exact⟨rfl,s.rs,s.R,s.r,T,Y2,A2,hid ((YS U.o.own rfl).later T.o),hid (fun r C=>C),hid (HG.o.r s ap.o).1,ao⟩
   ·have I:s.p=s0.p:=by simpa using Hd.o
    obtain rfl:s=s0:=MZ aj.o.nd ap.o HM.o I;have k2:=cb K2 T.o 0;have a0:=ce A2 0;have f0:=A2.o.frozen 0;have A3:=hid (A2.o.Zx 0 (sl L left lc));have hy:wr.heap.size≠V1.heap.size:=fun e=>by
     have h1:=Y2.o.Xr;rw [e] at h1;exact absurd (h1.same A2.o.Xr) (by decide)
    have Y3:=hid (Y2.o.WT (p:=(aN V1 0)) (by exact hy) (sl L left lc));have aU:W.heap.size<=V1.heap.size:=aF.o.size;have ag:=hid (T.o.setCell (p:=(aN V1 0)) aU (sl L left lc));have ax:=hid (Rn ao.o V1.heap.size 0 (sl L left lc) (fun D hd=>fun e=>by
     have h1:=ao.o D hd;rw [e] at h1;have h2:=A2.o;unfold ZP at h2;rw [h1] at h2
     cases h2))
    go_wp2;go_meet
    case rel=>exact⟨rfl,left,L,lc,ag,Y3,A3,hid (ak.o.later ag.o),aa,hid cW,ax⟩
  case rest=>
  clear Hd b A2 Y2 T ao aF;obtain⟨rfl,O,AR,ac,T,Y2,A2,bd,cI,cJ,ao⟩:=hcut;have cU:=cJ.o;have y0:=ce Y2 0;go_wp2_with fail;refine(Th s.p 4 _).mono ?_
  rintro e W3 ⟨g1,g2,rfl,bk,bm,c6,c7,hb⟩;have G1:=hid bk;have G2:=hid bm;have ag:=bt T hb;have Y3:=bl Y2 hb;have A3:=bl A2 hb;have cO:=hid (bd.o.later hb);have ax:=hid (WI ao.o hb);have cS:=hid (U.o.later ag.o);clear y0 bk bm c6 c7 hb T Y2 A2 bd ao;go_wp2_with fail;refine JF fun a0 aC=> ?_
  have cY:=(HG.o.t s ap.o).tm.2.1;have df:w.heap.size+4<W3.heap.size:=Nat.lt_of_lt_of_le cV ag.o.size;have aT: ∀ D∈ds,D<W3.heap.size:=GW ax.o;refine wpIn_wide.1 (wpIn_rangeFunc_ownH (F:=Fence.wide) (n:=6) rfl (by omega) (gf:=238) (lb:= #[pT g1,pT g2]) (by rw [aC];rfl) trivial (enters_of func238 (by kernel_rfl) rfl)
   (UO 4 s.p s.t s.X s.x s.Y s.y s.rs s.R s.r 4 g1 g2 W W3 cY ag.o U.o.Ej cS.o.YK G1.o G2.o) belowK_t (belowK_b (Nat.le_refl _)) br (fun _=>rfl)
   (fun _ W=>Bw W3 W)
   (fun c _ W=>Ey ds w c W)
   (ownFrom_below (Nat.le_refl _) (Nat.le_refl _))
   (fun c=>Hn (by omega) aT)
   br
   (fun x a' W=> ∃ Bx,W3.heap.size<=Bx/\ZP W Bx 40 (YH.cs x.1)/\a'= { tmps:=(a0.tmps.setIfInBounds 38 (.agg (YH.cs x.1).toArray)).setIfInBounds 12 (pT Bx),defers:= []})
   (fun x a' _ X Y row hs hg C=>by obtain⟨Bx,e1,e2,e3⟩:=hs;exact⟨Bx,e1,Xe e2 hg (fun r e=>(C r e).2),e3⟩)
   ?assign ?body ?done ?stop)
  case assign=>
   rintro l pre x W4 K m hK;obtain⟨⟨r2,V2,v2⟩,hy⟩: ∃ y,x.1=y:=⟨_,rfl⟩
   simp only [K5.enc,hy,YH.cs,Ru.cs] at hK ⊢;clear hy;subst aC;simp only [pp] at hK ⊢;gi_wp2
   exact hK _ _ ((KeepsOthers.alloc _ _).from _) (br.alloc m.size _) (m.alloc m.size _) ⟨W4.heap.size,m.size,ZP.new W4 _ _,rfl⟩
  case body=>
   rintro l pre x a' W4 hl ⟨lr,cX⟩ m ⟨Bx,db,bX,rfl⟩ aI;obtain⟨⟨r2,V2,v2⟩,hy⟩: ∃ y,x.1=y:=⟨_,rfl⟩
   have HX:Hid (r2∈s.t.ZW/\r2.ZV=4/\rA W [.Z2] (YV r2.Z3) V2):=hid (by have h:=x.2;rw [hy] at h;exact h);simp only [hy,YH.cs,Ru.cs] at bX ⊢;clear hy;subst aC;simp only [pp];have BX:=hid bX;have ah:=hid m;have HW:=bt ag m;have Y4:=bl Y3 m;have A4:=bl A3 m;have cP:=hid (cO.o.later m);clear cX aI bX m;have k0:=cb K0 HW.o 0;have x0:=ce BX 0;have x1:=ce BX 1;have x2:=ce BX 2;have x3:=ce BX 3;have x4:=ce BX 4;have x5:=ce BX 5;have x6:=ce BX 6;have x7:=ce BX 7;gi_wp2_with fail
   have bb:=hid (NP base g J s r2 V2 v2 W4 (aj.o.later HW.o) HG.o ap.o HX.o.1 HX.o.2.1);refine⟨trivial,?_⟩
   refine(CallsIn.inRound l (callsIn_wide.2 bb.o)).mono ?_
   rintro e V5 ⟨sn,ZU,N,nc,bs,rfl,bo,bp,hN,hb⟩;have aQ:=hid bs;have bc:=hid bo;have ay:=hid bp;have ba:=hid hN;have u:=hid hb;have au:=bt HW hb;clear k0 x0 x1 x2 x3 x4 x5 x6 x7 bs bo bp hN hb bb;have k1:=cb K1 au.o 0;by_cases I:sn.p=s0.p
   case neg=>
    have aJ:=GR (Rt I ((aj.o.sh sn aQ.o).YK.below au.o (aj.o.sh sn aQ.o).YK.lt) (M.o.YK.below au.o M.o.YK.lt)) ⟨_,rfl⟩ ⟨_,rfl⟩;clear I;gi_wp2
    exact⟨Ws u.o (Nat.le_refl _),u.o.mono ah.o.size,ah.o.trans (u.o.mono ah.o.size)⟩
   obtain rfl:sn=s0:=MZ aj.o.nd aQ.o HM.o I;have aJ:=GR (PF sn.p V5) ⟨_,rfl⟩ ⟨_,rfl⟩;clear I;have a1:=cb A4 u.o 0;gi_wp2_with fail
   clear a1 k1 aJ;gi_loopw [50] (fun v50 wq=> ∃ k:Nat,k<=O.length/\v50=i6 k/\Hid (Bw V5 wq)) (fun i _=>O.length - (intOf i).toNat)
   case atStart=>exact⟨0,Nat.zero_le _,rfl,hid br⟩
   case round=>
    obtain⟨k,hk,rfl,an⟩:=hrel;by_cases hlk:k<O.length
    ·have dd:(k:Int)< (O.length:Int):=by omega
     have az:=bt au an.o;obtain⟨c9,rfl,_,am⟩:=(cP.o.later (u.o.trans (an.o.mono u.o.size))) (by omega);have hc:=am (k*1+0) _ (by rw [Zl X3.k O k 0 hlk (by decide)];rfl)
     rw [Nat.mul_one,Nat.add_zero] at hc;have aX:=cI.o _ (List.getElem_mem hlk);have be:=hid (((U.o.Rz _ aX).XJ).later az.o);have cR:=hid (Yd ((HG.o.r s ap.o).2 _ aX));clear am aX;generalize O[k]=row at*;have y0:=cb Y4 (u.o.trans (an.o.mono u.o.size)) 0;have x2:=cb BX (u.o.trans (an.o.mono u.o.size)) 2;gi_wp2_with fail
     have aM:=hid (HG.o.t s ap.o);have aW:=aM.o.tm.1;refine⟨trivial,?_⟩
     refine(CallsIn.inRound l (callsIn_wide.2 (TZ s r2.Z3 V2 v2 row.1 row.2.1 row.2.2 wr (U.o.YK.below az.o U.o.YK.lt) (U.o.I6.later az.o) (HX.o.2.2.later az.o) be.o (aM.o.ru r2 HX.o.1).1 aW (fun n hn=>by rw [cR.o];exact(aM.o.ru r2 HX.o.1).2 n hn)))).mono ?_
     rintro e V6 ⟨vs,Aw,cw,bw,c5,rfl,hA,hb⟩;have HA:=hid hA;have av:=bt an hb;have aq:=bt au av.o;clear hc y0 x2 c5 hA hb an az be
     cases bw
     ·gi_wp2_with fail
      refine⟨trivial,?_⟩
      gi_wp2_with fail
      refine⟨trivial,?_⟩
      gi_wp2
      go_roundw
      case rel=>exact⟨k+1,by omega,by go_num,av⟩
      case measure=>simp [intOf];omega
     have k1:=cb K1 aq.o 0;have k3:=cb K3 aq.o 0;gi_wp2_with fail
     refine⟨trivial,?_⟩
     refine(CallsIn.inRound l (callsIn_wide.2 (Tu sn ZU N nc vs Aw cw gone G gc V6 (M.o.YK.below aq.o M.o.YK.lt) (M.o.I6.later aq.o) (ba.o.later av.o) HA.o bc.o aE (aA.o.later aq.o) (fun r C=>((M.o.Rz r (ab.o r C)).XJ).later aq.o) (by omega) (fun r C n hn=>by rw [Yd ((HG.o.r sn HM.o).2 r (ab.o r C))];exact ay.o n hn)))).mono ?_
     rintro e V7 ⟨b7,rfl,hb⟩;have a6:=hid (HA.o.later hb);have aw:=bt av hb;have ar:=bt au aw.o;clear k1 k3 hb av aq HA
     cases b7
     ·gi_wp2_with fail
      refine⟨trivial,?_⟩
      gi_wp2
      go_roundw
      case rel=>exact⟨k+1,by omega,by go_num,aw⟩
      case measure=>simp [intOf];omega
     have k1:=cb K1 ar.o 0;have k2:=cb K2 ar.o 0;gi_wp2_with fail
     refine⟨trivial,?_⟩
     refine(CallsIn.inRound l (callsIn_wide.2 (Tu sn ZU N nc vs Aw cw left L lc V7 (M.o.YK.below ar.o M.o.YK.lt) (M.o.I6.later ar.o) (ba.o.later aw.o) a6.o bc.o aE (ak.o.later ar.o) (fun r C=>((M.o.Rz r (aa.o r C)).XJ).later ar.o) (by omega) (fun r C n hn=>by rw [Yd ((HG.o.r sn HM.o).2 r (aa.o r C))];exact ay.o n hn)))).mono ?_
     rintro e V8 ⟨b8,rfl,hb⟩;have aK:=bt aw hb;have bh:=bt au aK.o;clear k1 k2 hb aw ar a6
     cases b8
     ·have Z:=K4.o.below bh.o K4.o.lt;have q4:V8.cell? (aD (w.heap.size+4) 0)=some (.bool false):=Z.cell0;have f4:V8.frozen? (aD (w.heap.size+4) 0)=false:=Z.frozen 0;have HE:=hid (Z.Zx 0 (.bool true));have bu:=HB.o.trans (bh.o.mono HB.o.size);have aL:=hid (bu.setCell (p:=(aD (w.heap.size+4) 0)) (by show _<=w.heap.size+4;omega) (.bool true))
      have aR:Bw W4 V8:=u.o.trans (aK.o.mono u.o.size);have cK:=hid ((Ws (B:=W3.heap.size) aR (Nat.le_refl _)).trans ((KeepsOthers.setCell V8 (aD (w.heap.size+4) 0) (.bool true)).from _));have aO:=hid (Rn (WI (WI ax.o ah.o) aR) (w.heap.size+4) 0 (.bool true) (fun D hd e=>by have:=ai.o.2 D hd;omega))
      clear Z bu aR;gi_wp2
      exact⟨cK.o,rfl,HE.o,aL.o,aO.o⟩
     ·gi_wp2
      go_roundw
      case rel=>exact⟨k+1,by omega,by go_num,aK⟩
      case measure=>simp [intOf];omega
    ·obtain rfl:k=O.length:=by omega
     have aS:Bw W4 wr:=u.o.trans (an.o.mono u.o.size);have cL:=hid (Ws (B:=W3.heap.size) aS (Nat.le_refl _));have a7:=hid (aS.mono ah.o.size);clear aS;gi_wp2
     exact⟨cL.o,a7.o,ah.o.trans a7.o⟩
  case done=>
   rintro D ys W4 hD _ m hK;subst aC;have ah:=bt ag m;have cM:Hid (Ww (D ::ds) W4):=hid fun E d=>by
    rcases List.mem_cons.1 d with rfl | d
    ·exact hK
    ·exact WI ax.o m E d
   have cN:Hid ((D ::ds).Nodup/\ ∀ E∈D ::ds,W.heap.size<=E):=hid ⟨List.nodup_cons.2 ⟨fun hm=>by have:=aT D hm;omega,ai.o.1⟩,fun E d=>by
    rcases List.mem_cons.1 d with rfl | d
    ·have:=ag.o.size;omega
    ·exact ai.o.2 E d⟩
   clear m hK;dsimp only;go_wp2;refine⟨⟨D ::ds,j+1,_,_,_,_,_,_,_,_,_,_,_,_,_,_,_,_,_,_,_,_,_,_,_,_,_,_,_,_,_,_,_,_,_,_,_,_,_,_,_,_,_,_,_,_,_,_,_,_,_,_,_,_,_,_,_,_,_,_,⟨by omega,?_,ah,cM,cN⟩,rfl⟩,?_⟩
   ·go_num
   ·simp [intOf];omega
  case stop=>
   rintro D c pre W4 hD _ ⟨rfl,Z,hb,hm⟩ hK;subst aC;gi_wp2
   refine Wq (w.heap.size+4) _ _ (D ::ds) _ (List.nodup_cons.2 ⟨fun hm=>by have:=aT D hm;omega,ai.o.1⟩) (fun E d=>by
    rcases List.mem_cons.1 d with rfl | d
    ·omega
    ·have:=ai.o.2 E d;omega) (fun E d=>by
    rcases List.mem_cons.1 d with rfl | d
    ·exact hK
    ·exact hm E d) Z hb (fun w' aV aY=> ?_)
   have c4:=aV.cell0;refine⟨.bool true,?_,true,rfl,aY⟩
   simp [results,Tryz.f116,go_sem,c4]
 ·obtain rfl:j=J.length:=by omega
  have Z:=K4.o.below aG.o K4.o.lt;have q4:wr.cell? (aD (w.heap.size+4) 0)=some (.bool false):=Z.cell0;have f4:wr.frozen? (aD (w.heap.size+4) 0)=false:=Z.frozen 0;have HE:=hid (Z.Zx 0 (.bool false));have aL:=hid ((HB.o.trans (aG.o.mono HB.o.size)).setCell (p:=(aD (w.heap.size+4) 0)) (by show _<=w.heap.size+4;omega) (.bool false))
  have aO:=hid (Rn aP.o (w.heap.size+4) 0 (.bool false) (fun D hd e=>by have:=ai.o.2 D hd;omega));clear Z;go_wp2;refine Wq (w.heap.size+4) _ _ ds _ ai.o.1 (fun E d=>by have:=ai.o.2 E d;omega) aO.o HE.o aL.o (fun w' aV aY=> ?_)
  have c4:=aV.cell0;refine⟨.bool false,?_,false,rfl,aY⟩
  simp [results,Tryz.f116,go_sem,c4]
end Go.Proofs.YtnhmoibjlakhjaaGreat
namespace Go.Proofs.YtnhmoibjlakhjaaGreat
open Go.Proofs.Tryz
open Lib (hid)
set_option maxRecDepth 100000
set_option maxHeartbeats 16000000
open Go.RowKit
open Lib (hid)
def DQ (base g:Nat)(ss:List Sf)(i:Nat)(s:Sf)(w:World)(e:Ending)(w':World):Prop:= ∃ (er:Int) (B:oA) (k c:Nat) (ss':List Sf),e= .returned (.tuple #[.slice B k c,i6 er])/\Wv base g ss w ss' w'/\
 (er=0-> ∃ rs R r,ss'=ss.set i (s.put rs R r)/\rs.length+k=s.rs.length)
theorem J5 (base g:Nat)(j:List Sf)(i:Nat)(s:Sf)(q:Wo)(A:oA)(n:Nat)(w:World)(h:WO w base g j)(hg:WQ j)(C:j[i]?=some s):
  cQ 55 #[pT g,pT s.p,.agg #[i6 q.ZV,sT q.ZQ,sT q.Z9,sT q.ZZ,.slice A q.row.length n,sT q.WB,i6 q.val.ZV,i6 q.val.num,sT q.val.word]] w (DQ base g j i s w):=by
 have F:=hid (List.mem_of_getElem? C);have ag:base<=w.heap.size:=by
  obtain⟨L,c,hB,_⟩:=h.st;exact Nat.le_trans h.gb (Nat.le_of_lt hB.lt)
 have af:=hid h;have u:=hid hg;have ai:=hid C;clear h hg C;go_enter func55,ntmps55
 go_upto_region 1 with fail
 refine Wh _ fun W V=> ?_
 have G:=bP V;have B0:Hid (ZP W w.heap.size 66 [i6 q.ZV,sT q.ZQ,sT q.Z9,sT q.ZZ,.slice A q.row.length n,sT q.WB,i6 q.val.ZV,i6 q.val.num,sT q.val.word]):=nC V;clear V;have c5:=ce B0 5;have c6:=ce B0 6;have c7:=ce B0 7;have c8:=ce B0 8;have J:=hid (af.o.later G.o);have d:=hid (J.o.sh s F.o);have am:=(u.o.r s F.o).1;have ac:=hid (u.o.r s F.o).2;have ak:=(u.o.t s F.o).tm.1;have aa:base<=W.heap.size:=Nat.le_trans ag G.o.size;go_wp2_with fail;refine(NM s.p s.t s.X s.x s.Y s.y s.rs s.R s.r q.WB q.val W d.o.YK d.o.I6 (YS d.o.own rfl) (fun r Z=>(d.o.Rz r Z).XJ) (by omega) ak (fun r Z=>Yd (ac.o r Z))).mono ?_
 rintro e W2 ⟨ins,outs,I,ic,O,D,rfl,hI,U,-,hs,C,ho,-,hb⟩;have K:Hid (Bw W W2):=hid hb;have ad:=hid (YS hI rfl);have ae:=hid (YS U rfl);have HO:=hid U;have aj:=hid C;have M:=hid ho;clear c5 c6 c7 c8 hI U C ho hb B0;go_wp2_with fail;refine(Hm base g j s outs O D ins I ic W2 (J.o.later K.o) u.o F.o ae.o ad.o M.o aj.o (by omega) (by omega)).mono ?_
 rintro e T ⟨b,rfl,hb⟩;have m:=bt K hb;have N:=hid (HO.o.ZC hb);clear hb ad ae HO K
 cases b
 case true=>
  have ah:=bt G m.o;go_wp2;go_ret2;exact⟨113,none,0,0,j,rfl,Wv.same af.o u.o ah.o,fun h=>absurd h (by decide)⟩
 have E:=hid (d.o.YK.below m.o d.o.YK.lt);have x5:=ce E 5;have f5:=E.o.frozen 5;have ab:Hid (Wv base g j w (j.set i (s.put outs O D)) (T.setCell (aD s.p 5) (.slice O outs.length D))):=hid (by
  have hK:ZS [112] T (T.setCell (aD s.p 5) (.slice O outs.length D)):=ZS.Zx E.o.Xr (by simp) _;refine Wv.ahead G.o ag (Wv.put J.o u.o ai.o outs O D ((UZ.ZA m.o).trans (UZ.set 5 _)) ?_ ((N.o.keeps hK (by decide)).Yp aa) (fun x hx=>ZI ((d.o.later m.o).Rz x (M.o x hx)) hK (by decide)) (fun k hk=> .inr (ZD N.o k hk)) (by omega) (fun x hx=>ac.o x (M.o x hx)) ((m.o.mono aa).setCell (p:=(aD s.p 5)) d.o.pb _))
  rw [Sf.pc];exact E.o.Zx 5 _)
 clear E N m;go_wp2;go_ret2;exact⟨0,I,ins.length,ic,_,rfl,ab.o,fun _=>⟨outs,O,D,rfl,by omega⟩⟩
def DZ (base g:Nat)(ss:List Sf)(q:Wo)(w:World)(e:Ending)(w':World):Prop:= ∃ (er:Int) (B:oA) (k c:Nat) (ss':List Sf),e= .returned (.tuple #[.slice B k c,i6 er])/\Wv base g ss w ss' w'/\
 (er=0-> ∃ s s',ss.find? (Ur q.Z9 q.ZZ)=some s/\ss'.find? (Ur q.Z9 q.ZZ)=some s'/\s'.t=s.t/\((q.ZV=1/\k=1/\VU s.t q.row=0/\s'.rs.map (·.1)=s.rs.map (·.1) ++ [q.row])∨(q.ZV=2/\s'.rs.length+k=s.rs.length)∨(q.ZV≠1/\q.ZV≠2/\s'=s/\k<=s.rs.length)))/\
 (∀ s,Vg q=true->q.ZV=1->ss.find? (Ur q.Z9 q.ZZ)=some s->VU s.t q.row=0->s.rs.length<64->s.t.ZW= []->er=0)/\
 (Vg q=true->q.ZV=3->q.row.length=0->ss'=ss/\(ss.find? (Ur q.Z9 q.ZZ)=none->k=0)/\ ∀ s,ss.find? (Ur q.Z9 q.ZZ)=some s-> ∃ rs':List X3,k=rs'.length/\rs'.map (·.1)=s.rs.map (·.1)/\Zj w' w'.heap.size B X3.cs rs'/\ ∀ r∈rs',ZT w' (· < w'.heap.size) Zh (r.1.map Vl.da) r.2.1)
theorem Ig {q:Wo}(h:Vg q=true):q.WB= []:=by
 unfold Vg at h;simpa using (Bool.and_eq_true_iff.1 h).1
def De (q:Wo)(b:Bool):Prop:=Vg q=true->b=false
theorem MO (base g:Nat)(m:List Sf)(q:Wo)(A:oA)(n:Nat)(w:World)(h:WO w base g m)(hg:WQ m)(hA:ZT w (Sx w base) Zh (q.row.map Vl.da) A):
  cQ 18 #[pT g,.agg #[i6 q.ZV,sT q.ZQ,sT q.Z9,sT q.ZZ,.slice A q.row.length n,sT q.WB,i6 q.val.ZV,i6 q.val.num,sT q.val.word]] w (DZ base g m q w):=by
 have ag:base<=w.heap.size:=by
  obtain⟨L,c,hB,_⟩:=h.st;exact Nat.le_trans h.gb (Nat.le_of_lt hB.lt)
 have N:=hid h;have u:=hid hg;have HA:=hid hA;have ac:=iN 66 9;clear h hg hA;go_enter func18,ntmps18
 go_upto_region 3 with fail
 refine Wh _ fun W hW=> ?_
 have HB:=bP hW;have B0:Hid (ZP W w.heap.size 66 [i6 q.ZV,sT q.ZQ,sT q.Z9,sT q.ZZ,.slice A q.row.length n,sT q.WB,i6 q.val.ZV,i6 q.val.num,sT q.val.word]):=nC hW;clear hW;go_wp2_with (first | (refine lO B0 ac underlying66 ?_) | fail);refine(Gy q A n W).mono ?_
 rintro e W2 ⟨b,rfl,hb,ab⟩;have K:=bt HB hb;have I:=bl B0 hb;have ae:=hid ab;clear hb ab HB B0
 cases b
 case false=>
  go_wp2;go_ret2;exact⟨1,none,0,0,m,rfl,Wv.same N.o u.o K.o,fun h=>absurd h (by decide),fun s hb j=>(by cases ae.o hb (.inl j)),fun hb j U=>(by cases ae.o hb (.inr ⟨j,U⟩))⟩
 clear ae;have c2:=ce I 2;have c3:=ce I 3;have Z:=hid (N.o.later K.o);go_wp2_with fail;refine(Rf base g m q.Z9 q.ZZ W2 Z.o (by have:=u.o.n;omega)).mono ?_
 rintro e W ⟨rfl,rfl⟩;clear c2 c3
 cases hf:m.find? (Ur q.Z9 q.ZZ) with
 | none=>
  have C:=hid hf;clear hf;dsimp only [Option.map];go_wp2;go_ret2;exact⟨110,none,0,0,m,rfl,Wv.same N.o u.o K.o,fun h=>absurd h (by decide),fun s _ _ h=>(by rw [C.o] at h;cases h),fun _ _ _=>⟨rfl,fun _=>rfl,fun s h=>(by rw [C.o] at h;cases h)⟩⟩
 | some s=>
 have C:=hid hf;obtain⟨i,hi,he,hu⟩:=Mc hf;have ad:Hid (m[i]?=some s):=hid (List.getElem?_eq_some_iff.2 ⟨hi,he⟩);have HU:=hid hu;have J:=hid (List.mem_of_getElem? ad.o);have F:=hid (Z.o.sh s J.o);have ai:=(u.o.t s J.o).tm.1;clear hf hi he hu;dsimp only [Option.map];go_upto_region 6 with fail
 go_cut [36] from 8 to 60 (fun av V=> ∃ b,av= .bool b/\Hid (De q b)/\Hid (Bw W V))
 case first=>
  have c5:=ce I 5;by_cases hc:q.WB= []
  ·have ap:q.WB.isEmpty=true:=by simp [hc]
   have aq:(q.WB != [])=false:=by simp [hc]
   have ar:(q.WB == [])=true:=by simp [hc]
   clear hc;go_wp2;go_meet
   case rel=>exact⟨false,rfl,hid (fun _=>rfl),hid br⟩
  ·have HN:Hid (Vg q=true->False):=hid fun h=>hc (Ig h)
   have ap:q.WB.isEmpty=false:=by simpa using hc
   have aq:(q.WB != [])=true:=by simpa using hc
   have ar:(q.WB == [])=false:=by simpa using hc
   have x3:=cd F.o.YK 3;clear hc;go_wp2_with fail;have h:=Kv (fun d=>tx d 0 == q.WB) 53 #[pT w.heap.size] (s.t.Z3.map Cl.da) s.X s.x W (enters_of func53 (by kernel_rfl) rfl) F.o.I6 (by simpa using ai) (by
    intro V d vs hb _ hv;obtain⟨c,rfl,rfl⟩:=Cl.YG hv;exact F3 c q A n w.heap.size V (I.o.below hb I.o.lt))
   rw [List.length_map] at h;refine h.mono ?_
   rintro e W4 ⟨rfl,hb⟩;have G:Hid (Bw W W4):=hid hb;clear h hb c5 x3;generalize (s.t.Z3.map Cl.da).any (fun d=>tx d 0 == q.WB)=bb
   cases bb
   ·go_wp2;go_meet
    case rel=>exact⟨true,rfl,hid (fun h=>(HN.o h).elim),G⟩
   ·go_wp2;go_meet
    case rel=>exact⟨false,rfl,hid (fun h=>rfl),G⟩
 case rest=>
 obtain⟨b,rfl,af,G⟩:=hcut;have M:=bt K G.o
 cases b
 case true=>
  go_wp2;go_ret2;exact⟨110,none,0,0,m,rfl,Wv.same N.o u.o M.o,fun h=>absurd h (by decide),fun s hb=>(by cases af.o hb),fun hb=>(by cases af.o hb)⟩
 clear af;have B5:=bl I G.o;have aa:=hid (Z.o.later G.o);have ak:=hid (Pt HA.o M.o ag);clear G I F Z K;have c0:=ce B5 0;by_cases k1:q.ZV=1
 ·have D:=hid k1;rw [k1] at c0;clear k1;go_wp2_with (first | (refine lO B5 ac underlying66 ?_) | fail);refine(Km base g m i s q A n _ aa.o u.o ad.o ak.o).mono ?_
  rintro e W6 ⟨er,B,k,c,ah,rfl,T,O,h2⟩;have HS:=hid (Wv.ahead M.o ag T);have H1:=hid O;have H2:=hid h2;clear T O h2 c0;go_wp2;go_ret2;exact⟨er,B,k,c,ah,rfl,HS.o,fun h0=>(by
   obtain⟨e1,e2,rs,R,r,rfl,e3⟩:=H1.o h0;exact⟨s,s.put rs R r,C.o,HU.o _ rfl,rfl,.inl ⟨D.o,e1,e2,e3⟩⟩),fun s' _ _ E a b c=>(by
   rw [C.o] at E;injection E with E
   subst E;exact H2.o a b c),fun _ j=>(by rw [D.o] at j;exact absurd j (by decide))⟩
 have j1:(q.ZV == 1)=false:=by simpa using k1
 by_cases k2:q.ZV=2
 ·have D:=hid k2;rw [k2] at c0;clear k1 k2 j1;go_wp2_with (first | (refine lO B5 ac underlying66 ?_) | fail);refine(J5 base g m i s q A n _ aa.o u.o ad.o).mono ?_
  rintro e W6 ⟨er,B,k,c,ah,rfl,T,O⟩;have HS:=hid (Wv.ahead M.o ag T);have H1:=hid O;clear T O c0;go_wp2;go_ret2;exact⟨er,B,k,c,ah,rfl,HS.o,fun h0=>(by
   obtain⟨rs,R,r,rfl,e3⟩:=H1.o h0;exact⟨s,s.put rs R r,C.o,HU.o _ rfl,rfl,.inr (.inl ⟨D.o,e3⟩)⟩),fun _ _ j=>(by rw [D.o] at j;exact absurd j (by decide)),fun _ j=>(by rw [D.o] at j;exact absurd j (by decide))⟩
 have j2:(q.ZV == 2)=false:=by simpa using k2
 have D:=hid (And.intro k1 k2);have F:=hid (aa.o.sh s J.o);have au:=(u.o.r s J.o).1;have an:=hid (u.o.r s J.o).2;clear k1 k2;go_wp2_with (first | (refine lO B5 ac underlying66 ?_) | fail);refine(KQ s.p s.t s.X s.x s.Y s.y s.rs s.R s.r (some (aD g 0)) q A n _ F.o.YK F.o.I6 (YS F.o.own rfl) (fun r U=>(F.o.Rz r U).XJ) (by omega) ai (fun r U=>Yd (an.o r U))).mono ?_
 rintro e W6 ⟨aj,B,c,rfl,hl,hm,hR,hV,hb⟩;have am:=bt M hb;have HL:=hid hl;have ao:=hid hm;have HR:=hid hR;have HV:=hid hV;clear hl hm hR hV hb c0 au;go_wp2;go_ret2;exact⟨0,B,aj.length,c,m,rfl,Wv.same N.o u.o am.o,fun _=>⟨s,s,C.o,C.o,rfl,.inr (.inr ⟨D.o.1,D.o.2,rfl,HL.o⟩)⟩,fun _ _ j=>absurd j D.o.1,fun hb _ _=>⟨rfl,fun h=>(by rw [C.o] at h;cases h),fun s' E=>(by
  rw [C.o] at E;injection E with E
  subst E;exact⟨aj,rfl,ao.o hb (u.o.t s J.o).nm,HR.o,HV.o⟩)⟩⟩
end Go.Proofs.YtnhmoibjlakhjaaGreat
