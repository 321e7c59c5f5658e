/- Lemmas, each under its own conditions. -/
import Derived.Test.YtnhmoibjlakhjaaGreatW23
set_option linter.all false
namespace Go.Proofs.YtnhmoibjlakhjaaGreat
open Go.Proofs.Tryz
open Lib (hid)
set_option maxRecDepth 100000
set_option maxHeartbeats 16000000
open Go.RowKit
theorem Ny {P:Program}{w:World}{ops:Array Oper}{o:Oper}{a:Act}{K:Act->World->Prop}{Q:Exit->Act->World->Prop}{Z:Prop}(T:o.guard=none)(s x:Operand)(t:TypeId)
  (ho:o.op= .call { callee:= .builtin .append,args:= #[s,x],argTypes:= #[t,t]})
  (base:Nat) (e:TypeId) (i:TypeInfo) (z:Value) (size bytes:Nat) (ht:P.underlying t=some (.slice e)) (hi:P.info? e=some i) (hz:i.zero=some z)
  (J:i.size=size) (O:i.bytes=bytes) (V:z.cells.size=size) (U:0<size)
  (v:Value) (n:Nat) (xs:lV) (hs:a.eval s=v) (L:w.ownsRow base e size v n xs)
  (D:Addr) (m c:Nat) (news:lV) (hx:a.eval x= .slice (some D) m c) (hl:news.length=m*size) (I: ∀ j u,news[j]?=some u->w.cell? (D.add j)=some u) (h1: ∀ u∈news,u.oneCell'=true)
  (N:n+m<=maxLen) (F:(n+m)*bytes<=140737488355328) (G:base<=w.heap.size)
  (h: ∀ d C w',Hid (w'.ownsRow base e size (.slice d (n+m) C) (n+m) (xs ++news))->Hid (w.grownBy w' v.ownBlock)->Hid ((Value.slice d (n+m) C).ownBlock=v.ownBlock∨(Value.slice d (n+m) C).ownBlock=some w.heap.size)->K (a.put o.dst (.slice d (n+m) C)) w'):if Region.wanted o (yielded ops a.tmps)=true then Oper.wp P o a w K Q else Z:=by
 have hw:Region.wanted o (yielded ops a.tmps)=true:=by simp [Region.wanted,T]
 rw [if_pos hw];obtain⟨v',w',M,E,h3,_,h4⟩:=run_append_own_at (P:=P) w base t o.type e i z size bytes ht hi hz J O V U v n xs L D m c news hl I h1 N F G;unfold Oper.wp execOp;simp only [ho,resolve,invoke,builtin,Sem.run_bind,Sem.run_pure,Result.andThen_ok,List.map_toArray,List.map_cons,List.map_nil,hs,hx,M];obtain⟨d,C,rfl⟩:=WH E;exact h d C w' E h3 h4
theorem Yj.Eu {w C D:World}{gt s j:Nat}{us:List TypeId}{x:Option Nat}{v:Value}{e:TypeId}(h:Yj w C gt s j us x)(u:Vm C D v)(J:e∈us)(I: ∀ k,v.ownBlock=some k->k<w.heap.size->Za w k e/\s<=k/\k<j):Yj w D gt s j us x:=
 ⟨Nat.le_trans h.size u.size,fun k t d K m L=>(u.block k (Nat.lt_of_lt_of_le d.lt h.size) (fun E=>by
  obtain⟨F,G⟩:=I k E d.lt;rw [d.same F] at m;exact m J G)).trans (h.block k t d K m L)⟩
theorem Y6.GB {B c i:Nat}{w d:World}(h:Below B w d)(u:Value):Y6 B (some c) w (d.setCell (aD c i) u):=⟨h.os,h.tape,h.output,by simpa [World.setCell] using h.size,fun k j m=>(Below.heap_setCell d (aD c i) u k (fun e=>m (by rw [e]))).trans (h.block k j)⟩
theorem Px {ts:List YX}{i:Nat}{a b:YX}(d:i<ts.length)(h:YX.cs a=YX.cs b):(ts.set i a).flatMap YX.cs=(ts.set i b).flatMap YX.cs:=by
 rw [List.set_eq_take_append_cons_drop,List.set_eq_take_append_cons_drop,if_pos d,if_pos d,List.flatMap_append,List.flatMap_cons,List.flatMap_append,List.flatMap_cons,h]
def WP (o:Ob)(r:Ru)(i:Nat)(er:Int)(o':Ob):Prop:=(er≠0/\o'=o)∨(er=0/\ ∃ hi:i<o.Z8.length,YA o.Z8[i].Z3 r=true/\SD o.Z8[i].ZW r.name=none/\o.Z8[i].ZW.length<8/\(r.ZV=4->UB o o.Z8[i].Z3 r=0)/\
 ∃ rs':List Ru,rs'.Perm (o.Z8[i].ZW ++ [r])/\(∀ (a b:Nat) (ha:a<rs'.length) (hb:b<rs'.length),a<b->0<=WM rs'[b] rs'[a])/\o'=Tp o i { o.Z8[i] with ZW:=rs'})
theorem Nr (o:Ob)(s n:lU)(r:Ru)(O:oA)(rn c2:Nat)(w0:World)(ho:o.Zo 1099511627776)(hr:r.Zo 1099511627776)(aZ:Qo r)(h:ZP w0 c2 40 [(sT r.name),(i6 r.ZV),(.slice O r.Z3.length rn),(i6 r.low),(i6 r.ZB),(sT r.Z9),(sT r.ZZ),(sT r.key)])(b8:rA w0 [.Z2] (YV r.Z3) O):Qm (some c2) 209 #[pT c2] o w0 s n (WP o r):=by
 intro w base p gt i B0 l0 l1 ts b b9 bg ai bq hp ci cw cD hi;have cM:ts.length=o.Z8.length:=by rw [<-ai.data,List.length_map]
 have hi':i<ts.length:=by omega
 have bs:ts[i].1=o.Z8[i]:=by
  have:=ai.data;rw [<-List.getElem_map (f:=fun x:YX=>x.1) (h:=by simpa using hi')];simp only [this]
 have aX:=(ai.tab i hi').2;have bM:base<=w.heap.size:=by
  have:=ai.low;have:=bq 0 (Nat.zero_le _);omega
 have ch:Za w gt 73:=Yx ai.Z8 rfl;have cc:=(ZJ ai.Z8).1;have cg:=(ZJ ai.Z8).2.1;have cf:=(ZJ ai.Z8).2.2.2.1;have aj:base<=b i:=Nat.le_trans ai.low (ai.S5 i 0 (Nat.zero_le _) (by omega));have cy:b (i+1)<=w.heap.size:=bq (i+1) (by omega);have bN:=fun f hf u hu=>WD ai.Z8 hi' f hf u hu
 have bd:=fun(W:World) (h:W.ownsRow base 73 5 (sl (some (aD gt 0)) o.Z8 l1) o.Z8.length (ts.flatMap YX.cs)) f hf u t' ht=>Tr h hi' (f:=f) hf u t' ht
 have bn:=hid (ho.2.2 o.Z8[i] (List.getElem_mem hi));generalize hT:ts[i]=T at*;obtain⟨t,X,x,Y,y⟩:=T;dsimp only at bs;rw [<-bs] at bn;have aQ:=hid ai;have ad:=hid aX;have HP:=hid hp;have an:=hid ch;have bk:=hid cf;have cJ:=hid bg;have aT:=hid bd;have HT:=hid hT;have b5:=hid bs;have bj:=hid bq;have cN:=bg.size;have cL:=hp.lt;have HC:=hid (h.below bg h.lt);have bo:=hid (b8.later bg);have cK:=h.lt;have bm:Hid (∀ er W,er≠0->Bw w W->VY (some c2) w base p gt B0 l0 l1 o (WP o r i) (.returned (i6 er)) W):=hid fun er W E h2=>Sm aQ.o bM HP.o h2 (Or.inl ⟨E,rfl⟩)
 have cx:=bN 3 (by omega) (sl X t.Z3 x) rfl;have a7:=bN 4 (by omega) (sl Y t.ZW y) rfl;have b4:Hid (∀ o' V,YA o.Z8[i].Z3 r=true->SD o.Z8[i].ZW r.name=none->o.Z8[i].ZW.length<8->(r.ZV=4->UB o o.Z8[i].Z3 r=0)->V.Perm (o.Z8[i].ZW ++ [r])->(∀ (a b:Nat) (ha:a<V.length) (hb:b<V.length),a<b->0<=WM V[b] V[a])->o'=Tp o i { o.Z8[i] with ZW:=V} ->WP o r i 0 o'):=hid fun o' V E h2 h3 h4 h5 C h7=>Or.inr ⟨rfl,hi,E,h2,h3,h4,V,h5,C,h7⟩
 have cr:=hid ho;have bp:=hid hr;have aS:=hid aZ;clear ai aX hp ch cf bg bd hT bq cw cD bs h bN ho hr b8 aZ;go_enter func209,ntmps209
 go_upto_region 1 with fail
 refine Wh _ fun W D=> ?_
 have bh:=bP D;have ca:ZP W w.heap.size 26 [sl B0 o.Z7 l0,sl (some (aD gt 0)) o.Z8 l1]:=by rw [D];exact ZP.new w _ _
 clear D;have aJ:=HC.o.below bh.o (by omega);have d3:W.cell? (aD gt (i*5+3))=some (sl X t.Z3 x):=ct cx bh.o cg;have d4:W.cell? (aD gt (i*5+4))=some (sl Y t.ZW y):=ct a7 bh.o cg;have ar:W.cell? (aD c2 0)=some (sT r.name):=aJ.cell 0;have au:W.cell? (aD c2 1)=some (i6 r.ZV):=aJ.cell 1;have ah:W.cell? (aD c2 2)=some (sl O r.Z3 rn):=aJ.cell 2;have av:W.cell? (aD c2 3)=some (i6 r.low):=aJ.cell 3;have aw:W.cell? (aD c2 4)=some (i6 r.ZB):=aJ.cell 4;have ax:W.cell? (aD c2 5)=some (sT r.Z9):=aJ.cell 5;have ay:W.cell? (aD c2 6)=some (sT r.ZZ):=aJ.cell 6;have az:W.cell? (aD c2 7)=some (sT r.key):=aJ.cell 7;have b0:=ca.cell 0;have b1:=ca.cell 1;dsimp only [List.getElem?_cons_zero,List.getElem?_cons_succ] at b0 b1;have aC:Bw w W.drew:=bh.o.drew;have aE:Hid (∀ j w2,(fun w'=>Bw w w'/\w'.cell? (aD gt (i*5+3))=some (sl X t.Z3 x)/\w'.cell? (aD gt (i*5+4))=some (sl Y t.ZW y)/\w'.cell? (aN w 0)=some (sl B0 o.Z7 l0)/\w'.cell? (aN w 1)=some (sl (some (aD gt 0)) o.Z8 l1)/\w'.cell? (aD c2 0)=some (sT r.name)/\w'.cell? (aD c2 1)=some (i6 r.ZV)/\w'.cell? (aD c2 2)=some (sl O r.Z3 rn)/\w'.cell? (aD c2 3)=some (i6 r.low)/\w'.cell? (aD c2 4)=some (i6 r.ZB)/\w'.cell? (aD c2 5)=some (sT r.Z9)/\w'.cell? (aD c2 6)=some (sT r.ZZ)/\w'.cell? (aD c2 7)=some (sT r.key)) j->Bw j w2->(fun w'=>Bw w w'/\w'.cell? (aD gt (i*5+3))=some (sl X t.Z3 x)/\w'.cell? (aD gt (i*5+4))=some (sl Y t.ZW y)/\w'.cell? (aN w 0)=some (sl B0 o.Z7 l0)/\w'.cell? (aN w 1)=some (sl (some (aD gt 0)) o.Z8 l1)/\w'.cell? (aD c2 0)=some (sT r.name)/\w'.cell? (aD c2 1)=some (i6 r.ZV)/\w'.cell? (aD c2 2)=some (sl O r.Z3 rn)/\w'.cell? (aD c2 3)=some (i6 r.low)/\w'.cell? (aD c2 4)=some (i6 r.ZB)/\w'.cell? (aD c2 5)=some (sT r.Z9)/\w'.cell? (aD c2 6)=some (sT r.ZZ)/\w'.cell? (aD c2 7)=some (sT r.key)) w2):=hid (by
  intro j w2 ⟨E,g0,g1,g2,g3,g4,g5,g6,g7,g8,g9,g10,g11⟩ C;exact⟨E.trans (C.mono E.size),(C.cell (World.block_lt_of_cell? j _ g0)).trans g0,(C.cell (World.block_lt_of_cell? j _ g1)).trans g1,(C.cell (World.block_lt_of_cell? j _ g2)).trans g2,(C.cell (World.block_lt_of_cell? j _ g3)).trans g3,(C.cell (World.block_lt_of_cell? j _ g4)).trans g4,(C.cell (World.block_lt_of_cell? j _ g5)).trans g5,(C.cell (World.block_lt_of_cell? j _ g6)).trans g6,(C.cell (World.block_lt_of_cell? j _ g7)).trans g7,(C.cell (World.block_lt_of_cell? j _ g8)).trans g8,(C.cell (World.block_lt_of_cell? j _ g9)).trans g9,(C.cell (World.block_lt_of_cell? j _ g10)).trans g10,(C.cell (World.block_lt_of_cell? j _ g11)).trans g11⟩)
 have cn:Hid (∀ W,Bw w W->cQ 161 #[sl X t.Z3 x,.agg #[(sT r.name),(i6 r.ZV),(sl O r.Z3 rn),(i6 r.low),(i6 r.ZB),(sT r.Z9),(sT r.ZZ),(sT r.key)]] W fun e w'=>e= .returned (.bool (YA t.Z3 r))/\Bw W w'):=hid fun W D=>
  LY t.Z3 r X x O rn W (ad.o.rows.1.later D) (bo.o.later D) bn.o.1 bp.o
 have ck:Hid (∀ W,Bw w W->cQ 210 #[sl Y t.ZW y,sT r.name,.func (.func 211) #[] #[]] W fun e w'=>e= .returned (.int .i64 (WS (SD t.ZW r.name)))/\Bw W w'):=hid (by
  intro W D;have cB:=TQ (t.ZW.map Ru.da) Y y r.name W (ad.o.rows.2.later D) (by simpa using bn.o.2.1);rwa [List.length_map,Rh] at cB)
 have cp:Hid (∀ W,Bw w W->cQ 162 #[.agg #[sl B0 o.Z7 l0,sl (some (aD gt 0)) o.Z8 l1],sl X t.Z3 x,.agg #[(sT r.name),(i6 r.ZV),(sl O r.Z3 rn),(i6 r.low),(i6 r.ZB),(sT r.Z9),(sT r.ZZ),(sT r.key)]] W fun e w'=>e= .returned (i6 (UB o t.Z3 r))/\Bw W w'):=hid fun W D=>
  Js o B0 l0 (some (aD gt 0)) l1 t.Z3 X x r O rn W (aQ.o.r.tb.later D) (ad.o.rows.1.later D) (bo.o.later D) cr.o bn.o.1 bp.o
 have cH:Hid (r.ZV=4∨r.ZV≠4):=hid (by omega);have b3:Hid (YA t.Z3 r=true->SD t.ZW r.name=none->t.ZW.length<8->(r.ZV=4->UB o t.Z3 r=0)-> ∀ V,V.Perm (t.ZW ++ [r])->(∀ (a b:Nat) (ha:a<V.length) (hb:b<V.length),a<b->0<=WM V[b] V[a])->WP o r i 0 (Tp o i { t with ZW:=V})):=hid fun E h2 h3 h4 V h5 C=>by
  rw [b5.o] at E h2 h3 h4 h5;exact b4.o _ V E h2 h3 h4 h5 C (by rw [b5.o])
 clear b4;generalize YA t.Z3 r=fi at*;generalize UB o t.Z3 r=ke at*;go_region_held_law (fun w'=>Bw w w'/\w'.cell? (aD gt (i*5+3))=some (sl X t.Z3 x)/\w'.cell? (aD gt (i*5+4))=some (sl Y t.ZW y)/\w'.cell? (aN w 0)=some (sl B0 o.Z7 l0)/\w'.cell? (aN w 1)=some (sl (some (aD gt 0)) o.Z8 l1)/\w'.cell? (aD c2 0)=some (sT r.name)/\w'.cell? (aD c2 1)=some (i6 r.ZV)/\w'.cell? (aD c2 2)=some (sl O r.Z3 rn)/\w'.cell? (aD c2 3)=some (i6 r.low)/\w'.cell? (aD c2 4)=some (i6 r.ZB)/\w'.cell? (aD c2 5)=some (sT r.Z9)/\w'.cell? (aD c2 6)=some (sT r.ZZ)/\w'.cell? (aD c2 7)=some (sT r.key))
  (first | exact aE.o _ _ (by assumption) (by assumption) | exact⟨aC,d3,d4,b0,b1,ar,au,ah,av,aw,ax,ay,az⟩)
  (first | (go_at_call 161;refine(cn.o _ (by first | exact aC | assumption)).mono ?_;rintro e w' ⟨rfl,hb⟩))
 rename_i hS
 cases fi
 ·have hb:=hS.1;clear hS;go_wp2;go_ret;exact bm.o 63 _ (by decide) hb
 clear d3 d4 aC b0 b1 ar au ah av aw ax ay az;obtain⟨bK,d3,d4,b0,b1,ar,au,ah,av,aw,ax,ay,az⟩:=hS;have cj:=hid bK;have aC:=bK.drew;clear bK;go_wp2_with fail;go_region_held_law (fun w'=>Bw w w'/\w'.cell? (aD gt (i*5+3))=some (sl X t.Z3 x)/\w'.cell? (aD gt (i*5+4))=some (sl Y t.ZW y)/\w'.cell? (aN w 0)=some (sl B0 o.Z7 l0)/\w'.cell? (aN w 1)=some (sl (some (aD gt 0)) o.Z8 l1)/\w'.cell? (aD c2 0)=some (sT r.name)/\w'.cell? (aD c2 1)=some (i6 r.ZV)/\w'.cell? (aD c2 2)=some (sl O r.Z3 rn)/\w'.cell? (aD c2 3)=some (i6 r.low)/\w'.cell? (aD c2 4)=some (i6 r.ZB)/\w'.cell? (aD c2 5)=some (sT r.Z9)/\w'.cell? (aD c2 6)=some (sT r.ZZ)/\w'.cell? (aD c2 7)=some (sT r.key))
  (first | exact aE.o _ _ (by assumption) (by assumption) | exact⟨aC,d3,d4,b0,b1,ar,au,ah,av,aw,ax,ay,az⟩)
  (first | (go_at_call 210;refine(ck.o _ (by first | exact aC | assumption)).mono ?_;rintro e w' ⟨rfl,hb⟩))
 rename_i hS
 cases hat:SD t.ZW r.name with
 | some k=>
  have L:(0:Int)<=(k:Int):=by omega
  have hb:=hS.1;rw [show WS (some k)=(k:Int) from rfl];clear hS;go_wp2;go_ret;exact bm.o 60 _ (by decide) hb
 | none=>
  have bZ:=hid hat;clear hat;rw [show WS (none:Option Nat)= -1 from rfl];clear d3 d4 aC b0 b1 ar au ah av aw ax ay az;obtain⟨b6,d3,d4,b0,b1,ar,au,ah,av,aw,ax,ay,az⟩:=hS;have aR:=hid b6;clear b6 cj;by_cases h8:8<=t.ZW.length
  ·have cv:(t.ZW.length:Int)>=8:=by omega
   have bJ:(8:Int)<=(t.ZW.length:Int):=by omega
   go_wp2;go_ret;exact bm.o 2 _ (by decide) aR.o
  have cv: ¬ (t.ZW.length:Int)>=8:=by omega
  have bJ: ¬ (8:Int)<=(t.ZW.length:Int):=by omega
  have cI:Hid (r.ZV=4∨ ¬ r.ZV=4):=hid (by omega);by_cases h4:r.ZV=4
  ·have cu:(r.ZV == 4)=true:=by simpa using h4
   have b2:=hid h4;clear h4;have aC:=aR.o.drew;go_upto_region 8 with fail
   go_region_held_law (fun w'=>Bw w w'/\w'.cell? (aD gt (i*5+3))=some (sl X t.Z3 x)/\w'.cell? (aD gt (i*5+4))=some (sl Y t.ZW y)/\w'.cell? (aN w 0)=some (sl B0 o.Z7 l0)/\w'.cell? (aN w 1)=some (sl (some (aD gt 0)) o.Z8 l1)/\w'.cell? (aD c2 0)=some (sT r.name)/\w'.cell? (aD c2 1)=some (i6 r.ZV)/\w'.cell? (aD c2 2)=some (sl O r.Z3 rn)/\w'.cell? (aD c2 3)=some (i6 r.low)/\w'.cell? (aD c2 4)=some (i6 r.ZB)/\w'.cell? (aD c2 5)=some (sT r.Z9)/\w'.cell? (aD c2 6)=some (sT r.ZZ)/\w'.cell? (aD c2 7)=some (sT r.key))
    (first | exact aE.o _ _ (by assumption) (by assumption) | exact⟨aC,d3,d4,b0,b1,ar,au,ah,av,aw,ax,ay,az⟩)
    (first | (go_at_call 162;refine(cp.o _ (by first | exact aC | assumption)).mono ?_;rintro e w' ⟨rfl,hb⟩))
   rename_i hS;clear d3 d4 b0 b1 aC ar au ah av aw ax ay az;obtain⟨b7,d3,d4,b0,b1,ar,au,ah,av,aw,ax,ay,az⟩:=hS;have bi:=hid b7;clear b7;by_cases hke:ke=0
   ·have bS:(ke == 0)=true:=by simpa using hke
    have bT:(ke != 0)=false:=by simp [hke]
    have cq:=hid hke;clear hke;have cS:=Xk O rn r.Z3 w' (XS (bo.o.later bi.o)) bp.o.1;have r2:w'.cell? (aD c2 2)=some (sl O r.Z3 rn):=ah;go_wp2_with fail;refine cS.mono ?_
    rintro e W5 ⟨I,J,rfl,bc,hb⟩;have ao:=bt bi hb;have bC:=hid (RK bc);have bY:=bi.o.size;have cE:=ao.o.size;have C5:=HC.o.below ao.o (by omega);have e2:W5.cell? (aD c2 2)=some (sl O r.Z3 rn):=C5.cell 2;have f2:W5.frozen? (aD c2 2)=false:=C5.frozen 2;clear hb bc cS r2 d3 d4 b0 b1 ar au ah av aw ax ay az;go_upto_region 12 with fail
    refine Wh _ fun m D=> ?_
    have Z:Hid (ZP m c2 40 [(sT r.name),(i6 r.ZV),(sl I r.Z3 J),(i6 r.low),(i6 r.ZB),(sT r.Z9),(sT r.ZZ),(sT r.key)]):=hid (by rw [D];exact C5.Zx 2 _);have aV:Hid (Y6 w.heap.size (some c2) w m):=hid (by rw [D];exact Y6.GB ao.o _);have bE:Hid (Yj w m gt (b i) (b (i+1)) [40] (some c2)):=hid (by rw [D];exact(Yj.ZA ao.o).trans (Yj.GB _));have ac:Hid (ZS [40] W5 m):=hid (by rw [D];exact ZS.Zx C5.Xr (by simp) _);have cF:W5.heap.size<=m.heap.size:=ac.o.size;clear D e2 f2;have aG:Hid (ZS [40] w m):=hid ((ZS.ZA ao.o lr).trans ac.o);obtain⟨_,_,⟨rs,aP,am,be⟩,Qu⟩:=ad.o;have bB:=hid aP;have bA:=hid be;have ak:rs.length=t.ZW.length:=by rw [<-aP,List.length_map]
    have aL:Hid (m.ownsRow base 40 8 (sl Y t.ZW y) t.ZW.length (rs.flatMap YH.cs)):=hid (Y9 (am.Yp aj) fun k L=>aV.o.block k (YB am L) (fun e=>by have:=ZD am k L;injection e with e;omega));have aW:Hid (∀ k,(Value.slice Y t.ZW.length y).ownBlock=some k->Za w k 40/\b i<=k/\k<b (i+1)):=hid fun k L=>⟨Yx am L,ZD am k L,Qu k L⟩
    clear aP am be Qu;have bu:Hid (Za m gt 73):=hid (aG.o.Xr an.o (by decide));have g4:m.cell? (aD gt (i*5+4))=some (sl Y t.ZW y):=(World.cell?_of_block (w:=w) (aG.o.block gt _ an.o (by decide))).trans a7;have gf:m.frozen? (aD gt (i*5+4))=false:=(World.frozen?_of_block (w:=w) (aG.o.block gt _ an.o (by decide))).trans (bk.o _);have a8:Hid (∀ j w2,(fun w'=>w'.cell? (aD gt (i*5+4))=some (sl Y t.ZW y)/\w'.cell? (aD c2 0)=some (sT r.name)/\w'.cell? (aD c2 1)=some (i6 r.ZV)/\w'.cell? (aD c2 2)=some (sl I r.Z3 J)/\w'.cell? (aD c2 3)=some (i6 r.low)/\w'.cell? (aD c2 4)=some (i6 r.ZB)/\w'.cell? (aD c2 5)=some (sT r.Z9)/\w'.cell? (aD c2 6)=some (sT r.ZZ)/\w'.cell? (aD c2 7)=some (sT r.key)) j->Bw j w2->(fun w'=>w'.cell? (aD gt (i*5+4))=some (sl Y t.ZW y)/\w'.cell? (aD c2 0)=some (sT r.name)/\w'.cell? (aD c2 1)=some (i6 r.ZV)/\w'.cell? (aD c2 2)=some (sl I r.Z3 J)/\w'.cell? (aD c2 3)=some (i6 r.low)/\w'.cell? (aD c2 4)=some (i6 r.ZB)/\w'.cell? (aD c2 5)=some (sT r.Z9)/\w'.cell? (aD c2 6)=some (sT r.ZZ)/\w'.cell? (aD c2 7)=some (sT r.key)) w2):=hid (by
     intro j w2 ⟨g0,g1,g2,g3,g4,g5,g6,g7,g8⟩ C;exact⟨(C.cell (World.block_lt_of_cell? j _ g0)).trans g0,(C.cell (World.block_lt_of_cell? j _ g1)).trans g1,(C.cell (World.block_lt_of_cell? j _ g2)).trans g2,(C.cell (World.block_lt_of_cell? j _ g3)).trans g3,(C.cell (World.block_lt_of_cell? j _ g4)).trans g4,(C.cell (World.block_lt_of_cell? j _ g5)).trans g5,(C.cell (World.block_lt_of_cell? j _ g6)).trans g6,(C.cell (World.block_lt_of_cell? j _ g7)).trans g7,(C.cell (World.block_lt_of_cell? j _ g8)).trans g8⟩)
    refine Ys 10 (S:=fun w'=>w'.cell? (aD gt (i*5+4))=some (sl Y t.ZW y)/\w'.cell? (aD c2 0)=some (sT r.name)/\w'.cell? (aD c2 1)=some (i6 r.ZV)/\w'.cell? (aD c2 2)=some (sl I r.Z3 J)/\w'.cell? (aD c2 3)=some (i6 r.low)/\w'.cell? (aD c2 4)=some (i6 r.ZB)/\w'.cell? (aD c2 5)=some (sT r.Z9)/\w'.cell? (aD c2 6)=some (sT r.ZZ)/\w'.cell? (aD c2 7)=some (sT r.key)) (by kernel_rfl) ⟨g4,Z.o.cell 0,Z.o.cell 1,Z.o.cell 2,Z.o.cell 3,Z.o.cell 4,Z.o.cell 5,Z.o.cell 6,Z.o.cell 7⟩ (fun d=> ?_)
    (try simp only [pp]);refine WZ 0 48 d ?_;refine WZ 1 49 d ?_;refine WZ 2 50 d ?_;refine WZ 3 51 d ?_;refine WZ 4 52 d ?_;refine WZ 5 53 d ?_;refine UK 6 54 fun K F=> ?_
    go_simp;refine Fe _ fun w7 h7=> ?_
    have aa:Hid (Bw m w7):=hid (by rw [h7];exact(show Bw m m.drew from br.drew).trans (br.alloc (by simp) _));have N7:Hid (ZP w7 m.heap.size 40 [(sT r.name),(i6 r.ZV),(sl I r.Z3 J),(i6 r.low),(i6 r.ZB),(sT r.Z9),(sT r.ZZ),(sT r.key)]):=hid (by rw [h7];exact ZP.new m.drew _ _);have bj:Below m.drew.heap.size m.drew w7:=by rw [h7];exact br.alloc lr _
    clear h7;have d:=a8.o _ _ d bj;refine F.out _ _ d ?_
    clear F K;(try simp only [pp])
    refine UK 7 55 fun K F=> ?_
    have O7:=hid (aL.o.ZC aa.o);obtain⟨i0,bO,bW,aF,bX⟩:=info_parts Tl;have cA:=aa.o.size;refine Ny rfl _ _ _ rfl base 40 i0 _ 8 112 underlying71 bO bW aF bX rfl (by decide) (sl Y t.ZW y) t.ZW.length _ rfl O7.o (aN m 0) 1 1 [(sT r.name),(i6 r.ZV),(sl I r.Z3 J),(i6 r.low),(i6 r.ZB),(sT r.Z9),(sT r.ZZ),(sT r.key)] rfl rfl (ZP.news N7.o) (by simp [Value.oneCell']) (by unfold maxLen;omega) (by omega) (by omega) ?_
    intro M N G bv af bU;have aB:ZS [40] w7 G:=ZS.grown O7.o af.o (by simp) af.o.size;have ap:Hid (ZS [40] w G):=hid ((aG.o.trans (ZS.ZA aa.o lr)).trans aB);have aK:Hid (ZS [40] W5 G):=hid ((ac.o.trans (ZS.ZA aa.o lr)).trans aB);have bF:Hid (Yj w G gt (b i) (b (i+1)) [40] (some c2)):=hid ((bE.o.trans (Yj.ZA aa.o)).trans ⟨af.o.size,fun k t ht _ hn _=>af.o.block k ht.lt fun e'=>by
     have bV:=Yx O7.o e'.symm;rw [ht.same bV] at hn;exact hn (by simp) (aW.o k e'.symm).2⟩)
    have bH:Hid (Y6 base (some c2) w G):=hid (((aV.o.mono bM).post (aa.o.mono (by omega))).post (Below.grown (Below.refl base w7) af.o (by omega) (ZD O7.o)));have cC:=af.o.size;have e8:G.cell? (aD gt (i*5+4))=some (sl Y t.ZW y):=(World.cell?_of_block (w:=w) (ap.o.block gt _ an.o (by decide))).trans a7;have f8:G.frozen? (aD gt (i*5+4))=false:=(World.frozen?_of_block (w:=w) (ap.o.block gt _ an.o (by decide))).trans (bk.o _);have U: ∀ f u,w7.cell? (aD c2 f)=some u->G.cell? (aD c2 f)=some u:=fun f u hu=>(World.cell?_of_block (af.o.block c2 (by omega) (fun e=>by have:=ZD O7.o c2 e.symm;omega))).trans hu
    have d:=(show (fun w'=>w'.cell? (aD gt (i*5+4))=some (sl Y t.ZW y)/\w'.cell? (aD c2 0)=some (sT r.name)/\w'.cell? (aD c2 1)=some (i6 r.ZV)/\w'.cell? (aD c2 2)=some (sl I r.Z3 J)/\w'.cell? (aD c2 3)=some (i6 r.low)/\w'.cell? (aD c2 4)=some (i6 r.ZB)/\w'.cell? (aD c2 5)=some (sT r.Z9)/\w'.cell? (aD c2 6)=some (sT r.ZZ)/\w'.cell? (aD c2 7)=some (sT r.key)) G from ⟨e8,U _ _ d.2.1,U _ _ d.2.2.1,U _ _ d.2.2.2.1,U _ _ d.2.2.2.2.1,U _ _ d.2.2.2.2.2.1,U _ _ d.2.2.2.2.2.2.1,U _ _ d.2.2.2.2.2.2.2.1,U _ _ d.2.2.2.2.2.2.2.2⟩)
    refine F.out _ _ d ?_
    clear F K;(try simp only [pp])
    refine UK 8 56 fun K F=> ?_
    go_simp;refine F.out _ _ d ?_
    clear F K;(try simp only [pp])
    refine UK 9 57 fun K F=> ?_
    go_simp;refine F.out _ _ d ?_
    clear F K;(try simp only [pp])
    refine Yt.WR (i:=10) (o:=⟨none,_,_,_,_,_⟩) (by kernel_rfl) rfl rfl (fun K F=> ?_)
    go_simp;refine F.out _ _ (Yt.done (by kernel_rfl) ?_ _);clear F K;refine Qv _ fun W9 D=> ?_
    have bD:Hid (G.ownsRow base 73 5 (sl (some (aD gt 0)) o.Z8 l1) o.Z8.length (ts.flatMap YX.cs)):=hid (aQ.o.Z8.keeps ap.o (by decide));have aU:Hid (W9.ownsRow base 73 5 (sl (some (aD gt 0)) o.Z8 l1) o.Z8.length ((ts.set i ({ t with ZW:=t.ZW ++ [r]},X,x,M,N)).flatMap YX.cs)):=hid (by rw [D];exact aT.o G bD.o 4 (by omega) _ _ (by simp [YX.cs,Tb.cs]));have ab:Hid (ZS [73] G W9):=hid (by rw [D];exact ZS.Zx (ap.o.Xr an.o (by decide)) (by simp) _);have bG:Hid (Yj w W9 gt (b i) (b (i+1)) [40] (some c2)):=hid (by rw [D];exact bF.o.trans (Yj.Zx _));have bI:Hid (Y6 base (some c2) w W9):=hid (by rw [D];exact bH.o.post (br.setCell cc _));have e9:W9.cell? (aD gt (i*5+4))=some (.slice M (t.ZW.length+1) N):=by
     have hc:=WD aU.out (i:=i) (by simpa using hi') 4 (by omega) (.slice M (t.ZW ++ [r]).length N) (by rw [List.getElem_set_self];rfl);rw [List.length_append] at hc;exact hc
    have cG:G.heap.size<=W9.heap.size:=ab.o.size;clear D e8 f8 d a8;have bz:Hid (W9.ownsRow base 40 8 (.slice M (rs ++ [((r,I,J):YH)]).length N) (rs ++ [((r,I,J):YH)]).length ((rs ++ [((r,I,J):YH)]).flatMap YH.cs)):=hid (by
     have E:=bv.o.keeps ab.o (by decide);rw [List.length_append,ak,List.flatMap_append];simpa [YH.cs,Ru.cs] using E)
    have aM:=Nz base (rs ++ [((r,I,J):YH)]) M N W9 bz.o (by simp) (by simp;omega);rw [show (rs ++ [((r,I,J):YH)]).length=t.ZW.length+1 from by simp [ak]] at aM;go_wp2_with fail;refine aM.mono ?_
    rintro e aq ⟨rfl,l',aI,bf,bb,aY,aH,a6⟩;have HF:Hid (VY (some c2) w base p gt B0 l0 l1 o (WP o r i) (.returned (i6 0)) aq):=hid (by
     have ba:l'.length=t.ZW.length+1:=by rw [aI.length_eq];simp [ak]
     have ae:ZS [40,73] w aq:=((ap.o.X6 (by simp)).trans (ab.o.X6 (by simp))).trans (aH.X6 (by simp));have aA:ZS [40,73] W5 aq:=((aK.o.X6 (by simp)).trans (ab.o.X6 (by simp))).trans (aH.X6 (by simp));have aO:Yj w aq gt (b i) (b (i+1)) [40] (some c2):=bG.o.Eu (e:=40) a6 (by simp) fun k L cz=>by
      rcases bU.o with E | E
      ·exact aW.o k (by rw [<-E];simpa [ak] using L)
      ·have h2:some k=some w7.heap.size:=by rw [<-E];simpa [ak] using L.symm
       injection h2 with h2
       omega
     have hd: ∀ t,t∈ [9]->t∉ [40,73]:=by decide
     have ag:aq.ownsRow base 73 5 (sl (some (aD gt 0)) o.Z8 l1) o.Z8.length ((ts.set i ({ t with ZW:=l'.map (·.1)},X,x,M,N)).flatMap YX.cs):=by
      have E:=aU.out.keeps aH (by decide);have e1:YX.cs ({ t with ZW:=t.ZW ++ [r]},X,x,M,N)=YX.cs ({ t with ZW:=l'.map (·.1)},X,x,M,N):=by simp [YX.cs,Tb.cs,ba]
      rwa [Px hi' e1] at E
     refine UG (us:= [40]) (t':=({ t with ZW:=l'.map (·.1)},X,x,M,N)) aQ.o hi' HP.o aO (by decide) (by decide) (fun c hc=>by injection hc with hc;omega) ci ag (Tt ad.o ae (by decide) aj ⟨l',rfl,by simpa [ba,ak] using bb,fun z hz=> ?_⟩) (bI.o.post aY) (b3.o (by simp) bZ.o (by omega) (fun _=>cq.o) _ ?_ ?_)
     ·rcases List.mem_append.1 (aI.subset hz) with aF | aF
      ·obtain⟨E,h2⟩:=bA.o z aF;exact⟨E.YW (fun k L=>((L.1.keeps ae hd).1).mono aj (fun _ h=>h)) (fun _ hp=>World.cell?_of_block (hp.1.keeps ae hd).2),h2⟩
      ·rw [List.mem_singleton.1 aF];exact⟨(bC.o.VI aA hd).Tk (by omega) (fun _ h=>h),aS.o⟩
     ·have E:=aI.map (·.1);rw [List.map_append,bB.o] at E;exact E
     ·intro a b ha hb bL;rw [List.getElem_map,List.getElem_map];exact bf a b (by simpa using ha) (by simpa using hb) bL)
    clear aI bf bb aY aH a6 aM;go_wp2;go_ret;exact HF.o
   ·have bS:(ke == 0)=false:=by simpa using hke
    have bT:(ke != 0)=true:=by simp [hke]
    go_wp2;go_ret;exact bm.o ke _ hke bi.o
  ·have cu:(r.ZV == 4)=false:=by simpa using h4
   have b2:=hid h4;clear h4;have cS:=Xk O rn r.Z3 w' (XS (bo.o.later aR.o)) bp.o.1;have r2:w'.cell? (aD c2 2)=some (sl O r.Z3 rn):=ah;go_wp2_with fail;refine cS.mono ?_
   rintro e W5 ⟨I,J,rfl,bc,hb⟩;have ao:=bt aR hb;have bC:=hid (RK bc);have bY:=aR.o.size;have cE:=ao.o.size;have C5:=HC.o.below ao.o (by omega);have e2:W5.cell? (aD c2 2)=some (sl O r.Z3 rn):=C5.cell 2;have f2:W5.frozen? (aD c2 2)=false:=C5.frozen 2;clear hb bc cS r2 d3 d4 b0 b1 ar au ah av aw ax ay az;go_upto_region 12 with fail
   refine Wh _ fun m D=> ?_
   have Z:Hid (ZP m c2 40 [(sT r.name),(i6 r.ZV),(sl I r.Z3 J),(i6 r.low),(i6 r.ZB),(sT r.Z9),(sT r.ZZ),(sT r.key)]):=hid (by rw [D];exact C5.Zx 2 _);have aV:Hid (Y6 w.heap.size (some c2) w m):=hid (by rw [D];exact Y6.GB ao.o _);have bE:Hid (Yj w m gt (b i) (b (i+1)) [40] (some c2)):=hid (by rw [D];exact(Yj.ZA ao.o).trans (Yj.GB _));have ac:Hid (ZS [40] W5 m):=hid (by rw [D];exact ZS.Zx C5.Xr (by simp) _);have cF:W5.heap.size<=m.heap.size:=ac.o.size;clear D e2 f2;have aG:Hid (ZS [40] w m):=hid ((ZS.ZA ao.o lr).trans ac.o);obtain⟨_,_,⟨rs,aP,am,be⟩,Qu⟩:=ad.o;have bB:=hid aP;have bA:=hid be;have ak:rs.length=t.ZW.length:=by rw [<-aP,List.length_map]
   have aL:Hid (m.ownsRow base 40 8 (sl Y t.ZW y) t.ZW.length (rs.flatMap YH.cs)):=hid (Y9 (am.Yp aj) fun k L=>aV.o.block k (YB am L) (fun e=>by have:=ZD am k L;injection e with e;omega));have aW:Hid (∀ k,(Value.slice Y t.ZW.length y).ownBlock=some k->Za w k 40/\b i<=k/\k<b (i+1)):=hid fun k L=>⟨Yx am L,ZD am k L,Qu k L⟩
   clear aP am be Qu;have bu:Hid (Za m gt 73):=hid (aG.o.Xr an.o (by decide));have g4:m.cell? (aD gt (i*5+4))=some (sl Y t.ZW y):=(World.cell?_of_block (w:=w) (aG.o.block gt _ an.o (by decide))).trans a7;have gf:m.frozen? (aD gt (i*5+4))=false:=(World.frozen?_of_block (w:=w) (aG.o.block gt _ an.o (by decide))).trans (bk.o _);have a8:Hid (∀ j w2,(fun w'=>w'.cell? (aD gt (i*5+4))=some (sl Y t.ZW y)/\w'.cell? (aD c2 0)=some (sT r.name)/\w'.cell? (aD c2 1)=some (i6 r.ZV)/\w'.cell? (aD c2 2)=some (sl I r.Z3 J)/\w'.cell? (aD c2 3)=some (i6 r.low)/\w'.cell? (aD c2 4)=some (i6 r.ZB)/\w'.cell? (aD c2 5)=some (sT r.Z9)/\w'.cell? (aD c2 6)=some (sT r.ZZ)/\w'.cell? (aD c2 7)=some (sT r.key)) j->Bw j w2->(fun w'=>w'.cell? (aD gt (i*5+4))=some (sl Y t.ZW y)/\w'.cell? (aD c2 0)=some (sT r.name)/\w'.cell? (aD c2 1)=some (i6 r.ZV)/\w'.cell? (aD c2 2)=some (sl I r.Z3 J)/\w'.cell? (aD c2 3)=some (i6 r.low)/\w'.cell? (aD c2 4)=some (i6 r.ZB)/\w'.cell? (aD c2 5)=some (sT r.Z9)/\w'.cell? (aD c2 6)=some (sT r.ZZ)/\w'.cell? (aD c2 7)=some (sT r.key)) w2):=hid (by
    intro j w2 ⟨g0,g1,g2,g3,g4,g5,g6,g7,g8⟩ C;exact⟨(C.cell (World.block_lt_of_cell? j _ g0)).trans g0,(C.cell (World.block_lt_of_cell? j _ g1)).trans g1,(C.cell (World.block_lt_of_cell? j _ g2)).trans g2,(C.cell (World.block_lt_of_cell? j _ g3)).trans g3,(C.cell (World.block_lt_of_cell? j _ g4)).trans g4,(C.cell (World.block_lt_of_cell? j _ g5)).trans g5,(C.cell (World.block_lt_of_cell? j _ g6)).trans g6,(C.cell (World.block_lt_of_cell? j _ g7)).trans g7,(C.cell (World.block_lt_of_cell? j _ g8)).trans g8⟩)
   refine Ys 10 (S:=fun w'=>w'.cell? (aD gt (i*5+4))=some (sl Y t.ZW y)/\w'.cell? (aD c2 0)=some (sT r.name)/\w'.cell? (aD c2 1)=some (i6 r.ZV)/\w'.cell? (aD c2 2)=some (sl I r.Z3 J)/\w'.cell? (aD c2 3)=some (i6 r.low)/\w'.cell? (aD c2 4)=some (i6 r.ZB)/\w'.cell? (aD c2 5)=some (sT r.Z9)/\w'.cell? (aD c2 6)=some (sT r.ZZ)/\w'.cell? (aD c2 7)=some (sT r.key)) (by kernel_rfl) ⟨g4,Z.o.cell 0,Z.o.cell 1,Z.o.cell 2,Z.o.cell 3,Z.o.cell 4,Z.o.cell 5,Z.o.cell 6,Z.o.cell 7⟩ (fun d=> ?_)
   (try simp only [pp]);refine WZ 0 48 d ?_;refine WZ 1 49 d ?_;refine WZ 2 50 d ?_;refine WZ 3 51 d ?_;refine WZ 4 52 d ?_;refine WZ 5 53 d ?_;refine UK 6 54 fun K F=> ?_
   go_simp;refine Fe _ fun w7 h7=> ?_
   have aa:Hid (Bw m w7):=hid (by rw [h7];exact(show Bw m m.drew from br.drew).trans (br.alloc (by simp) _));have N7:Hid (ZP w7 m.heap.size 40 [(sT r.name),(i6 r.ZV),(sl I r.Z3 J),(i6 r.low),(i6 r.ZB),(sT r.Z9),(sT r.ZZ),(sT r.key)]):=hid (by rw [h7];exact ZP.new m.drew _ _);have bj:Below m.drew.heap.size m.drew w7:=by rw [h7];exact br.alloc lr _
   clear h7;have d:=a8.o _ _ d bj;refine F.out _ _ d ?_
   clear F K;(try simp only [pp])
   refine UK 7 55 fun K F=> ?_
   have O7:=hid (aL.o.ZC aa.o);obtain⟨i0,bO,bW,aF,bX⟩:=info_parts Tl;have cA:=aa.o.size;refine Ny rfl _ _ _ rfl base 40 i0 _ 8 112 underlying71 bO bW aF bX rfl (by decide) (sl Y t.ZW y) t.ZW.length _ rfl O7.o (aN m 0) 1 1 [(sT r.name),(i6 r.ZV),(sl I r.Z3 J),(i6 r.low),(i6 r.ZB),(sT r.Z9),(sT r.ZZ),(sT r.key)] rfl rfl (ZP.news N7.o) (by simp [Value.oneCell']) (by unfold maxLen;omega) (by omega) (by omega) ?_
   intro M N G bv af bU;have aB:ZS [40] w7 G:=ZS.grown O7.o af.o (by simp) af.o.size;have ap:Hid (ZS [40] w G):=hid ((aG.o.trans (ZS.ZA aa.o lr)).trans aB);have aK:Hid (ZS [40] W5 G):=hid ((ac.o.trans (ZS.ZA aa.o lr)).trans aB);have bF:Hid (Yj w G gt (b i) (b (i+1)) [40] (some c2)):=hid ((bE.o.trans (Yj.ZA aa.o)).trans ⟨af.o.size,fun k t ht _ hn _=>af.o.block k ht.lt fun e'=>by
    have bV:=Yx O7.o e'.symm;rw [ht.same bV] at hn;exact hn (by simp) (aW.o k e'.symm).2⟩)
   have bH:Hid (Y6 base (some c2) w G):=hid (((aV.o.mono bM).post (aa.o.mono (by omega))).post (Below.grown (Below.refl base w7) af.o (by omega) (ZD O7.o)));have cC:=af.o.size;have e8:G.cell? (aD gt (i*5+4))=some (sl Y t.ZW y):=(World.cell?_of_block (w:=w) (ap.o.block gt _ an.o (by decide))).trans a7;have f8:G.frozen? (aD gt (i*5+4))=false:=(World.frozen?_of_block (w:=w) (ap.o.block gt _ an.o (by decide))).trans (bk.o _);have U: ∀ f u,w7.cell? (aD c2 f)=some u->G.cell? (aD c2 f)=some u:=fun f u hu=>(World.cell?_of_block (af.o.block c2 (by omega) (fun e=>by have:=ZD O7.o c2 e.symm;omega))).trans hu
   have d:=(show (fun w'=>w'.cell? (aD gt (i*5+4))=some (sl Y t.ZW y)/\w'.cell? (aD c2 0)=some (sT r.name)/\w'.cell? (aD c2 1)=some (i6 r.ZV)/\w'.cell? (aD c2 2)=some (sl I r.Z3 J)/\w'.cell? (aD c2 3)=some (i6 r.low)/\w'.cell? (aD c2 4)=some (i6 r.ZB)/\w'.cell? (aD c2 5)=some (sT r.Z9)/\w'.cell? (aD c2 6)=some (sT r.ZZ)/\w'.cell? (aD c2 7)=some (sT r.key)) G from ⟨e8,U _ _ d.2.1,U _ _ d.2.2.1,U _ _ d.2.2.2.1,U _ _ d.2.2.2.2.1,U _ _ d.2.2.2.2.2.1,U _ _ d.2.2.2.2.2.2.1,U _ _ d.2.2.2.2.2.2.2.1,U _ _ d.2.2.2.2.2.2.2.2⟩)
   refine F.out _ _ d ?_
   clear F K;(try simp only [pp])
   refine UK 8 56 fun K F=> ?_
   go_simp;refine F.out _ _ d ?_
   clear F K;(try simp only [pp])
   refine UK 9 57 fun K F=> ?_
   go_simp;refine F.out _ _ d ?_
   clear F K;(try simp only [pp])
   refine Yt.WR (i:=10) (o:=⟨none,_,_,_,_,_⟩) (by kernel_rfl) rfl rfl (fun K F=> ?_)
   go_simp;refine F.out _ _ (Yt.done (by kernel_rfl) ?_ _);clear F K;refine Qv _ fun W9 D=> ?_
   have bD:Hid (G.ownsRow base 73 5 (sl (some (aD gt 0)) o.Z8 l1) o.Z8.length (ts.flatMap YX.cs)):=hid (aQ.o.Z8.keeps ap.o (by decide));have aU:Hid (W9.ownsRow base 73 5 (sl (some (aD gt 0)) o.Z8 l1) o.Z8.length ((ts.set i ({ t with ZW:=t.ZW ++ [r]},X,x,M,N)).flatMap YX.cs)):=hid (by rw [D];exact aT.o G bD.o 4 (by omega) _ _ (by simp [YX.cs,Tb.cs]));have ab:Hid (ZS [73] G W9):=hid (by rw [D];exact ZS.Zx (ap.o.Xr an.o (by decide)) (by simp) _);have bG:Hid (Yj w W9 gt (b i) (b (i+1)) [40] (some c2)):=hid (by rw [D];exact bF.o.trans (Yj.Zx _));have bI:Hid (Y6 base (some c2) w W9):=hid (by rw [D];exact bH.o.post (br.setCell cc _));have e9:W9.cell? (aD gt (i*5+4))=some (.slice M (t.ZW.length+1) N):=by
    have hc:=WD aU.out (i:=i) (by simpa using hi') 4 (by omega) (.slice M (t.ZW ++ [r]).length N) (by rw [List.getElem_set_self];rfl);rw [List.length_append] at hc;exact hc
   have cG:G.heap.size<=W9.heap.size:=ab.o.size;clear D e8 f8 d a8;have bz:Hid (W9.ownsRow base 40 8 (.slice M (rs ++ [((r,I,J):YH)]).length N) (rs ++ [((r,I,J):YH)]).length ((rs ++ [((r,I,J):YH)]).flatMap YH.cs)):=hid (by
    have E:=bv.o.keeps ab.o (by decide);rw [List.length_append,ak,List.flatMap_append];simpa [YH.cs,Ru.cs] using E)
   have aM:=Nz base (rs ++ [((r,I,J):YH)]) M N W9 bz.o (by simp) (by simp;omega);rw [show (rs ++ [((r,I,J):YH)]).length=t.ZW.length+1 from by simp [ak]] at aM;go_wp2_with fail;refine aM.mono ?_
   rintro e aq ⟨rfl,l',aI,bf,bb,aY,aH,a6⟩;have HF:Hid (VY (some c2) w base p gt B0 l0 l1 o (WP o r i) (.returned (i6 0)) aq):=hid (by
    have ba:l'.length=t.ZW.length+1:=by rw [aI.length_eq];simp [ak]
    have ae:ZS [40,73] w aq:=((ap.o.X6 (by simp)).trans (ab.o.X6 (by simp))).trans (aH.X6 (by simp));have aA:ZS [40,73] W5 aq:=((aK.o.X6 (by simp)).trans (ab.o.X6 (by simp))).trans (aH.X6 (by simp));have aO:Yj w aq gt (b i) (b (i+1)) [40] (some c2):=bG.o.Eu (e:=40) a6 (by simp) fun k L cz=>by
     rcases bU.o with E | E
     ·exact aW.o k (by rw [<-E];simpa [ak] using L)
     ·have h2:some k=some w7.heap.size:=by rw [<-E];simpa [ak] using L.symm
      injection h2 with h2
      omega
    have hd: ∀ t,t∈ [9]->t∉ [40,73]:=by decide
    have ag:aq.ownsRow base 73 5 (sl (some (aD gt 0)) o.Z8 l1) o.Z8.length ((ts.set i ({ t with ZW:=l'.map (·.1)},X,x,M,N)).flatMap YX.cs):=by
     have E:=aU.out.keeps aH (by decide);have e1:YX.cs ({ t with ZW:=t.ZW ++ [r]},X,x,M,N)=YX.cs ({ t with ZW:=l'.map (·.1)},X,x,M,N):=by simp [YX.cs,Tb.cs,ba]
     rwa [Px hi' e1] at E
    refine UG (us:= [40]) (t':=({ t with ZW:=l'.map (·.1)},X,x,M,N)) aQ.o hi' HP.o aO (by decide) (by decide) (fun c hc=>by injection hc with hc;omega) ci ag (Tt ad.o ae (by decide) aj ⟨l',rfl,by simpa [ba,ak] using bb,fun z hz=> ?_⟩) (bI.o.post aY) (b3.o (by simp) bZ.o (by omega) (fun h=>absurd h b2.o) _ ?_ ?_)
    ·rcases List.mem_append.1 (aI.subset hz) with aF | aF
     ·obtain⟨E,h2⟩:=bA.o z aF;exact⟨E.YW (fun k L=>((L.1.keeps ae hd).1).mono aj (fun _ h=>h)) (fun _ hp=>World.cell?_of_block (hp.1.keeps ae hd).2),h2⟩
     ·rw [List.mem_singleton.1 aF];exact⟨(bC.o.VI aA hd).Tk (by omega) (fun _ h=>h),aS.o⟩
    ·have E:=aI.map (·.1);rw [List.map_append,bB.o] at E;exact E
    ·intro a b ha hb bL;rw [List.getElem_map,List.getElem_map];exact bf a b (by simpa using ha) (by simpa using hb) bL)
   clear aI bf bb aY aH a6 aM;go_wp2;go_ret;exact HF.o
def Vk (o:Ob)(nm ow:lU)(er:Int)(o':Ob):Prop:=
 (o'=o/\((er=1/\(Zw nm && Zw ow)=false)∨(er=60/\(Xd o.Z7 nm).isSome=true)∨(er=2/\8<=o.Z7.length)))∨
 (er=0/\Zw nm=true/\Zw ow=true/\Xd o.Z7 nm=none/\o.Z7.length<8/\ ∃ ss':List Sc,ss'.Perm (o.Z7 ++ [⟨nm,ow⟩])/\(∀ (a b:Nat) (ha:a<ss'.length) (hb:b<ss'.length),a<b->0<=Wk ss'[b] ss'[a])/\o'=⟨ss',o.Z8⟩)
def UW (o:Ob)(nm:lU)(er:Int)(o':Ob):Prop:=(er≠0/\o'=o)∨(er=0/\ ∃ k,Xd o.Z7 nm=some k/\X9 o nm=0/\o'=⟨o.Z7.eraseIdx k,o.Z8⟩)
section
variable {w w' : World} {base p : Nat} {o : Ob} {B0 : Option Addr} {l0 : Nat} {B1 : Option Addr} {l1 : Nat} {ts : List YX} {b : Nat -> Nat} {R : Int -> Ob -> Prop}
theorem Sn {d:Int}{x:Option Nat}(m:VM w base o B0 l0 B1 l1 ts b)(j:base<=w.heap.size)(h:ZP w p 26 [.slice B0 o.Z7.length l0,.slice B1 o.Z8.length l1])(hb:Bw w w')(s:R d o):TT x w base p R (.returned (i6 d)) w':=
 ⟨d,o,B0,l0,B1,l1,rfl,s,h.below hb h.lt,m.t.keeps (ZS.ZA (ts:= []) hb lr) (by simp),(hb.mono j).x _⟩
theorem Qs (h:VM w base o B0 l0 B1 l1 ts b)(d: ∀ j,j<=ts.length->b j<=w.heap.size):base<=w.heap.size:=by
 have:=h.low;have:=d 0 (Nat.zero_le _);omega
theorem OR {T:TypeId}{d:List Sc}{A:oA}{c:Nat}(h:w.ownsRow base 89 2 (.slice A d.length c) d.length (d.flatMap Sc.cs)):ZT w (Xs w OT) Ze (d.map Sc.da) A:=by
 have j:=Ye (S:=fun _=>False) (sh:=Ze) Sc.da id Sc.k h rfl (fun a _=>Sc.VW a);rw [List.map_id] at j;exact j.YW (fun k m=>m.elim (fun h=>h.elim) (fun h=>h.Rp (by simp [OT]))) (fun _ _=>rfl)
end
theorem KY (o:Ob)(nm ow:lU)(c1 c2:Nat)(w0:World)(ho:o.Zo 1099511627776)(j:ZP w0 c1 9 [sT nm])(D:ZP w0 c2 9 [sT ow]):On none 194 #[pT c1,pT c2] o w0 (Vk o nm ow):=by
 intro w base p B0 l0 B1 l1 ts b aB ag aq aC J aW aR;have aE:=Qs aq aC;have bg:=ag.size;have aI:=J.lt;have ac:=hid aq;have HP:=hid J;have a8:=hid ho;have aX:=ho.1;have bf:=ho.2.1;have a0:w.cell? (aD p 0)=some (.slice B0 o.Z7.length l0):=J.cell 0;have a1:w.cell? (aD p 1)=some (.slice B1 o.Z8.length l1):=J.cell 1;have bc:=fun i=>J.frozen i
 have H1:=hid (j.below ag j.lt);have H2:=hid (D.below ag D.lt);have ba:=j.lt;have bb:=D.lt;have ad:Hid (∀ N W,((N=1/\(Zw nm && Zw ow)=false)∨(N=60/\(Xd o.Z7 nm).isSome=true)∨(N=2/\8<=o.Z7.length))->Bw w W->TT none w base p (Vk o nm ow) (.returned (i6 N)) W):=hid fun N W h D=>Sn ac.o aE HP.o D (Or.inl ⟨rfl,h⟩)
 have aj:Hid (∀ G:List Sc,Zw nm=true->Zw ow=true->Xd o.Z7 nm=none->o.Z7.length<8->G.Perm (o.Z7 ++ [⟨nm,ow⟩])->(∀ (a b:Nat) (ha:a<G.length) (hb:b<G.length),a<b->0<=Wk G[b] G[a])->Vk o nm ow 0 ⟨G,o.Z8⟩):=hid fun G j D h3 h4 h5 m=>Or.inr ⟨rfl,j,D,h3,h4,G,h5,m,rfl⟩
 have a2:=ce H1 0;have a3:=ce H2 0;have aa:Hid (∀ C F,(fun w'=>Bw w w'/\w'.cell? (aD p 0)=some (.slice B0 o.Z7.length l0)/\w'.cell? (aD p 1)=some (.slice B1 o.Z8.length l1)/\w'.cell? (aD c1 0)=some (sT nm)) C->Bw C F->(fun w'=>Bw w w'/\w'.cell? (aD p 0)=some (.slice B0 o.Z7.length l0)/\w'.cell? (aD p 1)=some (.slice B1 o.Z8.length l1)/\w'.cell? (aD c1 0)=some (sT nm)) F):=hid (by
  intro C F ⟨j,O,U,V⟩ m;exact⟨j.trans (m.mono j.size),(m.cell (World.block_lt_of_cell? C _ O)).trans O,(m.cell (World.block_lt_of_cell? C _ U)).trans U,(m.cell (World.block_lt_of_cell? C _ V)).trans V⟩)
 have aM:Hid (∀ W,Bw w W->cQ 159 #[.slice B0 o.Z7.length l0,sT nm,.func (.func 160) #[] #[]] W fun e w'=>e= .returned (.int .i64 (WS (Xd o.Z7 nm)))/\Bw W w'):=hid (by
  intro W E;have cB:=VO (o.Z7.map Sc.da) B0 l0 nm W (ac.o.r.sc.later E) (by simpa using aX);rwa [List.length_map,Te] at cB)
 have aU:=fun W=>YI nm W
 have aV:=fun W=>YI ow W
 clear aq aC J aR ag j D ho;generalize Zw nm=n1 at*;generalize Zw ow=n2 at*;go_enter func194,ntmps194
 go_wp2_with fail;refine(aU _).mono ?_
 rintro e F ⟨rfl,m1,rfl⟩
 cases n1
 ·go_wp2;go_ret;exact ad.o 1 _ (Or.inl ⟨rfl,rfl⟩) (below_drewN br m1)
 have b3:(w.drewN m1).cell? (aD c2 0)=some (sT ow):=a3;go_wp2_with fail;refine(aV _).mono ?_
 rintro e F ⟨rfl,m2,rfl⟩;have ah:Hid (Below w.heap.size w (w.drewN (m1+m2))):=hid (below_drewN br (m1+m2))
 cases n2
 ·go_wp2;go_ret;exact ad.o 1 _ (Or.inl ⟨rfl,rfl⟩) ah.o
 clear b3;go_upto_region 3 with fail
 refine Wh _ fun W E=> ?_
 have I:Bw w W:=by rw [E];exact ah.o
 have a7:=hid I;have ap:Bw w W.drew:=I.drew;have d0:W.cell? (aD p 0)=some (.slice B0 o.Z7.length l0):=ct a0 I aI;have d1:W.cell? (aD p 1)=some (.slice B1 o.Z8.length l1):=ct a1 I aI;have d2:W.cell? (aD c1 0)=some (sT nm):=(I.cell (p:=(aD c1 0)) (by show c1<_;omega)).trans a2
 clear E I ah;go_region_held_law (fun w'=>Bw w w'/\w'.cell? (aD p 0)=some (.slice B0 o.Z7.length l0)/\w'.cell? (aD p 1)=some (.slice B1 o.Z8.length l1)/\w'.cell? (aD c1 0)=some (sT nm))
  (first | exact aa.o _ _ (by assumption) (by assumption) | exact⟨ap,d0,d1,d2⟩)
  (first | (go_at_call 159;refine(aM.o _ (by first | exact ap | assumption)).mono ?_;rintro e w' ⟨rfl,hb⟩))
 rename_i hS
 cases hat:Xd o.Z7 nm with
 | some k=>
  have hk:(0:Int)<=(k:Int):=by omega
  have hb:=hS.1;rw [show WS (some k)=(k:Int) from rfl];clear hS;go_wp2;go_ret;exact ad.o 60 _ (Or.inr (Or.inl ⟨rfl,by rw [hat];rfl⟩)) hb
 | none=>
  have aK:=hid hat;clear hat d0 d1 d2 ap;obtain⟨ae,d0,d1,d2⟩:=hS;have ai:=hid ae;rw [show WS (none:Option Nat)= -1 from rfl];by_cases h8:8<=o.Z7.length
  ·have aQ:(o.Z7.length:Int)>=8:=by omega
   have am:(8:Int)<=(o.Z7.length:Int):=by omega
   clear ae;go_wp2;go_ret;exact ad.o 2 _ (Or.inr (Or.inr ⟨rfl,h8⟩)) ai.o
  have aQ: ¬ (o.Z7.length:Int)>=8:=by omega
  have am: ¬ (8:Int)<=(o.Z7.length:Int):=by omega
  have d3:w'.cell? (aD c2 0)=some (sT ow):=(ae.cell (p:=(aD c2 0)) (by show c2<_;omega)).trans a3;clear ae aa;have aG:Hid (∀ C F,(fun w'=>w'.cell? (aD p 0)=some (.slice B0 o.Z7.length l0)/\w'.cell? (aD c1 0)=some (sT nm)/\w'.cell? (aD c2 0)=some (sT ow)) C->Bw C F->(fun w'=>w'.cell? (aD p 0)=some (.slice B0 o.Z7.length l0)/\w'.cell? (aD c1 0)=some (sT nm)/\w'.cell? (aD c2 0)=some (sT ow)) F):=hid (by
   intro C F ⟨O,U,V⟩ m;exact⟨(m.cell (World.block_lt_of_cell? C _ O)).trans O,(m.cell (World.block_lt_of_cell? C _ U)).trans U,(m.cell (World.block_lt_of_cell? C _ V)).trans V⟩)
  go_upto_region 7 with fail
  refine Ys 12 (S:=fun w'=>w'.cell? (aD p 0)=some (.slice B0 o.Z7.length l0)/\w'.cell? (aD c1 0)=some (sT nm)/\w'.cell? (aD c2 0)=some (sT ow)) (by kernel_rfl) ⟨d0,d2,d3⟩ (fun d=> ?_)
  (try simp only [pp]);refine WZ 0 29 d ?_;refine WZ 1 30 d ?_;refine WZ 2 31 d ?_;refine WZ 3 32 d ?_;refine WZ 4 33 d ?_;refine WZ 5 34 d ?_;refine WZ 6 35 d ?_;refine WZ 7 36 d ?_;refine UK 8 37 fun K s=> ?_
  go_simp;refine Fe _ fun w6 m=> ?_
  have ax:Below w'.drew.heap.size w'.drew w6:=by rw [m];exact br.alloc lr _
  have N6:Hid (ZP w6 w'.heap.size 89 [sT nm,sT ow]):=hid (by rw [m];exact ZP.new w'.drew _ _);clear m;have Z:Hid (Bw w w6):=hid (ai.o.drew.trans (ax.mono ai.o.drew.size));have d:=aG.o _ _ d ax;refine s.out _ _ d ?_
  clear s K;(try simp only [pp])
  refine UK 9 38 fun K s=> ?_
  have O6:=hid (ac.o.Z7.ZC Z.o);obtain⟨i0,aT,aY,aZ,a6⟩:=info_parts TF;have bd:=Z.o.size;refine Ux rfl _ _ _ rfl base 89 i0 _ 2 32 underlying23 aT aY aZ a6 rfl (by decide) (.slice B0 o.Z7.length l0) o.Z7.length _ rfl O6.o (aD w'.heap.size 0) 1 1 [sT nm,sT ow] rfl rfl (ZP.news N6.o) (by simp [Value.oneCell']) (by unfold maxLen;omega) (by omega) (by omega) ?_
  intro A7 c7 L aO af;have ao:ZS [89] w6 L:=ZS.grown O6.o af.o (by simp) af.o.size;have ay:Hid (ZS [89] w L):=hid ((ZS.ZA Z.o lr).trans ao);have aw:Hid (Below base w L):=hid ((Z.o.mono aE).grown af.o (by omega) (ZD O6.o));have be:=af.o.size;have M:=hid (HP.o.keeps ay.o (by decide));have aF: ∀ c f u,c<base->w.cell? (aD c f)=some u->L.cell? (aD c f)=some u:=fun c f u hc hu=>ct hu aw.o hc
  have d:=(show (fun w'=>w'.cell? (aD p 0)=some (.slice B0 o.Z7.length l0)/\w'.cell? (aD c1 0)=some (sT nm)/\w'.cell? (aD c2 0)=some (sT ow)) L from ⟨M.o.cell 0,aF _ _ _ (by omega) a2,aF _ _ _ (by omega) a3⟩)
  refine s.out _ _ d ?_
  clear s K;(try simp only [pp])
  refine UK 10 39 fun K s=> ?_
  go_simp;refine s.out _ _ d ?_
  clear s K;(try simp only [pp])
  refine UK 11 40 fun K s=> ?_
  go_simp;refine s.out _ _ d ?_
  clear s K;(try simp only [pp])
  refine Yt.WR (i:=12) (o:=⟨none,_,_,_,_,_⟩) (by kernel_rfl) rfl rfl (fun K s=> ?_)
  have e7:=ce M 0;have f7:=M.o.frozen 0;go_simp;refine s.out _ _ (Yt.done (by kernel_rfl) ?_ _);clear s K;refine Qv _ fun W9 E=> ?_
  have P9:=rB E (M.o.Zx 0 _);have ab:Hid (ZS [26] L W9):=hid (by rw [E];exact ZS.Zx M.o.Xr (by simp) _);have aL:Hid (Below base w W9):=hid (by rw [E];exact aw.o.setCell aW _);have e9:=ce P9 0;clear E e7 f7 d aG;have aP:Hid (W9.ownsRow base 89 2 (.slice A7 (o.Z7 ++ [(⟨nm,ow⟩:Sc)]).length c7) (o.Z7 ++ [(⟨nm,ow⟩:Sc)]).length ((o.Z7 ++ [(⟨nm,ow⟩:Sc)]).flatMap Sc.cs)):=hid (by
   have j:=aO.o.keeps ab.o (by decide);rw [List.length_append,List.flatMap_append];simpa [Sc.cs] using j)
  have ak:=Lm base (o.Z7 ++ [(⟨nm,ow⟩:Sc)]) A7 c7 W9 aP.o (by simp) (by simp;omega);rw [show (o.Z7 ++ [(⟨nm,ow⟩:Sc)]).length=o.Z7.length+1 from by simp] at ak;go_wp2_with fail;refine ak.mono ?_
  rintro e az ⟨rfl,l',av,aJ,aH,aA,ar,aS⟩;have HF:Hid (TT none w base p (Vk o nm ow) (.returned (i6 0)) az):=hid (by
   have au:l'.length=o.Z7.length+1:=by rw [av.length_eq];simp
   have an:ZS [89,26] w az:=((ay.o.X6 (by simp)).trans (ab.o.X6 (by simp))).trans (ar.X6 (by simp));refine⟨0,⟨l',o.Z8⟩,A7,c7,B1,l1,rfl,aj.o l' (by simp) (by simp) aK.o (by omega) av aJ,by rw [au];exact P9.o.keeps ar (by decide),⟨OR (T:=0) (base:=base) (c:=c7) (by rw [au];simpa [au] using aH),?_⟩,(aL.o.trans aA).x _⟩
   have j:=ac.o.tb.YW (S':=Xs w [73,119,40,9]) (fun k hk=>hk.Rp (fun _ h=>h)) (fun _ _=>rfl);exact(ZI j an (by decide)).YW (fun k ⟨t,j,D⟩=>⟨t,List.mem_cons_of_mem _ j,D⟩) (fun _ _=>rfl))
  clear av aJ aH aA ar aS ak;go_wp2;go_ret;exact HF.o
theorem Mj (o:Ob)(nm:lU)(c1:Nat)(w0:World)(K:o.Zo 1099511627776)(d:ZP w0 c1 9 [sT nm]):On none 197 #[pT c1] o w0 (UW o nm):=by
 intro w base p B0 l0 B1 l1 ts b ai U N aj m aB az;have ak:=Qs N aj;have aP:=U.size;have aC:=m.lt;have D:=hid N;have HP:=hid m;have aI:=hid K;have ap:=K.1;have aE:=K.2.1;have a0:w.cell? (aD p 0)=some (.slice B0 o.Z7.length l0):=m.cell 0;have a1:w.cell? (aD p 1)=some (.slice B1 o.Z8.length l1):=m.cell 1;have aL:=fun i=>m.frozen i
 have H1:=hid (d.below U d.lt);have aJ:=d.lt;have ad:Hid (∀ er W,er≠0->Bw w W->TT none w base p (UW o nm) (.returned (i6 er)) W):=hid fun er W h E=>Sn D.o ak HP.o E (Or.inl ⟨h,rfl⟩)
 have ab:Hid (∀ k,Xd o.Z7 nm=some k->X9 o nm=0->UW o nm 0 ⟨o.Z7.eraseIdx k,o.Z8⟩):=hid fun k d E=>Or.inr ⟨rfl,k,d,E,rfl⟩
 have a2:=ce H1 0;have aa:Hid (∀ u w2,(fun w'=>Bw w w'/\w'.cell? (aD p 0)=some (.slice B0 o.Z7.length l0)/\w'.cell? (aD p 1)=some (.slice B1 o.Z8.length l1)/\w'.cell? (aD c1 0)=some (sT nm)) u->Bw u w2->(fun w'=>Bw w w'/\w'.cell? (aD p 0)=some (.slice B0 o.Z7.length l0)/\w'.cell? (aD p 1)=some (.slice B1 o.Z8.length l1)/\w'.cell? (aD c1 0)=some (sT nm)) w2):=hid (by
  intro u w2 ⟨d,g0,g1,g2⟩ J;exact⟨d.trans (J.mono d.size),(J.cell (World.block_lt_of_cell? u _ g0)).trans g0,(J.cell (World.block_lt_of_cell? u _ g1)).trans g1,(J.cell (World.block_lt_of_cell? u _ g2)).trans g2⟩)
 have au:Hid (∀ W,Bw w W->cQ 159 #[.slice B0 o.Z7.length l0,sT nm,.func (.func 160) #[] #[]] W fun e w'=>e= .returned (.int .i64 (WS (Xd o.Z7 nm)))/\Bw W w'):=hid (by
  intro W hW;have V:=VO (o.Z7.map Sc.da) B0 l0 nm W (D.o.r.sc.later hW) (by simpa using ap);rwa [List.length_map,Te] at V)
 have ax:Hid (∀ W,Bw w W->cQ 108 #[.agg #[.slice B0 o.Z7.length l0,.slice B1 o.Z8.length l1],sT nm] W fun e w'=>e= .returned (i6 (X9 o nm))/\Bw W w'):=hid (by
  intro W hW;have V:=SB (o.Z7.map Sc.da) (o.Z8.map Tb.da) B0 l0 B1 l1 nm W (D.o.r.tb.later hW) (by simpa using aE);rwa [List.length_map,List.length_map,OK] at V)
 have M:Bw w w.drew:=br.drew;clear N aj m az U d K;generalize X9 o nm=G at*;go_enter func197,ntmps197
 go_upto_region 1 with fail
 go_region_held_law (fun w'=>Bw w w'/\w'.cell? (aD p 0)=some (.slice B0 o.Z7.length l0)/\w'.cell? (aD p 1)=some (.slice B1 o.Z8.length l1)/\w'.cell? (aD c1 0)=some (sT nm))
  (first | exact aa.o _ _ (by assumption) (by assumption) | exact⟨M,a0,a1,a2⟩)
  (first | (go_at_call 159;refine(au.o _ (by first | exact M | assumption)).mono ?_;rintro e w' ⟨rfl,hb⟩))
 rename_i F
 cases hat:Xd o.Z7 nm with
 | none=>
  have hb:=F.1;rw [show WS (none:Option Nat)= -1 from rfl];clear F;go_wp2;go_ret;exact ad.o 61 _ (by decide) hb
 | some k=>
  have aq:=hid hat;obtain⟨an,_⟩:=Wt (show o.Z7.findIdx? (fun s=>s.name == nm)=some k from hat);clear hat;have hk:(0:Int)<=(k:Int):=by omega
  have aK: ¬ (k:Int)<0:=by omega
  rw [show WS (some k)=(k:Int) from rfl];obtain⟨L,Z,d1,d2⟩:=F;have aH:=hid L;have ag:=L.drew;clear L M;go_upto_region 4 with fail
  go_region_held_law (fun w'=>Bw w w'/\w'.cell? (aD p 0)=some (.slice B0 o.Z7.length l0)/\w'.cell? (aD p 1)=some (.slice B1 o.Z8.length l1)/\w'.cell? (aD c1 0)=some (sT nm))
   (first | exact aa.o _ _ (by assumption) (by assumption) | exact⟨ag,Z,d1,d2⟩)
   (first | (go_at_call 108;refine(ax.o _ (by first | exact ag | assumption)).mono ?_;rintro e w' ⟨rfl,hb⟩))
  rename_i F;clear Z d1 d2;obtain⟨ae,Z,d1,d2⟩:=F;have j:=hid ae;clear ae;by_cases hwn:G=0
  case neg=>
   have aF:(G:Int) > 0:=by omega
   have aG:(0:Int)< (G:Int):=by omega
   go_wp2;go_ret;exact ad.o 62 _ (by decide) j.o
  have ay:=hid hwn;have aF: ¬ (G:Int) > 0:=by omega
  have aG: ¬ (0:Int)< (G:Int):=by omega
  clear hwn;have O6:=hid (D.o.Z7.ZC j.o);have aO:IntKind.i64.wrap ((k:Int)+1)=(k:Int)+1:=by
   simp [IntKind.wrap,IntKind.bits,IntKind.signed];omega
  go_wp2_with fail;refine(OB base o.Z7 B0 l0 k _ O6.o an ap).mono ?_
  rintro e C ⟨rfl,ao,ah,O,aA⟩;have aw:=hid ao;have aM:=j.o.size;have I:=hid ((HP.o.below j.o aC).keeps O (by decide));have av:Hid (ZS [89] w C):=hid ((ZS.ZA j.o lr).trans O);have ar:Hid (Below base w C):=hid ((j.o.mono ak).trans ah);have e7:=ce I 0;have f7:=I.o.frozen 0;have HF:Hid (∀ W,W=C.setCell (aD p 0) (.slice B0 (o.Z7.length - 1:Nat) l0)->TT none w base p (UW o nm) (.returned (i6 0)) W):=hid (by
   rintro W rfl;have am:(o.Z7.eraseIdx k).length=o.Z7.length - 1:=List.length_eraseIdx_of_lt an;have af:ZS [26] C (C.setCell (aD p 0) (.slice B0 (o.Z7.length - 1:Nat) l0)):=ZS.Zx I.o.Xr (by simp) _;have ac:ZS [89,26] w (C.setCell (aD p 0) (.slice B0 (o.Z7.length - 1:Nat) l0)):=(av.o.X6 (by simp)).trans (af.X6 (by simp));refine⟨0,⟨o.Z7.eraseIdx k,o.Z8⟩,B0,l0,B1,l1,rfl,ab.o k aq.o ay.o,by rw [am];exact I.o.Zx 0 _,⟨OR (T:=0) (base:=base) (c:=l0) (by rw [am];exact aw.o.keeps af (by decide)),?_⟩,(ar.o.setCell aB _).x _⟩;have d:=D.o.tb.YW (S':=Xs w [73,119,40,9]) (fun k hk=>hk.Rp (fun _ h=>h)) (fun _ _=>rfl);exact(ZI d ac (by decide)).YW (fun k ⟨t,d,E⟩=>⟨t,List.mem_cons_of_mem _ d,E⟩) (fun _ _=>rfl))
  clear ao ah O aA;go_wp2;go_ret;exact HF.o _ rfl
def Kg (a b c d:Bool)(n:Nat)(m r:Bool):Bool:=a && b && c && d && decide (n<8) && m && r
def UL (o:Ob)(t:Tb)(er:Int)(o':Ob):Prop:=(er≠0/\o'=o/\Kg (Zw t.name) (Zw t.ZN) (Xd o.Z7 t.Z9).isSome (XA o t.Z9 t.name).isNone (X9 o t.Z9) (YJ t.Z3) (decide (t.ZW.length=0))=false)∨
 (er=0/\Zw t.name=true/\Zw t.ZN=true/\(Xd o.Z7 t.Z9).isSome=true/\XA o t.Z9 t.name=none/\X9 o t.Z9<8/\YJ t.Z3=true/\t.ZW= []/\
  ∃ ts':List Tb,ts'.Perm (o.Z8 ++ [t])/\(∀ (a b:Nat) (ha:a<ts'.length) (hb:b<ts'.length),a<b->0<=Xg ts'[b] ts'[a])/\o'=⟨o.Z7,ts'⟩)
theorem KX (o:Ob)(t:Tb)(X:oA)(x:Nat)(Y:oA)(y:Nat)(c1:Nat)(w0:World)(ho:o.Zo 1099511627776)(ht:t.Zo 1099511627776)(E:ZP w0 c1 73 [(sT t.Z9),(sT t.name),(sT t.ZN),(.slice X t.Z3.length x),(.slice Y t.ZW.length y)])(hX:rA w0 Zz (t.Z3.map Cl.da) X)(hY:rA w0 YF (t.ZW.map Ru.da) Y):On none 199 #[pT c1] o w0 (UL o t):=by
 intro w base p B0 l0 B1 l1 ts b aU ap aL aV hp bB aX;have aW:=Qs aL aV;have bS:=ap.size;have bC:=hp.lt;have U:=hid aL;have HP:=hid hp;have bK:=hid ho;have bF:=ho.1;have a8:=ho.2.1;have a0:w.cell? (aD p 0)=some (sl B0 o.Z7 l0):=hp.cell 0;have a1:w.cell? (aD p 1)=some (sl B1 o.Z8 l1):=hp.cell 1;have bM:=fun i=>hp.frozen i
 have H1:=hid (E.below ap E.lt);have HX:=hid (hX.later ap);have HY:=hid (hY.later ap);have bk:=hid ht;have bL:=E.lt;have bq:=ht.1;have bG:o.Z8.length<=64:=by
  have h:=aX;unfold Zc at h;simp only [Bool.and_eq_true,decide_eq_true_eq] at h;exact h.1.1.1.1.2
 have ae:Hid (∀ er W,er≠0->Kg (Zw t.name) (Zw t.ZN) (Xd o.Z7 t.Z9).isSome (XA o t.Z9 t.name).isNone (X9 o t.Z9) (YJ t.Z3) (decide (t.ZW.length=0))=false->Bw w W->TT none w base p (UL o t) (.returned (i6 er)) W):=hid fun er W h E h2=>Sn U.o aW HP.o h2 (Or.inl ⟨h,rfl,E⟩)
 have aB:Hid (∀ ts':List Tb,Zw t.name=true->Zw t.ZN=true->(Xd o.Z7 t.Z9).isSome=true->XA o t.Z9 t.name=none->X9 o t.Z9<8->YJ t.Z3=true->t.ZW= []->ts'.Perm (o.Z8 ++ [t])->(∀ (a b:Nat) (ha:a<ts'.length) (hb:b<ts'.length),a<b->0<=Xg ts'[b] ts'[a])->UL o t 0 ⟨o.Z7,ts'⟩):=hid fun ts' E h2 h3 h4 h5 d h7 h8 h9=>Or.inr ⟨rfl,E,h2,h3,h4,h5,d,h7,ts',h8,h9,rfl⟩
 have M:=a0;have N:=a1;have G:=ce H1 0;have I:=ce H1 1;have F:=ce H1 2;have J:=ce H1 3;have L:=ce H1 4;have O:=hid (show w.cell? (aD c1 0)=some (sT t.Z9)/\w.cell? (aD c1 1)=some (sT t.name)/\w.cell? (aD c1 2)=some (sT t.ZN)/\w.cell? (aD c1 3)=some (sl X t.Z3 x)/\w.cell? (aD c1 4)=some (sl Y t.ZW y) from ⟨G,I,F,J,L⟩);have ab:Hid (∀ s V,(fun w'=>Bw w w'/\w'.cell? (aD p 0)=some (sl B0 o.Z7 l0)/\w'.cell? (aD p 1)=some (sl B1 o.Z8 l1)/\w'.cell? (aD c1 0)=some (sT t.Z9)/\w'.cell? (aD c1 1)=some (sT t.name)/\w'.cell? (aD c1 2)=some (sT t.ZN)/\w'.cell? (aD c1 3)=some (sl X t.Z3 x)/\w'.cell? (aD c1 4)=some (sl Y t.ZW y)) s->Bw s V->(fun w'=>Bw w w'/\w'.cell? (aD p 0)=some (sl B0 o.Z7 l0)/\w'.cell? (aD p 1)=some (sl B1 o.Z8 l1)/\w'.cell? (aD c1 0)=some (sT t.Z9)/\w'.cell? (aD c1 1)=some (sT t.name)/\w'.cell? (aD c1 2)=some (sT t.ZN)/\w'.cell? (aD c1 3)=some (sl X t.Z3 x)/\w'.cell? (aD c1 4)=some (sl Y t.ZW y)) V):=hid (by
  intro s V ⟨E,g0,g1,g2,g3,g4,g5,g6⟩ d;exact⟨E.trans (d.mono E.size),(d.cell (World.block_lt_of_cell? s _ g0)).trans g0,(d.cell (World.block_lt_of_cell? s _ g1)).trans g1,(d.cell (World.block_lt_of_cell? s _ g2)).trans g2,(d.cell (World.block_lt_of_cell? s _ g3)).trans g3,(d.cell (World.block_lt_of_cell? s _ g4)).trans g4,(d.cell (World.block_lt_of_cell? s _ g5)).trans g5,(d.cell (World.block_lt_of_cell? s _ g6)).trans g6⟩)
 have bm:Hid (∀ W,Bw w W->cQ 57 #[.agg #[sl B0 o.Z7 l0,sl B1 o.Z8 l1],sT t.Z9,sT t.name] W fun e w'=>e= .returned (.tuple #[.int .i64 (WS (XA o t.Z9 t.name)),.bool (XA o t.Z9 t.name).isSome])/\Bw W w'):=hid (by
  intro W m;have cW:=Us (o.Z7.map Sc.da) (o.Z8.map Tb.da) B0 l0 B1 l1 t.Z9 t.name W (U.o.r.tb.later m) (by simpa using a8);rwa [List.length_map,List.length_map,Ut,Ts] at cW)
 have bc:Hid (∀ W,Bw w W->cQ 159 #[sl B0 o.Z7 l0,sT t.Z9,.func (.func 160) #[] #[]] W fun e w'=>e= .returned (.int .i64 (WS (Xd o.Z7 t.Z9)))/\Bw W w'):=hid (by
  intro W m;have cB:=VO (o.Z7.map Sc.da) B0 l0 t.Z9 W (U.o.r.sc.later m) (by simpa using bF);rwa [List.length_map,Te] at cB)
 have bn:Hid (∀ W,Bw w W->cQ 108 #[.agg #[sl B0 o.Z7 l0,sl B1 o.Z8 l1],sT t.Z9] W fun e w'=>e= .returned (i6 (X9 o t.Z9))/\Bw W w'):=hid (by
  intro W m;have cB:=SB (o.Z7.map Sc.da) (o.Z8.map Tb.da) B0 l0 B1 l1 t.Z9 W (U.o.r.tb.later m) (by simpa using a8);rwa [List.length_map,List.length_map,OK] at cB)
 have bz:=fun W=>YI t.name W
 have bA:=fun W=>YI t.ZN W
 have bv:=fun W h=>TD t.Z3 X x W h bq
 have ak:Bw w w.drew:=br.drew;clear aL aV hp aX ap E ho hX hY ht a0 a1;generalize Zw t.name=n1 at*;generalize Zw t.ZN=n2 at*;generalize YJ t.Z3=mc at*;generalize X9 o t.Z9=wn at*;generalize XA o t.Z9 t.name=ta at*;go_enter func199,ntmps199
 go_upto_region 1 with fail
 go_region_held_law (fun w'=>Bw w w'/\w'.cell? (aD p 0)=some (sl B0 o.Z7 l0)/\w'.cell? (aD p 1)=some (sl B1 o.Z8 l1)/\w'.cell? (aD c1 0)=some (sT t.Z9)/\w'.cell? (aD c1 1)=some (sT t.name)/\w'.cell? (aD c1 2)=some (sT t.ZN)/\w'.cell? (aD c1 3)=some (sl X t.Z3 x)/\w'.cell? (aD c1 4)=some (sl Y t.ZW y))
  (first | exact ab.o _ _ (by assumption) (by assumption) | exact⟨ak,M,N,G,I,F,J,L⟩)
  (first | (go_at_call 57;refine(bm.o _ (by first | exact ak | assumption)).mono ?_;rintro e w' ⟨rfl,hb⟩))
 rename_i hS;clear M N G I F J L;obtain⟨aF,M,N,G,I,F,J,L⟩:=hS;have ax:=hid aF;have aI:=aF.drew;clear aF;go_wp2_with fail;refine(bz _).mono ?_
 rintro e V ⟨rfl,m1,rfl⟩;have aO:Hid (Bw w (w'.drewN m1)):=hid (below_drewN ax.o m1)
 cases n1
 ·clear aI ak;go_wp2;go_ret;exact ae.o 1 _ (by decide) rfl aO.o
 have b4:(w'.drewN m1).cell? (aD c1 2)=some (sT t.ZN):=F;go_wp2_with fail;refine(bA _).mono ?_
 rintro e V ⟨rfl,m2,rfl⟩;have az:Hid (Below w.heap.size w (w'.drewN (m1+m2))):=hid (below_drewN ax.o (m1+m2))
 cases n2
 ·clear aI ak;go_wp2;go_ret;exact ae.o 1 _ (by decide) rfl az.o
 clear b4 aI;go_upto_region 4 with fail
 refine Wh _ fun W m=> ?_
 have aJ:Bw w W:=by rw [m];exact az.o
 have e0:W.cell? (aD p 0)=some (sl B0 o.Z7 l0):=by rw [m];exact M
 have e1:W.cell? (aD p 1)=some (sl B1 o.Z8 l1):=by rw [m];exact N
 have e2:W.cell? (aD c1 0)=some (sT t.Z9):=by rw [m];exact G
 have e3:W.cell? (aD c1 1)=some (sT t.name):=by rw [m];exact I
 have e4:W.cell? (aD c1 2)=some (sT t.ZN):=by rw [m];exact F
 have e5:W.cell? (aD c1 3)=some (sl X t.Z3 x):=by rw [m];exact J
 have e6:W.cell? (aD c1 4)=some (sl Y t.ZW y):=by rw [m];exact L
 clear m M N G I F J L ax aO az ak;have M:=e0;have N:=e1;have G:=e2;have I:=e3;have F:=e4;have J:=e5;have L:=e6;have bJ:=hid aJ;have am:=aJ.drew;clear aJ e0 e1 e2 e3 e4 e5 e6;go_region_held_law (fun w'=>Bw w w'/\w'.cell? (aD p 0)=some (sl B0 o.Z7 l0)/\w'.cell? (aD p 1)=some (sl B1 o.Z8 l1)/\w'.cell? (aD c1 0)=some (sT t.Z9)/\w'.cell? (aD c1 1)=some (sT t.name)/\w'.cell? (aD c1 2)=some (sT t.ZN)/\w'.cell? (aD c1 3)=some (sl X t.Z3 x)/\w'.cell? (aD c1 4)=some (sl Y t.ZW y))
  (first | exact ab.o _ _ (by assumption) (by assumption) | exact⟨am,M,N,G,I,F,J,L⟩)
  (first | (go_at_call 159;refine(bc.o _ (by first | exact am | assumption)).mono ?_;rintro e w' ⟨rfl,hb⟩))
 rename_i hS
 cases hat:Xd o.Z7 t.Z9 with
 | none=>
  have hb:=hS.1;rw [show WS (none:Option Nat)= -1 from rfl];clear hS;go_wp2;go_ret;exact ae.o 61 _ (by decide) (by rw [hat];rfl) hb
 | some k=>
  have aw:=hid hat;clear hat;have hk: ¬ (k:Int)<0:=by omega
  rw [show WS (some k)=(k:Int) from rfl];clear M N G I F J L;obtain⟨aG,M,N,G,I,F,J,L⟩:=hS;have ba:=hid aG;have an:=aG.drew;clear aG
  cases ta with
  | some j=>
   clear an am;go_wp2;go_ret;exact ae.o 60 _ (by decide) (by rw [aw.o];rfl) ba.o
  | none=>
  go_upto_region 8 with fail
  go_region_held_law (fun w'=>Bw w w'/\w'.cell? (aD p 0)=some (sl B0 o.Z7 l0)/\w'.cell? (aD p 1)=some (sl B1 o.Z8 l1)/\w'.cell? (aD c1 0)=some (sT t.Z9)/\w'.cell? (aD c1 1)=some (sT t.name)/\w'.cell? (aD c1 2)=some (sT t.ZN)/\w'.cell? (aD c1 3)=some (sl X t.Z3 x)/\w'.cell? (aD c1 4)=some (sl Y t.ZW y))
   (first | exact ab.o _ _ (by assumption) (by assumption) | exact⟨an,M,N,G,I,F,J,L⟩)
   (first | (go_at_call 108;refine(bn.o _ (by first | exact an | assumption)).mono ?_;rintro e w' ⟨rfl,hb⟩))
  rename_i hS;clear M N G I F J L;obtain⟨aH,M,N,G,I,F,J,L⟩:=hS;have Z:=hid aH;have aR:=aH.drew;clear aH;by_cases h8:8<=wn
  ·have bo:(wn:Int)>=8:=by omega
   have aE:(8:Int)<=(wn:Int):=by omega
   clear aR an am;go_wp2;go_ret;exact ae.o 2 _ (by decide) (by rw [aw.o];simp [Kg,Nat.not_lt.2 h8]) Z.o
  have bo: ¬ (wn:Int)>=8:=by omega
  have aE: ¬ (8:Int)<=(wn:Int):=by omega
  clear aR an am;go_wp2_with fail;refine(bv _ (HX.o.later Z.o)).mono ?_
  rintro e W7 ⟨rfl,aT⟩;have af:=bt Z aT;clear aT
  cases mc
  ·go_wp2;go_ret;exact ae.o 63 _ (by decide) (by simp [Kg]) af.o
  have f4:W7.cell? (aD c1 4)=some (sl Y t.ZW y):=(af.o.cell (p:=(aD c1 4)) (by show c1<_;omega)).trans O.o.2.2.2.2;by_cases hr0:t.ZW.length > 0
  ·have bj:Hid (decide (t.ZW.length=0)=false):=hid (by simp only [decide_eq_false_iff_not];omega);have bD:(t.ZW.length:Int) > 0:=by omega
   have bE:(0:Int)< (t.ZW.length:Int):=by omega
   go_wp2;go_ret;exact ae.o 63 _ (by decide) (by rw [bj.o];simp [Kg]) af.o
  have bi:Hid (t.ZW= []):=hid (List.eq_nil_of_length_eq_zero (by omega));have bD: ¬ (t.ZW.length:Int) > 0:=by omega
  have bE: ¬ (0:Int)< (t.ZW.length:Int):=by omega
  go_upto_region 12 with fail
  have q1:=cd (HP.o.below af.o bC) 1;have hc:=fun f=>af.o.cell (p:=(aD c1 f)) (by show c1<_;omega)
  have aM:Hid (∀ s V,(fun w'=>w'.cell? (aD p 1)=some (sl B1 o.Z8 l1)/\w'.cell? (aD c1 0)=some (sT t.Z9)/\w'.cell? (aD c1 1)=some (sT t.name)/\w'.cell? (aD c1 2)=some (sT t.ZN)/\w'.cell? (aD c1 3)=some (sl X t.Z3 x)/\w'.cell? (aD c1 4)=some (sl Y t.ZW y)) s->Bw s V->(fun w'=>w'.cell? (aD p 1)=some (sl B1 o.Z8 l1)/\w'.cell? (aD c1 0)=some (sT t.Z9)/\w'.cell? (aD c1 1)=some (sT t.name)/\w'.cell? (aD c1 2)=some (sT t.ZN)/\w'.cell? (aD c1 3)=some (sl X t.Z3 x)/\w'.cell? (aD c1 4)=some (sl Y t.ZW y)) V):=hid (by
   intro s V ⟨g0,g1,g2,g3,g4,g5⟩ d;exact⟨(d.cell (World.block_lt_of_cell? s _ g0)).trans g0,(d.cell (World.block_lt_of_cell? s _ g1)).trans g1,(d.cell (World.block_lt_of_cell? s _ g2)).trans g2,(d.cell (World.block_lt_of_cell? s _ g3)).trans g3,(d.cell (World.block_lt_of_cell? s _ g4)).trans g4,(d.cell (World.block_lt_of_cell? s _ g5)).trans g5⟩)
  refine Ys 11 (S:=fun w'=>w'.cell? (aD p 1)=some (sl B1 o.Z8 l1)/\w'.cell? (aD c1 0)=some (sT t.Z9)/\w'.cell? (aD c1 1)=some (sT t.name)/\w'.cell? (aD c1 2)=some (sT t.ZN)/\w'.cell? (aD c1 3)=some (sl X t.Z3 x)/\w'.cell? (aD c1 4)=some (sl Y t.ZW y)) (by kernel_rfl) ⟨q1,(hc 0).trans O.o.1,(hc 1).trans O.o.2.1,(hc 2).trans O.o.2.2.1,(hc 3).trans O.o.2.2.2.1,(hc 4).trans O.o.2.2.2.2⟩ (fun C=> ?_)
  clear hc;(try simp only [pp])
  refine WZ 0 58 C ?_;refine WZ 1 59 C ?_;refine WZ 2 60 C ?_;refine WZ 3 61 C ?_;refine WZ 4 62 C ?_;refine WZ 5 63 C ?_;refine UK 6 64 fun K D=> ?_
  go_simp;go_at_call 58
  have aa:Bw w W7.drew:=af.o.drew;refine(SM t X x Y y W7.drew (HX.o.later aa) (HY.o.later aa) bk.o).mono ?_
  rintro e W8 ⟨X',x',Y',y',rfl,a7,aK⟩;have bf:=hid a7;have bb:=hid (aa.trans (aK.mono aa.size));have C:=aM.o _ _ C aK;clear a7 aK aa;unfold Tb.cs;dsimp only;refine D.out _ _ C ?_
  clear D K;(try simp only [pp])
  refine UK 7 65 fun K D=> ?_
  go_simp;refine Fe _ fun w6 d=> ?_
  have aA:Bw W8 w6:=by rw [d];exact br.alloc lr _
  have N6:=nC d;clear d;have Z:=bt bb aA;have bd:=hid (bf.o.below aA);have C:=aM.o _ _ C aA;refine D.out _ _ C ?_
  clear D K;(try simp only [pp])
  refine UK 8 66 fun K D=> ?_
  have O6:=hid (U.o.Z8.ZC Z.o);obtain⟨i0,bu,bH,aq,bI⟩:=info_parts Vc;have bN:=Z.o.size;refine Ux rfl _ _ _ rfl base 73 i0 _ 5 96 underlying24 bu bH aq bI rfl (by decide) (sl B1 o.Z8 l1) o.Z8.length _ rfl O6.o (aN W8 0) 1 1 [sT t.Z9,sT t.name,sT t.ZN,sl X' t.Z3 x',sl Y' t.ZW y'] rfl rfl (ZP.news N6.o) (by simp [Value.oneCell']) (by unfold maxLen;omega) (by omega) (by omega) ?_
  intro A7 c7 w7 bg ar;have ai:ZS [73] w6 w7:=ZS.grown O6.o ar.o (by simp) ar.o.size;have aQ:Hid (ZS [73] w w7):=hid ((ZS.ZA Z.o lr).trans ai);have aP:Hid (Below base w w7):=hid ((Z.o.mono aW).grown ar.o (by omega) (ZD O6.o));have be:=hid (bd.o.keeps ai (by decide) (by decide) (by decide));have bO:=ar.o.size;have P7:=hid (HP.o.keeps aQ.o (by decide));have ao: ∀ f u,w.cell? (aD c1 f)=some u->w7.cell? (aD c1 f)=some u:=fun f u hu=>(aP.o.cell (p:=(aD c1 f)) (by show c1<base;omega)).trans hu
  have C:=(show (fun w'=>w'.cell? (aD p 1)=some (sl B1 o.Z8 l1)/\w'.cell? (aD c1 0)=some (sT t.Z9)/\w'.cell? (aD c1 1)=some (sT t.name)/\w'.cell? (aD c1 2)=some (sT t.ZN)/\w'.cell? (aD c1 3)=some (sl X t.Z3 x)/\w'.cell? (aD c1 4)=some (sl Y t.ZW y)) w7 from ⟨P7.o.cell 1,ao _ _ O.o.1,ao _ _ O.o.2.1,ao _ _ O.o.2.2.1,ao _ _ O.o.2.2.2.1,ao _ _ O.o.2.2.2.2⟩)
  refine D.out _ _ C ?_
  clear D K;(try simp only [pp])
  refine UK 9 67 fun K D=> ?_
  go_simp;refine D.out _ _ C ?_
  clear D K;(try simp only [pp])
  refine UK 10 68 fun K D=> ?_
  go_simp;refine D.out _ _ C ?_
  clear D K;(try simp only [pp])
  refine Yt.WR (i:=11) (o:=⟨none,_,_,_,_,_⟩) (by kernel_rfl) rfl rfl (fun K D=> ?_)
  have e7:=ce P7 1;have f7:=P7.o.frozen 1;go_simp;refine D.out _ _ (Yt.done (by kernel_rfl) ?_ _);clear D K;refine Qv _ fun W9 m=> ?_
  have P9:=rB m (P7.o.Zx 1 _);have ad:Hid (ZS [26] w7 W9):=hid (by rw [m];exact ZS.Zx P7.o.Xr (by simp) _);have ay:Hid (Below base w W9):=hid (by rw [m];exact aP.o.setCell bB _);have e9:=ce P9 1;clear m e7 f7 C aM;have ac:ts.length=o.Z8.length:=by rw [<-U.o.data,List.length_map]
  have bh:Hid (W9.ownsRow base 73 5 (.slice A7 (ts ++ [((t,X',x',Y',y'):YX)]).length c7) (ts ++ [((t,X',x',Y',y'):YX)]).length ((ts ++ [((t,X',x',Y',y'):YX)]).flatMap YX.cs)):=hid (by
   have E:=bg.o.keeps ad.o (by decide);rw [List.length_append,List.flatMap_append,ac];simpa [YX.cs,Tb.cs] using E)
  have aC:=JS base (ts ++ [((t,X',x',Y',y'):YX)]) A7 c7 W9 bh.o (by simp) (by simp;omega);rw [show (ts ++ [((t,X',x',Y',y'):YX)]).length=o.Z8.length+1 from by simp [ac]] at aC;go_wp2_with fail;refine aC.mono ?_
  rintro e ag ⟨rfl,l',av,a6,aZ,aS,au,bs⟩;have HF:Hid (TT none w base p (UL o t) (.returned (i6 0)) ag):=hid (by
   have aY:l'.length=o.Z8.length+1:=by rw [av.length_eq];simp [ac]
   have ah:ZS [73,26] w ag:=((aQ.o.X6 (by simp)).trans (ad.o.X6 (by simp))).trans (au.X6 (by simp));have aj:ZS [73,26] w7 ag:=(ad.o.X6 (by simp)).trans (au.X6 (by simp));have hP:=av.map (·.1);rw [List.map_append,U.o.data] at hP;refine⟨0,⟨o.Z7,l'.map (·.1)⟩,B0,l0,A7,c7,rfl,aB.o (l'.map (·.1)) (by simp) (by simp) (by rw [aw.o];rfl) (by simp) (by omega) (by simp) bi.o hP (fun a b ha hb bp=> ?_),by rw [List.length_map,aY];exact P9.o.keeps au (by decide),⟨OR (T:=0) (base:=base) (c:=l0) (U.o.Z7.keeps ah (by decide)),?_⟩,(ay.o.trans aS).x _⟩
   ·rw [List.getElem_map,List.getElem_map];exact a6 a b (by simpa using ha) (by simpa using hb) bp
   ·have E:=Ye (n:=l'.length) (A:=A7) (c:=c7) (S:=Xs ag OT) (sh:=Zn) Tb.da (·.1) YX.k (show ag.ownsRow base 73 5 (.slice A7 l'.length c7) l'.length (l'.flatMap YX.cs) from by simpa [aY,ac] using aZ) rfl (fun z hz=>by
     rcases List.mem_append.1 (av.subset hz) with aq | aq
     ·obtain⟨j,hj,rfl⟩:=List.getElem_of_mem aq;exact ZE.YW (fun k hk=>hk.Rp (by simp [OT])) (fun _ _=>rfl) _ _ _ ((U.o.tab j hj).2.keeps ah (by decide) (by decide) (by decide)).VW
     ·rw [List.mem_singleton.1 aq];exact ZE.YW (fun k hk=>hk.Rp (by simp [OT])) (fun _ _=>rfl) _ _ _ (be.o.keeps aj (by decide) (by decide) (by decide)).VW)
    exact E.YW (fun k hk=>hk.elim id (fun h=>h.Rp (by simp [OT]))) (fun _ _=>rfl))
  clear av a6 aZ aS au bs aC;go_wp2;go_ret;exact HF.o
theorem Y6.o {B:Nat}{w w':World}(h:Y6 B none w w'):Below B w w':=h.low lr (by simp)
def Gi (o:Ob)(R:Int->Ob->Prop)(w:World)(e:Ending)(w':World):Prop:= ∃ er o' C0 m0 C1 m1,e= .returned (.tuple #[.agg #[.slice C0 o'.Z7.length m0,.slice C1 o'.Z8.length m1],i6 er])/\MM o R er o'/\Nv w' o' C0 C1/\Bw w w'
theorem OE (o:Ob)(d:oA)(k0:Nat)(h:oA)(k1:Nat)(nm ow:lU)(w:World)(E:ME w o d h)(G:o.Zo 1099511627776):
  cQ 138 #[.agg #[.slice d o.Z7.length k0,.slice h o.Z8.length k1],sT nm,sT ow] w (Gi o (Vk o nm ow) w):=by
 have K:=hid E;have D:=hid G;have C:=iN 26 2;clear E G;go_enter func138,ntmps138
 go_wp2_with fail;refine Zi _ fun W j=> ?_
 have m:Hid (Bw w W):=hid (by rw [j];exact((((br.alloc lr _).alloc (by simp) _).alloc (by simp;omega) _).alloc (by simp;omega) _));have q0:ZP W (w.heap.size) 26 [.slice d o.Z7.length k0,.slice h o.Z8.length k1]:=by rw [j];exact(ZP.alloc (ZP.alloc (ZP.alloc (ZP.new w 26 [.slice d o.Z7.length k0,.slice h o.Z8.length k1]) _) _) _)
 have q1:ZP W (w.heap.size+1) 9 [sT nm]:=by rw [j];exact(ZP.alloc (ZP.alloc (by simpa using ZP.new (w.alloc (.cells #[.slice d o.Z7.length k0,.slice h o.Z8.length k1] 26)) 9 [sT nm]) _) _)
 have q2:ZP W (w.heap.size+1+1) 9 [sT ow]:=by rw [j];exact(ZP.alloc (by simpa using ZP.new ((w.alloc (.cells #[.slice d o.Z7.length k0,.slice h o.Z8.length k1] 26)).alloc (.cells #[sT nm] 9)) 9 [sT ow]) _)
 have q3:ZP W (w.heap.size+1+1+1) 26 [.slice none 0 0,.slice none 0 0]:=by rw [j];exact(by simpa using ZP.new (((w.alloc (.cells #[.slice d o.Z7.length k0,.slice h o.Z8.length k1] 26)).alloc (.cells #[sT nm] 9)).alloc (.cells #[sT ow] 9)) 26 [.slice none 0 0,.slice none 0 0])
 clear j;have Q:=hid q3;have aa:=q3.lt;refine(VJ none 194 _ (Vk o nm ow) o d k0 h k1 W (enters_of func194 (by kernel_rfl) rfl) (K.o.later m.o) D.o (KY o nm ow _ _ W D.o q1 q2) (by simp)).mono ?_
 rintro e T ⟨U,o',L,V,M,Z,rfl,F,u,hb⟩;have J:Hid (Bw w T):=hid (m.o.trans (hb.low m.o.size (by simp)));have O:=hid (hb.YK Q.o Q.o.lt (by simp));have N:=hid F;have I:=hid u;clear hb F u m Q q0 q1 q2 q3;go_wp2_with (first | ((refine sO O C ?_);intro wS s) | fail);refine bodyPost_ret (rt (hid s.o.YK) underlying26 C) rfl ?_
 exact⟨U,o',L,V,M,Z,rfl,N.o,I.o.keeps s.o.keeps (by decide),s.o.below J.o (by omega)⟩
theorem PG (o:Ob)(d:oA)(k0:Nat)(h:oA)(k1:Nat)(nm:lU)(w:World)(E:ME w o d h)(G:o.Zo 1099511627776):
  cQ 139 #[.agg #[.slice d o.Z7.length k0,.slice h o.Z8.length k1],sT nm] w (Gi o (UW o nm) w):=by
 have K:=hid E;have D:=hid G;have C:=iN 26 2;clear E G;go_enter func139,ntmps139
 go_wp2_with fail;refine Zi _ fun W j=> ?_
 have m:Hid (Bw w W):=hid (by rw [j];exact(((br.alloc lr _).alloc (by simp) _).alloc (by simp;omega) _));have q0:ZP W (w.heap.size) 26 [.slice d o.Z7.length k0,.slice h o.Z8.length k1]:=by rw [j];exact(ZP.alloc (ZP.alloc (ZP.new w 26 [.slice d o.Z7.length k0,.slice h o.Z8.length k1]) _) _)
 have q1:ZP W (w.heap.size+1) 9 [sT nm]:=by rw [j];exact(ZP.alloc (by simpa using ZP.new (w.alloc (.cells #[.slice d o.Z7.length k0,.slice h o.Z8.length k1] 26)) 9 [sT nm]) _)
 have q2:ZP W (w.heap.size+1+1) 26 [.slice none 0 0,.slice none 0 0]:=by rw [j];exact(by simpa using ZP.new ((w.alloc (.cells #[.slice d o.Z7.length k0,.slice h o.Z8.length k1] 26)).alloc (.cells #[sT nm] 9)) 26 [.slice none 0 0,.slice none 0 0])
 clear j;have Q:=hid q2;have aa:=q2.lt;refine(VJ none 197 _ (UW o nm) o d k0 h k1 W (enters_of func197 (by kernel_rfl) rfl) (K.o.later m.o) D.o (Mj o nm _ W D.o q1) (by simp)).mono ?_
 rintro e T ⟨U,o',L,V,M,Z,rfl,F,u,hb⟩;have J:Hid (Bw w T):=hid (m.o.trans (hb.low m.o.size (by simp)));have O:=hid (hb.YK Q.o Q.o.lt (by simp));have N:=hid F;have I:=hid u;clear hb F u m Q q0 q1 q2;go_wp2_with (first | ((refine sO O C ?_);intro wS s) | fail);refine bodyPost_ret (rt (hid s.o.YK) underlying26 C) rfl ?_
 exact⟨U,o',L,V,M,Z,rfl,N.o,I.o.keeps s.o.keeps (by decide),s.o.below J.o (by omega)⟩
theorem Nq (o:Ob)(d:oA)(k0:Nat)(h:oA)(k1:Nat)(t:Tb)(X:oA)(x:Nat)(Y:oA)(y:Nat)(w:World)(E:ME w o d h)(J:o.Zo 1099511627776)(K:t.Zo 1099511627776)(G:ZT w (· < w.heap.size) Zz (t.Z3.map Cl.da) X)(I:ZT w (· < w.heap.size) YF (t.ZW.map Ru.da) Y):
  cQ 140 #[.agg #[.slice d o.Z7.length k0,.slice h o.Z8.length k1],.agg #[sT t.Z9,sT t.name,sT t.ZN,.slice X t.Z3.length x,.slice Y t.ZW.length y]] w (Gi o (UL o t) w):=by
 have N:=hid E;have D:=hid J;have C:=iN 26 2;have O:=hid K;have T:=hid G;have U:=hid I;clear E J K G I;go_enter func140,ntmps140
 go_wp2_with fail;refine Zi _ fun W m=> ?_
 have j:Hid (Bw w W):=hid (by rw [m];exact(((br.alloc lr _).alloc (by simp) _).alloc (by simp;omega) _));have q0:ZP W (w.heap.size) 26 [.slice d o.Z7.length k0,.slice h o.Z8.length k1]:=by rw [m];exact(ZP.alloc (ZP.alloc (ZP.new w 26 [.slice d o.Z7.length k0,.slice h o.Z8.length k1]) _) _)
 have q1:ZP W (w.heap.size+1) 73 [sT t.Z9,sT t.name,sT t.ZN,.slice X t.Z3.length x,.slice Y t.ZW.length y]:=by rw [m];exact(ZP.alloc (by simpa using ZP.new (w.alloc (.cells #[.slice d o.Z7.length k0,.slice h o.Z8.length k1] 26)) 73 [sT t.Z9,sT t.name,sT t.ZN,.slice X t.Z3.length x,.slice Y t.ZW.length y]) _)
 have q2:ZP W (w.heap.size+1+1) 26 [.slice none 0 0,.slice none 0 0]:=by rw [m];exact(by simpa using ZP.new ((w.alloc (.cells #[.slice d o.Z7.length k0,.slice h o.Z8.length k1] 26)).alloc (.cells #[sT t.Z9,sT t.name,sT t.ZN,.slice X t.Z3.length x,.slice Y t.ZW.length y] 73)) 26 [.slice none 0 0,.slice none 0 0])
 clear m;have Q:=hid q2;have aa:=q2.lt;refine(VJ none 199 _ (UL o t) o d k0 h k1 W (enters_of func199 (by kernel_rfl) rfl) (N.o.later j.o) D.o (KX o t X x Y y _ W D.o O.o q1 (T.o.later j.o) (U.o.later j.o)) (by simp)).mono ?_
 rintro e W2 ⟨er,o',V,m0,Z,m1,rfl,F,u,hb⟩;have M:Hid (Bw w W2):=hid (j.o.trans (hb.low j.o.size (by simp)));have Q2:=hid (hb.YK Q.o Q.o.lt (by simp));have HR:=hid F;have L:=hid u;clear hb F u j Q q0 q1 q2;go_wp2_with (first | ((refine sO Q2 C ?_);intro wS s) | fail);refine bodyPost_ret (rt (hid s.o.YK) underlying26 C) rfl ?_
 exact⟨er,o',V,m0,Z,m1,rfl,HR.o,L.o.keeps s.o.keeps (by decide),s.o.below M.o (by omega)⟩
theorem OF (o:Ob)(d:oA)(k0:Nat)(h:oA)(k1:Nat)(s n:lU)(c:Cl)(w:World)(F:ME w o d h)(I:o.Zo 1099511627776):
  cQ 141 #[.agg #[.slice d o.Z7.length k0,.slice h o.Z8.length k1],sT s,sT n,.agg #[sT c.name,i6 c.ZV,.bool c.null]] w (Gi o (RT o s n (UY o c)) w):=by
 have L:=hid F;have E:=hid I;have D:=iN 26 2;clear F I;go_enter func141,ntmps141
 go_wp2_with fail;refine Zi _ fun W j=> ?_
 have m:Hid (Bw w W):=hid (by rw [j];exact(((br.alloc lr _).alloc (by simp) _).alloc (by simp;omega) _));have q0:ZP W (w.heap.size) 26 [.slice d o.Z7.length k0,.slice h o.Z8.length k1]:=by rw [j];exact(ZP.alloc (ZP.alloc (ZP.new w 26 [.slice d o.Z7.length k0,.slice h o.Z8.length k1]) _) _)
 have q1:ZP W (w.heap.size+1) 119 [sT c.name,i6 c.ZV,.bool c.null]:=by rw [j];exact(ZP.alloc (by simpa using ZP.new (w.alloc (.cells #[.slice d o.Z7.length k0,.slice h o.Z8.length k1] 26)) 119 [sT c.name,i6 c.ZV,.bool c.null]) _)
 have q2:ZP W (w.heap.size+1+1) 26 [.slice none 0 0,.slice none 0 0]:=by rw [j];exact(by simpa using ZP.new ((w.alloc (.cells #[.slice d o.Z7.length k0,.slice h o.Z8.length k1] 26)).alloc (.cells #[sT c.name,i6 c.ZV,.bool c.null] 119)) 26 [.slice none 0 0,.slice none 0 0])
 clear j;have Q:=hid q2;have aa:=q2.lt;refine(Uv none 201 _ (UY o c) o s n d k0 h k1 W (enters_of func201 (by kernel_rfl) rfl) (L.o.later m.o) E.o (MC o s n c _ W E.o q1) (by simp)).mono ?_
 rintro e U ⟨V,o',M,Z,N,m1,rfl,G,C,hb⟩;have K:Hid (Bw w U):=hid (m.o.trans (hb.low m.o.size (by simp)));have T:=hid (hb.YK Q.o Q.o.lt (by simp));have O:=hid G;have J:=hid C;clear hb G C m Q q0 q1 q2;go_wp2_with (first | ((refine sO T D ?_);intro wS u) | fail);refine bodyPost_ret (rt (hid u.o.YK) underlying26 D) rfl ?_
 exact⟨V,o',M,Z,N,m1,rfl,O.o,J.o.keeps u.o.keeps (by decide),u.o.below K.o (by omega)⟩
theorem PH (o:Ob)(d:oA)(k0:Nat)(h:oA)(k1:Nat)(s n nm:lU)(w:World)(F:ME w o d h)(I:o.Zo 1099511627776):
  cQ 142 #[.agg #[.slice d o.Z7.length k0,.slice h o.Z8.length k1],sT s,sT n,sT nm] w (Gi o (RT o s n (VL o nm)) w):=by
 have L:=hid F;have E:=hid I;have D:=iN 26 2;clear F I;go_enter func142,ntmps142
 go_wp2_with fail;refine Zi _ fun W j=> ?_
 have m:Hid (Bw w W):=hid (by rw [j];exact(((br.alloc lr _).alloc (by simp) _).alloc (by simp;omega) _));have q0:ZP W (w.heap.size) 26 [.slice d o.Z7.length k0,.slice h o.Z8.length k1]:=by rw [j];exact(ZP.alloc (ZP.alloc (ZP.new w 26 [.slice d o.Z7.length k0,.slice h o.Z8.length k1]) _) _)
 have q1:ZP W (w.heap.size+1) 9 [sT nm]:=by rw [j];exact(ZP.alloc (by simpa using ZP.new (w.alloc (.cells #[.slice d o.Z7.length k0,.slice h o.Z8.length k1] 26)) 9 [sT nm]) _)
 have q2:ZP W (w.heap.size+1+1) 26 [.slice none 0 0,.slice none 0 0]:=by rw [j];exact(by simpa using ZP.new ((w.alloc (.cells #[.slice d o.Z7.length k0,.slice h o.Z8.length k1] 26)).alloc (.cells #[sT nm] 9)) 26 [.slice none 0 0,.slice none 0 0])
 clear j;have Q:=hid q2;have aa:=q2.lt;refine(Uv none 205 _ (VL o nm) o s n d k0 h k1 W (enters_of func205 (by kernel_rfl) rfl) (L.o.later m.o) E.o (Ng o s n nm _ W E.o q1) (by simp)).mono ?_
 rintro e U ⟨V,o',M,Z,N,m1,rfl,G,C,hb⟩;have K:Hid (Bw w U):=hid (m.o.trans (hb.low m.o.size (by simp)));have T:=hid (hb.YK Q.o Q.o.lt (by simp));have O:=hid G;have J:=hid C;clear hb G C m Q q0 q1 q2;go_wp2_with (first | ((refine sO T D ?_);intro wS u) | fail);refine bodyPost_ret (rt (hid u.o.YK) underlying26 D) rfl ?_
 exact⟨V,o',M,Z,N,m1,rfl,O.o,J.o.keeps u.o.keeps (by decide),u.o.below K.o (by omega)⟩
theorem MB (o:Ob)(d:oA)(k0:Nat)(h:oA)(k1:Nat)(s n:lU)(r:Ru)(j:oA)(D:Nat)(w:World)(L:ME w o d h)(N:o.Zo 1099511627776)(O:r.Zo 1099511627776)(I:Qo r)(G:ZT w (· < w.heap.size) [.Z2] (YV r.Z3) j):
  cQ 143 #[.agg #[.slice d o.Z7.length k0,.slice h o.Z8.length k1],sT s,sT n,.agg #[sT r.name,i6 r.ZV,.slice j r.Z3.length D,i6 r.low,i6 r.ZB,sT r.Z9,sT r.ZZ,sT r.key]] w (Gi o (RT o s n (WP o r)) w):=by
 have Z:=hid L;have K:=hid N;have J:=iN 26 2;have ab:=hid O;have V:=hid I;have aa:=hid G;clear L N O I G;go_enter func143,ntmps143
 go_wp2_with fail;refine Zi _ fun W u=> ?_
 have m:Hid (Bw w W):=hid (by rw [u];exact(((br.alloc lr _).alloc (by simp) _).alloc (by simp;omega) _));have q0:ZP W (w.heap.size) 26 [.slice d o.Z7.length k0,.slice h o.Z8.length k1]:=by rw [u];exact(ZP.alloc (ZP.alloc (ZP.new w 26 [.slice d o.Z7.length k0,.slice h o.Z8.length k1]) _) _)
 have q1:ZP W (w.heap.size+1) 40 [sT r.name,i6 r.ZV,.slice j r.Z3.length D,i6 r.low,i6 r.ZB,sT r.Z9,sT r.ZZ,sT r.key]:=by rw [u];exact(ZP.alloc (by simpa using ZP.new (w.alloc (.cells #[.slice d o.Z7.length k0,.slice h o.Z8.length k1] 26)) 40 [sT r.name,i6 r.ZV,.slice j r.Z3.length D,i6 r.low,i6 r.ZB,sT r.Z9,sT r.ZZ,sT r.key]) _)
 have q2:ZP W (w.heap.size+1+1) 26 [.slice none 0 0,.slice none 0 0]:=by rw [u];exact(by simpa using ZP.new ((w.alloc (.cells #[.slice d o.Z7.length k0,.slice h o.Z8.length k1] 26)).alloc (.cells #[sT r.name,i6 r.ZV,.slice j r.Z3.length D,i6 r.low,i6 r.ZB,sT r.Z9,sT r.ZZ,sT r.key] 40)) 26 [.slice none 0 0,.slice none 0 0])
 clear u;have Q:=hid q2;have ac:=q2.lt;refine(Uv (some (w.heap.size+1)) 209 _ (WP o r) o s n d k0 h k1 W (enters_of func209 (by kernel_rfl) rfl) (Z.o.later m.o) K.o (Nr o s n r j D _ W K.o ab.o V.o q1 (aa.o.later m.o)) (fun c C=>by injection C with C;omega)).mono ?_
 rintro e W2 ⟨er,o',C0,m0,C1,m1,rfl,M,F,hb⟩;have U:Hid (Bw w W2):=hid (m.o.trans (hb.low m.o.size (fun c C=>by injection C with C;omega)))
 have Q2:=hid (hb.YK Q.o Q.o.lt (fun e=>by injection e with e;omega));have HR:=hid M;have T:=hid F;clear hb M F m Q q0 q1 q2;go_wp2_with (first | ((refine sO Q2 J ?_);intro wS E) | fail);refine bodyPost_ret (rt (hid E.o.YK) underlying26 J) rfl ?_
 exact⟨er,o',C0,m0,C1,m1,rfl,HR.o,T.o.keeps E.o.keeps (by decide),E.o.below U.o (by omega)⟩
def Ea (o:Ob)(s n ow:lU)(er:Int)(o':Ob):Prop:=(er=1/\Zw ow=false)∨RT o s n (VX o ow) er o'
theorem RD (o:Ob)(u:oA)(k0:Nat)(C:oA)(k1:Nat)(s n ow:lU)(w:World)(hO:ME w o u C)(ho:o.Zo 1099511627776):
  cQ 127 #[.agg #[.slice u o.Z7.length k0,.slice C o.Z8.length k1],sT s,sT n,sT ow] w (Gi o (Ea o s n ow) w):=by
 have ah:=hid hO;have HO:=hid ho;have J:=iN 26 2;have ad:Hid (Sj o=if Zc o=true then 0 else 63):=hid rfl;clear hO ho;go_enter func127,ntmps127
 go_wp2_with fail;refine Zi _ fun W U=> ?_
 have ae:=bR U;have q0:ZP W (w.heap.size) 26 [.slice u o.Z7.length k0,.slice C o.Z8.length k1]:=by rw [U];exact(ZP.alloc (ZP.alloc (ZP.new w 26 [.slice u o.Z7.length k0,.slice C o.Z8.length k1]) _) _)
 have q1:ZP W (w.heap.size+1) 9 [sT ow]:=by rw [U];exact(ZP.alloc (by simpa using ZP.new (w.alloc (.cells #[.slice u o.Z7.length k0,.slice C o.Z8.length k1] 26)) 9 [sT ow]) _)
 have q2:ZP W (w.heap.size+1+1) 26 [.slice none 0 0,.slice none 0 0]:=by rw [U];exact(by simpa using ZP.new ((w.alloc (.cells #[.slice u o.Z7.length k0,.slice C o.Z8.length k1] 26)).alloc (.cells #[sT ow] 9)) 26 [.slice none 0 0,.slice none 0 0])
 clear U;have O:=ah.o.later ae.o;refine(Vp o u k0 C k1 W O.sc O.tb HO.o).mono ?_
 rintro e E ⟨rfl,hb⟩;have ab:=bt ae hb;have P0:=hid (q0.below hb q0.lt);have P1:=hid (q1.below hb q1.lt);have P2:=hid (q2.below hb q2.lt);clear hb ae q0 q1 q2 O;have K: ∀ F,Bw E F->Hid (cQ 176 #[.agg #[.slice u o.Z7.length k0,.slice C o.Z8.length k1],sT s,sT n,.func (.func 177) #[] #[pT (w.heap.size+1)]] F fun e w'=> ∃ j d G V I Z,e= .returned (.tuple #[.agg #[.slice G d.Z7.length V,.slice I d.Z8.length Z],i6 j])/\MM o (RT o s n (VX o ow)) j d/\Nv w' d G I/\Y6 F.heap.size none F w'):=fun F h3=>hid (Uv none 177 _ (VX o ow) o s n u k0 C k1 F (enters_of func177 (by kernel_rfl) rfl) ((ah.o.later ab.o).later h3) HO.o (Ou o s n ow _ F (P1.o.below h3 P1.o.lt)) (by simp))
 have ai:=P2.o.lt;generalize Sj o=eo at*
 cases hc:Zc o
 ·have ac:=hid hc;rw [hc] at ad;obtain rfl:eo=63:=ad.o;have N:=K E br;clear K hc;have p0:=ce P0 0;have p1:=ce P0 1;go_wp2_with fail;refine N.o.mono ?_
  rintro e W4 ⟨j,d,G,V,I,Z,rfl,T,M,hb⟩;have ag:=bt ab hb.o;have Q2:=hid (P2.o.below hb.o ai);have HR:=hid T;have aa:=hid M;clear hb T M N;go_wp2_with (first | ((refine sO Q2 J ?_);intro wS D) | fail);refine bodyPost_ret (rt (hid D.o.YK) underlying26 J) rfl ?_
  refine⟨j,d,G,V,I,Z,rfl,?_,aa.o.keeps D.o.keeps (by decide),D.o.below ag.o (by omega)⟩
  have h:=HR.o;unfold MM at h ⊢;rw [ac.o] at h ⊢;exact h
 have ac:=hid hc;rw [hc] at ad;obtain rfl:eo=0:=ad.o;clear hc;have p2:=ce P1 0;have ak:Hid (Zw ow=false-> ∀ j d,(j=1/\Zw ow=false)∨RT o s n (VX o ow) j d->Ea o s n ow j d):=hid fun _ j d h=>h
 have HN:=hid (show ∀ v,Zw ow=v->Zw ow=v from fun _ h=>h);have hn:=fun W=>YI ow W
 cases hv:Zw ow
 all_goals
  have HV:=hid hv;rw [hv] at hn;clear hv HN;go_wp2_with fail;refine(hn E).mono ?_
  rintro e F ⟨rfl,m,rfl⟩;have L:Bw E (E.drewN m):=below_drewN br m
 ·have af:=bt ab L;have Q3:=hid (P2.o.drewN m);clear K L;go_wp2_with (first | ((refine sO Q3 J ?_);intro wS D) | fail);refine bodyPost_ret (rt (hid D.o.YK) underlying26 J) rfl ?_
  refine⟨1,⟨[],[]⟩,none,0,none,0,rfl,?_,⟨ZT.nil,ZT.nil⟩,D.o.below af.o (by omega)⟩
  unfold MM;rw [ac.o];exact⟨⟨[],[]⟩,Or.inl ⟨rfl,HV.o⟩,rfl⟩
 ·have N:=K (E.drewN m) L;have af:=bt ab L;have p0:(E.drewN m).cell? (aD w.heap.size 0)=some (.slice u o.Z7.length k0):=P0.o.cell 0;have p1:(E.drewN m).cell? (aD w.heap.size 1)=some (.slice C o.Z8.length k1):=P0.o.cell 1;clear K L;go_wp2_with fail;refine N.o.mono ?_
  rintro e W4 ⟨j,d,G,V,I,Z,rfl,T,M,hb⟩;have ag:=bt af hb.o;have Q2:=hid ((P2.o.drewN m).below hb.o ai);have HR:=hid T;have aa:=hid M;clear hb T M N;go_wp2_with (first | ((refine sO Q2 J ?_);intro wS D) | fail);refine bodyPost_ret (rt (hid D.o.YK) underlying26 J) rfl ?_
  refine⟨j,d,G,V,I,Z,rfl,?_,aa.o.keeps D.o.keeps (by decide),D.o.below ag.o (by omega)⟩
  have h:=HR.o;unfold MM at h ⊢;rw [ac.o] at h ⊢;obtain⟨aj,O,h2⟩:=h;exact⟨aj,Or.inr O,h2⟩
end Go.Proofs.YtnhmoibjlakhjaaGreat
