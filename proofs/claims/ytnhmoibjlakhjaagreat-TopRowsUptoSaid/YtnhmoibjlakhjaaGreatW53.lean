/- Lemmas, each under its own conditions. -/
import Derived.Test.YtnhmoibjlakhjaaGreatW50
import Derived.Test.YtnhmoibjlakhjaaGreatW52
set_option linter.all false
namespace Go.Proofs.YtnhmoibjlakhjaaGreat
open Go.Proofs.Tryz
set_option maxRecDepth 100000
set_option maxHeartbeats 16000000
open Go.RowKit
open Lib (hid)
section
variable {w : World} {S : Nat -> Prop}
theorem Wo.YG {ds:List Da}{j:List Value}(h:ZE w S Vq ds j): ∃ (q:Wo)(A:Option Addr)(n:Nat),ds=q.da/\j=q.cs A n/\ZT w S Zh (q.row.map Vl.da) A:=by
 obtain⟨d0,aa,v0,aj,rfl,rfl,m,J⟩:=h.cons;obtain⟨d1,ab,v1,ak,rfl,rfl,s,K⟩:=J.cons;obtain⟨d2,ac,v2,am,rfl,rfl,u,L⟩:=K.cons;obtain⟨d3,ad,v3,an,rfl,rfl,C,M⟩:=L.cons;obtain⟨d4,ae,v4,ao,rfl,rfl,D,N⟩:=M.cons;obtain⟨d5,af,v5,ap,rfl,rfl,E,O⟩:=N.cons;obtain⟨d6,ag,v6,aq,rfl,rfl,F,T⟩:=O.cons;obtain⟨d7,ah,v7,ar,rfl,rfl,G,U⟩:=T.cons;obtain⟨d8,ai,v8,au,rfl,rfl,I,V⟩:=U.cons;obtain⟨rfl,rfl⟩:=V.nil;obtain⟨Z,rfl,rfl⟩:=m.num;obtain⟨z1,rfl,rfl⟩:=s.T0;obtain⟨z2,rfl,rfl⟩:=u.T0;obtain⟨z3,rfl,rfl⟩:=C.T0;obtain⟨e4,X,k,rfl,rfl,d⟩:=D.rows;obtain⟨z4,rfl⟩:=Vl.rows d;obtain⟨z5,rfl,rfl⟩:=E.T0;obtain⟨z6,rfl,rfl⟩:=F.num;obtain⟨z7,rfl,rfl⟩:=G.num;obtain⟨z8,rfl,rfl⟩:=I.T0;exact⟨⟨Z,z1,z2,z3,z4,z5,⟨z6,z7,z8⟩⟩,X,k,rfl,by simp [Wo.cs],d⟩
theorem Wo.rows {ds:List (List Da)}{A:Option Addr}(h:ZT w S Vq ds A): ∃ l:List Wo,ds=l.map Wo.da:=
 Wm fun j d hd=>by
  obtain⟨u,m⟩:=h.UJ hd;obtain⟨x,X,k,s,_⟩:=Wo.YG m;exact⟨x,s⟩
theorem Wo.Wu {a b:Wo}(h:a.da=b.da):a=b:=by
 obtain⟨a1,a2,a3,a4,j,m,⟨s,u,C⟩⟩:=a;obtain⟨D,E,F,G,I,J,⟨K,L,M⟩⟩:=b;simp only [Wo.da,List.cons.injEq,Da.Z2.injEq,Da.int.injEq,Da.rows.injEq,and_true] at h;obtain⟨rfl,rfl,rfl,rfl,d,rfl,rfl,rfl,rfl⟩:=h;rw [(List.map_inj_right fun _ _=>Vl.Wu).1 d]
theorem Wo.YY {x:Wo}{d:List Value}(h:ZE w S Vq x.da d): ∃ X k,d=x.cs X k/\ZT w S Zh (x.row.map Vl.da) X:=by
 obtain⟨y,X,k,j,m,s⟩:=Wo.YG h;obtain rfl:=Wo.Wu j;exact⟨X,k,m,s⟩
theorem EQ {ds:List Da}{A:Option Addr}{n c:Nat}(h:ZE w S [.rows Vq] ds [.slice A n c]): ∃ l:List Wo,n=l.length/\ZT w S Vq (l.map Wo.da) A:=by
 obtain⟨I,C,v0,E,rfl,s,j,u⟩:=h.cons;obtain⟨rfl,D⟩:=u.nil;obtain⟨es,F,G,rfl,m,d⟩:=j.rows;injection s with hv1 hv2
 rw [m] at hv1;injection hv1 with hA hn hc
 subst hA;obtain⟨l,rfl⟩:=Wo.rows d;exact⟨l,by simpa using hn,d⟩
theorem Lr {sh:List Sh}{d:List Da}{h:List Value}{k:Nat}{t:TypeId}(C:ZP w k t h)(D:S k)(F:ZE w S sh d h):ZT w S sh [d] (some ⟨k,0,none⟩):=fun _=>⟨_,rfl,D,fun j s hd=>by
 obtain⟨m,hd⟩:=List.getElem?_eq_some_iff.1 hd
 obtain rfl:j=0:=by simp at m;exact m
 obtain rfl:d=s:=hd;refine⟨h,F,fun i u E=> ?_⟩
 rw [Nat.zero_mul,Nat.zero_add];exact ZP.news C i u E⟩
end
theorem WO.mono {w:World}{base base' g:Nat}{d:List Sf}(h:WO w base g d)(hb:base'<=base):WO w base' g d:=⟨h.st,Nat.le_trans hb h.gb,fun s j=>(h.sh s j).mono hb,h.nd⟩
theorem LS:WQ []:=⟨by simp,fun s d=>(by cases d),fun s d=>(by cases d)⟩
theorem Ln (w:World):Calls prog 15 #[] w fun e w'=> ∃ g,e= .returned (.pointer (some ⟨g,0,none⟩))/\WO w' w.heap.size g []/\Below w.heap.size w w':=by
 go_enter func15,ntmps15
 go_wp2;go_ret;exact⟨w.heap.size,rfl,⟨⟨none,0,ZP.new w 109 [.slice none 0 0],fun h=>absurd h (by simp)⟩,Nat.le_refl _,fun s d=>(by cases d),List.Pairwise.nil⟩,(Below.refl _ _).alloc (Nat.le_refl _) _⟩
def D4 (base g:Nat)(ss:List Sf)(q:Wo)(w:World)(e:Ending)(w':World):Prop:= ∃ (B:Option Addr) (k c:Nat),e= .returned (.slice B k c)/\Wv base g ss w ss w'/\(ss.find? (Ur q.Z9 q.ZZ)=none->k=0)/\
 ∀ s,ss.find? (Ur q.Z9 q.ZZ)=some s-> ∃ rs':List X3,k=rs'.length/\rs'.map (·.1)=s.rs.map (·.1)/\Zj w' w'.heap.size B X3.cs rs'/\ ∀ r∈rs',ZT w' (· < w'.heap.size) Zh (r.1.map Vl.da) r.2.1
theorem MA (base g:Nat)(d:List Sf)(q:Wo)(A:Option Addr)(n:Nat)(w:World)(h:WO w base g d)(E:WQ d):
  Calls prog 17 #[.pointer (some ⟨g,0,none⟩),.agg #[.int .i64 q.ZV,.string (Z2 q.ZQ),.string (Z2 q.Z9),.string (Z2 q.ZZ),.slice A q.row.length n,.string (Z2 q.WB),.int .i64 q.val.ZV,.int .i64 q.val.num,.string (Z2 q.val.word)]] w (D4 base g d q w):=by
 have G:base<=w.heap.size:=by
  obtain⟨L,c,N,_⟩:=h.st;exact Nat.le_trans h.gb (Nat.le_of_lt N.lt)
 have F:=hid h;have K:=hid E;clear h E;go_enter func17,ntmps17
 go_upto_region 1 with fail
 refine Wh _ fun W m=> ?_
 have j:=bP m;have B0:Hid (ZP W w.heap.size 66 [.int .i64 q.ZV,.string (Z2 q.ZQ),.string (Z2 q.Z9),.string (Z2 q.ZZ),.slice A q.row.length n,.string (Z2 q.WB),.int .i64 q.val.ZV,.int .i64 q.val.num,.string (Z2 q.val.word)]):=nC m;clear m;have c2:=ce B0 2;have c3:=ce B0 3;go_wp2_with fail;refine(MO base g d ⟨3,[],q.Z9,q.ZZ,[],[],⟨0,0,[]⟩⟩ none 0 W (F.out.later j.out) K.out ZT.nil).mono ?_
 rintro e T ⟨U,B,k,c,O,rfl,D,-,-,s⟩;obtain⟨rfl,u,C⟩:=s rfl rfl rfl;have M:=hid (Wv.ahead j.out G D);have I:=hid u;have J:=hid C;clear D s u C c2 c3 j B0;go_wp2;go_ret;exact⟨B,k,c,rfl,M.out,I.out,J.out⟩
theorem Hc (w:World):Calls prog 22 #[] w fun e w'=>e= .returned (.bool true)/\Below w.heap.size w w':=by
 have aj:=iN 33 7;go_enter func22,ntmps22
 go_wp2_with fail;refine(MY w).mono ?_
 rintro e W1 ⟨A,rfl,C,hb⟩;have an:=hid C;have aa:=hid hb;clear C hb;go_wp2_with fail;refine(Ud W1).mono ?_
 rintro e W2 ⟨rfl,hb⟩;have ao:=hid (an.out.later hb);have ab:=bt aa hb;clear hb an aa;go_wp2_with fail;refine(WK Ca.new A Wz none 0 none 0 W2 ao.out.VE Pj ZT.nil ZT.nil Uy ⟨⟨by decide,by decide⟩,⟨by decide,by decide⟩⟩).mono ?_
 rintro e W3 ⟨er,c1,h,rfl,D,C,hb⟩;obtain⟨E,ay⟩:=Nx D;subst E;have ap:=hid (C rfl);have O:=bt ab hb;have ah:=hid ay;clear D C hb ay ao ab;unfold Ca.cs;go_upto_region 2 with fail
 refine Wh _ fun I d=> ?_
 have G4:Hid (ZP I W3.heap.size 33 (zC c1 h)):=nC d;have ac:=bt O (bP d).out;have aq:=hid (ap.out.later (bP d).out);have aH:=O.out.size;clear d ap O;generalize W3.heap.size=g at*;go_wp2_with (first | (refine lO G4 aj underlying33 ?_) | fail);refine Zi _ fun J d=> ?_
 have Z:Hid (ZP J I.heap.size 119 [.string (Z2 [120]),.int .i64 2,.bool false]):=nC d;have j:=bP d;have ad:=bt ac j.out;have G5:=bl G4 j.out;have ar:=hid (aq.out.later j.out);have ax:Hid (ZT J (· < J.heap.size) Zz (WL.Z3.map Cl.da) (some ⟨I.heap.size,0,none⟩)):=hid (Lr Z.out Z.out.lt (Cl.VW ⟨[120],2,false⟩));clear d Z j aq G4 ac;have hA:=WK c1 h WL (some ⟨I.heap.size,0,none⟩) 1 none 0 J ar.out.VE (by rw [ah.out];exact Tf) ax.out ZT.nil Iw ⟨⟨by decide,by decide⟩,⟨by decide,by decide⟩⟩;refine hA.mono ?_
 rintro e W6 ⟨er,c2,G,rfl,D,C,hb⟩;rw [ah.out] at D;obtain⟨E,az⟩:=Hb D;subst E;have au:=hid (C rfl);have ae:=bt ad hb;have G6:=bl G5 hb;have ai:=hid az;clear hA D C hb az ar ad G5 ax;unfold Ca.cs;go_upto_region 3 with (first | (refine sO G6 aj ?_;intro W7 U) | fail)
 have G7:=hid U.out.YK;have T:=hid (U.out.below ae.out aH);have av:=hid (au.out.keeps U.out.keeps (by decide));clear U G6 ae au;go_wp2_with fail;refine(Ln W7).mono ?_
 rintro e W8 ⟨gs,rfl,u,hb⟩;have ak:=hid (u.mono (base':=w.heap.size) T.out.size);have af:=bt T hb;have G8:=bl G7 hb;have V:=hid (av.out.later hb);clear u hb G7 T av;have e2:=ce G8 2;have e3:=ce G8 3;go_wp2_with fail;refine(RQ w.heap.size gs [] c2.ob G.a0 G.k0 G.a1 G.k1 W8 ak.out LS (by rw [ai.out];exact Iv) V.out.VE.sc V.out.VE.tb).mono ?_
 rintro e K ⟨rfl,N,u,hg,ht,hk,hb,he⟩;have am:=hid u;have aE:=hid hg;have ag:Hid (Below w.heap.size w K):=hid (af.out.trans hb);have aw:Hid (N.map (·.t)= [Gu]):=hid (by rw [ht,ai.out];rfl)
 have aC:=hid (he rfl);clear u hg ht hk hb he e2 e3 ak G8 af V;go_wp2_with fail;refine Zi _ fun L d=> ?_
 have HV:Hid (ZP L K.heap.size 64 [.int .i64 2,.int .i64 7,.string (Z2 [])]):=nC d;have j:=bP d;have aG:=hid (am.out.later j.out);have aA:=bt ag j.out;have aF:Hid (ZT L (Sx L w.heap.size) Zh ([(⟨2,7,[]⟩:Vl)].map Vl.da) (some ⟨K.heap.size,0,none⟩)):=hid (Lr HV.out (.inr ⟨64,by decide,HV.out.Xr⟩) (Vl.VW ⟨2,7,[]⟩));clear d HV j am ag;refine(MO w.heap.size gs N ⟨1,[],[115],[116],[⟨2,7,[]⟩],[],⟨0,0,[]⟩⟩ (some ⟨K.heap.size,0,none⟩) 1 L aG.out aE.out aF.out).mono ?_
 rintro e Wb ⟨er,B,k,c,aI,rfl,u,h1,h2,-⟩;obtain⟨s,M⟩: ∃ s,N= [s]:=by
  have:=congrArg List.length aw.out;simp only [List.length_map,List.length_singleton] at this;exact List.length_eq_one_iff.1 this
 have F:s.t=Gu:=by
  have:=aw.out;rw [M] at this;simpa using this
 have hf:N.find? (Ur [115] [116])=some s:=by
  rw [M];have:Ur [115] [116] s=true:=by unfold Ur;rw [F];rfl
  rw [List.find?_cons,this]
 have E:er=0:=h2 s rfl rfl hf (by rw [F];exact FB) (by rw [aC.out s (by rw [M];simp)];simp) (by rw [F];rfl);subst E;obtain⟨s1,s2,_,_,_,m⟩:=h1 rfl;have hk:k=1:=by
  rcases m with ⟨_,m,_⟩ | ⟨m,_⟩ | ⟨m,_⟩
  ·exact m
  ·cases m
  ·exact absurd rfl m
 subst hk;have aB:Hid (Below w.heap.size w Wb):=hid (aA.out.trans u.bw);clear u h1 h2 m hf F M;go_wp2;go_ret;exact⟨rfl,aB.out⟩
end Go.Proofs.YtnhmoibjlakhjaaGreat
