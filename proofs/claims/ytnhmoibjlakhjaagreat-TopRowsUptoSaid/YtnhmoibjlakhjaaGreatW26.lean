/- Lemmas, each under its own conditions. -/
import Derived.Test.YtnhmoibjlakhjaaGreatW25
set_option linter.all false
namespace Go.Proofs.YtnhmoibjlakhjaaGreat
open Go.Proofs.Tryz
open Lib (hid)
set_option maxRecDepth 100000
set_option maxHeartbeats 16000000
open Go.RowKit
def Ez {α:Type}(base:Nat)(T:TypeId)(k:Nat)(enc:α->lV)(l:List α)(q:α->Bool)(A:oA)(c:Nat)(w:World)(e:Ending)(w':World):Prop:=
 ∃ m:Nat,e= .returned (.slice A m c)/\m=(l.filter q).length/\w'.ownsRow base T k (.slice A m c) m ((l.filter q).flatMap enc)/\Below base w w'
def MI {α:Type}(base:Nat)(T:TypeId)(k:Nat)(enc:α->lV)(l:List α)(q:α->Bool)(A:oA)(c:Nat)(a j:Nat)(w:World):Prop:=
 ∃ l':List α,l'.length=l.length/\w.ownsRow base T k (.slice A l.length c) l.length (l'.flatMap enc)/\l'.take a=(l.take j).filter q/\l'.drop j=l.drop j
theorem Oi {α:Type}{l d:List α}{q:α->Bool}{a j:Nat}(s:j<l.length)(D:d.length=l.length)(C:a<=j)(h:d.take a=(l.take j).filter q)(m:d.drop j=l.drop j)(u:q l[j]=true):
  (d.set a l[j]).take (a+1)=(l.take (j+1)).filter q/\(d.set a l[j]).drop (j+1)=l.drop (j+1):=by
 constructor
 ·rw [List.take_succ_eq_append_getElem (by rw [List.length_set];omega),List.getElem_set_self,List.take_set_of_le lr,h,List.take_succ_eq_append_getElem s,List.filter_append,List.filter_cons_of_pos u];rfl
 ·rw [List.drop_set_of_lt (by omega),<-List.drop_drop,m,List.drop_drop]
theorem Oh {α:Type}{l d:List α}{q:α->Bool}{a j:Nat}(s:j<l.length)(h:d.take a=(l.take j).filter q)(m:d.drop j=l.drop j)(u:q l[j]=false):
  d.take a=(l.take (j+1)).filter q/\d.drop (j+1)=l.drop (j+1):=by
 constructor
 ·rw [h,List.take_succ_eq_append_getElem s,List.filter_append,List.filter_cons_of_neg (by simpa using u)];simp
 ·rw [<-List.drop_drop,m,List.drop_drop]
theorem JE {α:Type}{l h:List α}{j:Nat}(s:j<l.length)(u:h.length=l.length)(m:h.drop j=l.drop j):h[j]'(by omega)=l[j]:=by
 have d:=congrArg (fun z=>z[0]?) m;simp only [List.getElem?_drop,Nat.add_zero] at d;rw [List.getElem?_eq_getElem (by omega),List.getElem?_eq_getElem s] at d;injection d
theorem NX {α:Type}(p:α->Bool)(l:List α)(h:Zd p l 0= -1):l.filter (fun x=> !p x)=l:=by
 rw [US] at h
 cases hf:l.findIdx? p with
 | none=>
  rw [List.filter_eq_self];intro x d;rw [List.findIdx?_eq_none_iff.1 hf x d];rfl
 | some i=>rw [hf] at h;simp [WS] at h
theorem NW {α:Type}(p:α->Bool)(l:List α)(h: ¬ Zd p l 0= -1): ∃ i,∃ d:i<l.length,Zd p l 0=(i:Int)/\l.take i=(l.take (i+1)).filter (fun x=> !p x):=by
 rw [US] at h ⊢
 cases hf:l.findIdx? p with
 | none=>rw [hf] at h;exact absurd rfl h
 | some i=>
  obtain⟨d,m,s⟩:=List.findIdx?_eq_some_iff_getElem.1 hf
  refine⟨i,d,rfl,?_⟩
  rw [List.take_succ_eq_append_getElem d,List.filter_append,List.filter_cons_of_neg (by simp [m]),List.filter_nil,List.append_nil,List.filter_eq_self.2];intro x C;obtain⟨j,u,rfl⟩:=List.getElem_of_mem C;have:=s j (by rw [List.length_take] at u;omega)
  rw [List.getElem_take];simpa using this
theorem LQ (p:lU->Bool)(g:Nat)(lb:Array Value)(l:List lU)(A:oA)(c:Nat)(w:World)(M: ∀ args w,(callFunc g args).run prog w= .ok (.enter g args) w)(D:Zj w w.heap.size A Yy l)(O:l.length<=1099511627776)
  (E: ∀ W x,Bw w W->x∈l->cQ g (#[(sT x)] ++lb) W fun e w'=>e= .returned (.bool (p x))/\Bw W w'):
  cQ 155 #[.slice A l.length c,.func (.func g) #[] lb] w fun e w'=>e= .returned (i6 (Zd p l 0))/\Bw w w':=by
 have G:=hid D;have I:=hid E;clear D E;go_enter func155,ntmps155
 go_wp2;go_loopw [8] (fun i wr=> ∃ j:Nat,j<=l.length/\i=i6 j/\Hid (Bw w wr)/\Hid (Zd p l 0=Zd p (l.drop j) j)) (fun i _=>l.length - (intOf i).toNat)
 case atStart=>exact⟨0,Nat.zero_le _,rfl,hid br,hid (by rw [List.drop_zero])⟩
 case round=>
  obtain⟨j,N,rfl,d,u⟩:=hrel;by_cases hlt:j<l.length
  ·obtain⟨J,rfl,K,C⟩:=(G.o.later d.o) (by omega);have h:Hid (Zd p l 0=if p l[j]=true then(j:Int) else Zd p (l.drop (j+1)) (j+1)):=hid (u.o.trans (WY hlt));have m:=hid (I.o wr l[j] d.o (List.getElem_mem hlt));have a0:wr.cell? (J.add j)=some (.string (Z2 l[j])):=by have:=C (j*1) _ (by have:=Zl Yy.k l j 0 hlt (by omega);rw [Nat.add_zero] at this;rw [this];rfl);rwa [Nat.mul_one] at this
   clear C K;generalize l[j]=x at*
   cases hq:p x
   ·rw [hq] at h m;have s:Hid (Zd p l 0=Zd p (l.drop (j+1)) (j+1)):=hid h.o;clear h hq;go_wp2_with (first | (go_at_fn g;refine m.o.mono ?_;rintro e L ⟨rfl,hb⟩) | fail);have F:=bt d hb;go_roundw
    case rel=>exact⟨j+1,by omega,by go_num,F,s⟩
    case measure=>simp [intOf];omega
   ·rw [hq] at h m;have s:Hid (Zd p l 0=(j:Int)):=hid h.o;clear h hq;go_wp2_with (first | (go_at_fn g;refine m.o.mono ?_;rintro e L ⟨rfl,hb⟩) | fail);go_ret;exact⟨by rw [s.o];rfl,d.o.trans (hb.mono d.o.size)⟩
  ·obtain rfl:j=l.length:=by omega
   rw [List.drop_length] at u;go_wp2;go_ret;exact⟨by rw [u.o];rfl,d.o⟩
theorem H8 (p:lU->Bool)(g:Nat)(lb:Array Value)(base:Nat)(l:List lU)(A:oA)(c:Nat)(w:World)(eg: ∀ args w,(callFunc g args).run prog w= .ok (.enter g args) w)(h:w.ownsRow base 9 1 (.slice A l.length c) l.length (l.flatMap Yy))(hn:l.length<=1099511627776)(U:base<=w.heap.size)
  (hp: ∀ W x,Below base w W->x∈l->cQ g (#[(sT x)] ++lb) W fun e w'=>e= .returned (.bool (p x))/\Bw W w'):
  cQ 96 #[.slice A l.length c,.func (.func g) #[] lb] w (Ez base 9 1 Yy l (fun x=> !p x) A c w):=by
 have F:=hid h;have HP:=hid hp;have HI:=hid (LQ p g lb l A c w eg (YS h rfl) hn fun W x hW hx=>hp W x (hW.mono U) hx);clear h hp;go_enter func96,ntmps96
 go_wp2_with fail;refine HI.o.mono ?_
 rintro e w1 ⟨rfl,an⟩;have I:=hid an;clear an HI;by_cases hi:Zd p l 0= -1
 ·have HF:=hid (NX p l hi);have hi':(Zd p l 0 == -1)=true:=by rw [hi];rfl
  go_wp2;go_ret;refine⟨l.length,rfl,by rw [HF.o],?_,I.o.mono U⟩
  rw [HF.o];exact F.o.ZC I.o
 obtain⟨s,aI,aq,ao⟩:=NW p l hi;have aj:=hid ao;have hi':((s:Int) == -1)=false:=by simp <;> omega
 have az: ¬ (s:Int)= -1:=by omega
 have aB:IntKind.i64.wrap ((s:Int)+1)=(s:Int)+1:=by simp [IntKind.wrap,IntKind.bits,IntKind.signed];omega
 rw [aq];clear hi aq ao;obtain⟨gb,rfl⟩: ∃ gb,A=some (aD gb 0):=by
  obtain⟨gb,cap,hv,_,_⟩:=F.o.form (by omega);exact⟨gb,by injection hv⟩
 obtain⟨aF,aG⟩:=Yw F.o;obtain⟨ap,_,_,_,_⟩:=ZJ F.o;have ak:Hid (MI base 9 1 Yy l (fun x=> !p x) (some (aD gb 0)) c s (s+1) w1):=hid ⟨l,rfl,F.o.ZC I.o,aj.o,rfl⟩;have ah:Hid (Below base w w1):=hid (I.o.mono U);clear I aj F;go_wp2;go_loopw [5,6] (fun aa i wr=> ∃ a j:Nat,a+1<=j/\j<=l.length/\aa=i6 a/\i=i6 j/\Hid (MI base 9 1 Yy l (fun x=> !p x) (some (aD gb 0)) c a j wr)/\Hid (Below base w wr)) (fun _ i _=>l.length - (intOf i).toNat)
 case atStart=>exact⟨s,s+1,by omega,by omega,rfl,by(try go_num),ak,ah⟩
 case round=>
  clear ak ah hi' az aB;obtain⟨a,j,aE,hj,rfl,rfl,HJ,D⟩:=hrel;obtain⟨d,T,ho,ht,hd⟩:=HJ.o;have C:=hid ho;have u:=hid ht;have N:=hid hd;obtain⟨_,aH,_,ax,ac⟩:=ZJ ho;clear ho ht hd;by_cases hlt:j<l.length
  ·have e1:(j:Int)< (l.length:Int):=by omega
   have e2:(a:Int)< (l.length:Int):=by omega
   have aJ:IntKind.i64.wrap ((a:Int)+1)=(a:Int)+1:=by simp [IntKind.wrap,IntKind.bits,IntKind.signed];omega
   have aK:IntKind.i64.wrap ((j:Int)+1)=(j:Int)+1:=by simp [IntKind.wrap,IntKind.bits,IntKind.signed];omega
   have aA:j<d.length:=by omega
   have O:a<d.length:=by omega
   have a0:wr.cell? (aD gb j)=some (.string (Z2 l[j])):=by
    have:=ac (j*1) (.string (Z2 d[j])) (by have:=Zl Yy.k d j 0 aA (by omega);rw [Nat.add_zero] at this;rw [this];rfl);rwa [Nat.mul_one,JE hlt T N.o] at this
   have E:=hid (HP.o wr l[j] D.o (List.getElem_mem hlt));have HK:=hid (fun m=>Oi (q:=fun x=> !p x) hlt T (by omega:a<=j) u.o N.o m);have HS:=hid (fun m=>Oh (q:=fun x=> !p x) hlt u.o N.o m);clear ac ax;generalize l[j]=x at*
   cases m:p x
   ·rw [m] at E;obtain⟨M,L⟩:=HK.o (by simp [m]);have K:=hid M;have J:=hid L;clear m HS HK u N M L;go_wp2_with fail;refine E.o.mono ?_
    rintro e G ⟨rfl,hb⟩;have ag:=hid (C.o.ZC hb);have ai:=hid (D.o.trans (hb.mono (by omega)));obtain⟨_,ay,_,ad,ab⟩:=ZJ ag.o;have b0:G.cell? (aD gb a)=some (.string (Z2 d[a])):=by
     have:=ab (a*1) (.string (Z2 d[a])) (by have:=Zl Yy.k d a 0 O (by omega);rw [Nat.add_zero] at this;rw [this];rfl);rwa [Nat.mul_one] at this
    have f0:=ad a;have am:Hid ((G.setCell (aD gb a) (sT x)).ownsRow base 9 1 (.slice (some (aD gb 0)) l.length c) l.length ((d.set a x).flatMap Yy)):=hid (by
     have h1:=XG ag.o (i:=a) (by rw [Zm Yy.k];omega) (sT x);have h2:=X7 Yy.k d a 0 O (by omega) (sT x) x rfl;rw [Nat.mul_one,Nat.add_zero] at h2;rw [<-h2];exact h1)
    have af:Hid (MI base 9 1 Yy l (fun x=> !p x) (some (aD gb 0)) c (a+1) (j+1) (G.setCell (aD gb a) (sT x))):=hid ⟨_,by rw [List.length_set];exact T,am.o,K.o,J.o⟩;have V:Hid (Below base w (G.setCell (aD gb a) (sT x))):=hid (ai.o.setCell (by exact ap) _);clear hb ab ad am K J ag ai E C D HJ;go_wp2;go_roundw
    case rel=>exact⟨a+1,j+1,by omega,by omega,by(try go_num),by(try go_num),af,V⟩
    case measure=>simp [intOf];omega
   ·rw [m] at E;obtain⟨M,L⟩:=HS.o (by simp [m]);have K:=hid M;have J:=hid L;clear m HS HK u N M L;go_wp2_with fail;refine E.o.mono ?_
    rintro e G ⟨rfl,hb⟩;have af:Hid (MI base 9 1 Yy l (fun x=> !p x) (some (aD gb 0)) c a (j+1) G):=hid ⟨d,T,C.o.ZC hb,K.o,J.o⟩;have V:=hid (D.o.trans (hb.mono (by omega)));clear hb K J E C D HJ;go_wp2;go_roundw
    case rel=>exact⟨a,j+1,by omega,by omega,rfl,by(try go_num),af,V⟩
    case measure=>simp [intOf];omega
  ·obtain rfl:j=l.length:=by omega
   rw [List.take_length] at u;have O:a<=d.length:=by omega
   have ae:a=(l.filter fun x=> !p x).length:=by rw [<-u.o,List.length_take,Nat.min_eq_left O]
   have av:=hid ae;clear ae;have ar:=hid (VH C.o (show a<=l.length by omega));have au:Hid ((d.flatMap Yy).take (a*1)=(l.filter fun x=> !p x).flatMap Yy):=hid (by rw [<-Xj Yy.k,u.o]);obtain⟨Z,aC,aw⟩:=Y5 wr 27 9 0 (.string ⟨#[]⟩) underlying27 (fun w=>by kernel_rfl) rfl (by decide) (by simp [Value.cells,Value.oneCell']) (size:=1) gb (a) (l.length - a) (c - a) (by omega) (Y8 C.o _ _ (by omega));have e1: ¬ (l.length:Int)< (l.length:Int):=by omega
   have f1:(a:Int)<=(l.length:Int):=by omega
   have f2:(a:Int)<=(c:Int):=by omega
   have f3:((l.length:Int) - (a:Int)).toNat=l.length - a:=by omega
   have f4:((c:Int) - (a:Int)).toNat=c - a:=by omega
   go_wp2_with fail;go_ret;refine⟨a,rfl,av.o,?_,D.o.trans (ZF ap _ _)⟩
   rw [<-au.o];exact XE ar.o Z _ (by omega)
open Go.Maps
def Ro.Zo (M:Nat)(r:Ro):Prop:=r.ZU.length<=M/\r.ZY.length<=M/\(∀ n∈r.ZU,n.length<=M)/\ ∀ m∈r.ZY,m.ZQ.length<=M/\m.of.length<=M
def TP (r:Ro):Int:=if Yc r then 0 else 1
def QY (r:Ro)(ZQ:lU):Int:=if Yc r then(if r.ZU.contains ZQ then 0 else 71) else 1
def Gf (r:Ro)(ZQ:lU)(w:World)(e:Ending)(w':World):Prop:=
 ∃ (A:oA) (c:Nat),e= .returned (.tuple #[.slice A (XN r ZQ).length c,i6 (QY r ZQ)])/\Zj w' w'.heap.size A Yy (XN r ZQ)/\Bw w w'
theorem NE {w:World}{l:List lU}{A:oA}{B:Nat}(h:Zj w B A Yy l):ZT w (· < B) [.Z2] (YV l) A:=by
 intro E;have s:0<l.length:=by simpa [YV] using E
 obtain⟨D,rfl,F,I⟩:=h s;refine⟨D,rfl,F,fun j d hd=> ?_⟩
 unfold YV at hd;rw [List.getElem?_map] at hd
 cases hj:l[j]? with
 | none=>rw [hj] at hd;simp at hd
 | some a=>
  rw [hj] at hd;simp only [Option.map_some,Option.some.injEq] at hd;subst hd;obtain⟨C,rfl⟩:=List.getElem?_eq_some_iff.1 hj
  refine⟨Yy l[j],ZE.one (Yv.YO _),fun i u m=> ?_⟩
  have G:i<1:=by have:=(List.getElem?_eq_some_iff.1 m).1;simpa [Yy] using this
  exact I _ u (by rw [show j* [Sh.Z2].length+i=j*1+i from rfl,Zl Yy.k l j i C G];exact m)
theorem Pc (r:Ro)(d:oA)(k0:Nat)(h:oA)(k1:Nat)(w:World)(C:ZT w (· < w.heap.size) [.Z2] (YV r.ZU) d)(u:ZT w (· < w.heap.size) YM (r.ZY.map Mb.da) h)(j:r.Zo 1099511627776):
  cQ 145 #[.agg #[.slice d r.ZU.length k0,.slice h r.ZY.length k1]] w fun e w'=>e= .returned (i6 (TP r))/\Bw w w':=by
 have D:=OY r d k0 h k1 (w.alloc (.cells #[.slice d r.ZU.length k0,.slice h r.ZY.length k1] 30)) (C.later (br.alloc lr _)) (u.later (br.alloc lr _)) j.1 j.2.1 j.2.2.2;have B0:Below w.heap.size w (w.alloc (.cells #[.slice d r.ZU.length k0,.slice h r.ZY.length k1] 30)):=br.alloc lr _;have E:=hid B0;have F:w.heap.size<=(w.alloc (.cells #[.slice d r.ZU.length k0,.slice h r.ZY.length k1] 30)).heap.size:=B0.size;have s:Hid (TP r=if Yc r then 0 else 1):=hid rfl;clear B0 C u;generalize Yc r=p at*;generalize TP r=q at*;go_enter func145,ntmps145
 go_wp2_with fail;refine D.mono ?_
 rintro e w' ⟨rfl,hb⟩;have m:=hid (E.o.trans (hb.mono F));clear hb D
 cases p
 ·go_wp2;go_ret;exact⟨by rw [s.o];rfl,m.o⟩
 ·go_wp2;go_ret;exact⟨by rw [s.o];rfl,m.o⟩
theorem Jd (bx d N:Nat)(f:lU->Nat)(name:lU)(w:World)(m:ZP w bx 164 [.map (some d)])(s:YQ prog 9 Uw w (i6 0) d N (Rv f))(E:f name<=1099511627776)(F:name.length<=1099511627776):
  cQ 97 #[sT name,pT bx] w fun e w'=>e= .returned (.bool (decide (f name=0)))/\Bw w w':=by
 have j:=m.cell 0;have D:w.cell? (aD bx 0)=some (.map (some d)):=j;have C:(Instr.lookup 164 (.map (some d)) (sT name) false).run prog w= .ok (i6 (f name)) w:=s.look VQ underlying164 (by kernel_rfl) (x:=name) (by unfold maxLen;omega)
 clear m s j;go_enter func97,ntmps97
 go_wp2;go_ret;refine⟨?_,Below.refl _ _⟩
 first
  | rfl
  |(by_cases h:f name=0
    ·have u:((f name:Int) == 0)=true:=by simp;omega
     simp [h]
    ·have u:((f name:Int) == 0)=false:=by simp;omega
     simp [h])
theorem Qw (r:Ro)(j:oA)(k0:Nat)(J:oA)(k1:Nat)(ZQ:lU)(w:World)(hN:ZT w (· < w.heap.size) [.Z2] (YV r.ZU) j)(hM:ZT w (· < w.heap.size) YM (r.ZY.map Mb.da) J)(O:r.Zo 1099511627776):
  cQ 43 #[.agg #[.slice j r.ZU.length k0,.slice J r.ZY.length k1],sT ZQ] w (Gf r ZQ w):=by
 have HN:=hid hN;have HM:=hid hM;have K:=hid O;have G:=O.1;have C:Hid (XN r ZQ=if Yc r && r.ZU.contains ZQ then r.ZU.filter fun n=>(SP r.ZY ZQ).contains n else []):=hid rfl;have HE:Hid (QY r ZQ=if Yc r then(if r.ZU.contains ZQ then 0 else 71) else 1):=hid rfl;have aa:Hid (Yc r=true->r.ZY.length<=65536):=hid fun h=>by
  simp only [Yc,Bool.and_eq_true,decide_eq_true_eq] at h;omega
 have ap:Hid (r.ZU.contains ZQ=true->ZQ.length<=1099511627776):=hid fun h=>O.2.2.1 ZQ (by simpa using h)
 clear hN hM O;go_enter func43,ntmps43
 go_wp2_with fail;refine Zi _ fun W1 d=> ?_
 have E:=bP d;have P1:=nC d;clear d;refine(OY r j k0 J k1 W1 (HN.o.later E.o) (HM.o.later E.o) G K.o.2.1 K.o.2.2.2).mono ?_
 rintro e W2 ⟨rfl,hb⟩;have s:=bt E hb;have L:=bl P1 hb;clear hb E P1;generalize hp1:Yc r=p1 at*
 cases p1
 ·have u:Hid (Gf r ZQ w (.returned (.tuple #[.slice none 0 0,i6 1])) W2):=hid ⟨none,0,by rw [show XN r ZQ= [] from by rw [C.o];rfl,show QY r ZQ=1 from HE.o];rfl,by rw [show XN r ZQ= [] from by rw [C.o];rfl];exact fun h=>absurd h (by simp),s.o⟩;clear hp1;go_wp2;go_ret2;exact u.o
 have q0:=ce L 0;have ab:=aa.o rfl;clear hp1;go_wp2_with fail;refine(Zf r.ZU j k0 ZQ W2 (HN.o.later s.o) G).mono ?_
 rintro e w3 ⟨rfl,rfl⟩;generalize hp2:r.ZU.contains ZQ=p2 at*
 cases p2
 ·have u:Hid (Gf r ZQ w (.returned (.tuple #[.slice none 0 0,i6 71])) w3):=hid ⟨none,0,by rw [show XN r ZQ= [] from by rw [C.o];rfl,show QY r ZQ=71 from HE.o];rfl,by rw [show XN r ZQ= [] from by rw [C.o];rfl];exact fun h=>absurd h (by simp),s.o⟩;clear hp2;go_wp2;go_ret2;exact u.o
 have ar:=ap.o rfl;have q1:=ce L 1;clear hp2;go_wp2_with fail;refine(OQ r.ZY j r.ZU.length k0 J k1 ZQ w3 (Mb.Yn (HM.o.later s.o)) ab K.o.2.2.2 ar).mono ?_
 rintro e w5 ⟨fb,N5,D,rfl,ah,aj,an,Z,aw⟩;have T:=bt s Z;have P5:=bl L Z;have ae:=hid ah;have ao:=hid aj;have aq:=hid an;have av:(w5.alloc (.cells #[.map (some fb)] 164)).cell? (aD w.heap.size 0)=some (.slice j r.ZU.length k0):=(P5.o.alloc _).cell 0;clear ah aj an Z s L q0 q1;go_wp2_with fail;refine Zi _ fun M d=> ?_
 have U:=rL d (T.o.alloc T.o.size _);have af:Hid (YQ prog 9 Uw M (i6 0) fb N5 (Rv D)):=hid (by rw [d];exact ae.o.alloc _);have V:=nC d;clear d T P5 ae av;refine(Xk j k0 r.ZU M (XS (HN.o.later U.o)) G).mono ?_
 rintro e W7 ⟨I,N,rfl,am,ac⟩;have ag:=hid (show W7.ownsRow M.heap.size 9 1 (.slice I r.ZU.length N) r.ZU.length (r.ZU.flatMap Yy) from am);have F:=hid ac;have au:=ac.size;clear am ac;go_wp2_with fail;refine(H8 (fun n=>decide (D n=0)) 97 #[pT w5.heap.size] M.heap.size r.ZU I N W7 (enters_of func97 (by kernel_rfl) rfl) ag.o G au (fun W x d hx=>Jd w5.heap.size fb N5 D x W
  (V.o.below (F.o.trans (d.mono lr)) V.o.lt) (af.o.later (F.o.trans d)) (ao.o x) (K.o.2.2.1 x hx))).mono ?_
 rintro e W8 ⟨m,rfl,hm,ad,ai⟩;have ak:r.ZU.filter (fun n=> !decide (D n=0))=XN r ZQ:=by
  rw [C.o];simp only [Bool.true_and,Bool.and_true,if_true];apply List.filter_congr
  intro x _;have:=aq.o x;by_cases h0:D x=0
  ·have h1: ¬ x∈SP r.ZY ZQ:=fun h=>by have:=this.2 h;omega
   simp [h0,h1]
  ·have h1:x∈SP r.ZY ZQ:=this.1 (by omega);simp [h0,h1]
 rw [ak] at hm ad;subst hm;have u:Hid (Gf r ZQ w (.returned (.tuple #[.slice I (XN r ZQ).length N,i6 0])) W8):=hid ⟨I,N,by rw [show QY r ZQ=0 from HE.o],YS ad rfl,U.o.trans ((F.o.trans ai).mono U.o.size)⟩;clear ak ad ai ag F af V;go_wp2;go_ret2;exact u.o
theorem Hh (r:Ro)(d:oA)(k0:Nat)(j:oA)(k1:Nat)(ZQ of:lU)(w:World)(E:ZT w (· < w.heap.size) [.Z2] (YV r.ZU) d)(D:ZT w (· < w.heap.size) YM (r.ZY.map Mb.da) j)(m:r.Zo 1099511627776):
  cQ 71 #[.agg #[.slice d r.ZU.length k0,.slice j r.ZY.length k1],sT ZQ,sT of] w fun e w'=>e= .returned (.bool (Jt r ZQ of))/\Bw w w':=by
 have F:=Qw r d k0 j k1 ZQ (w.alloc (.cells #[.slice d r.ZU.length k0,.slice j r.ZY.length k1] 30)) (E.later (br.alloc lr _)) (D.later (br.alloc lr _)) m;have B0:Below w.heap.size w (w.alloc (.cells #[.slice d r.ZU.length k0,.slice j r.ZY.length k1] 30)):=br.alloc lr _;have u:=hid B0;have O:w.heap.size<=(w.alloc (.cells #[.slice d r.ZU.length k0,.slice j r.ZY.length k1] 30)).heap.size:=B0.size;have C:Hid (Jt r ZQ of=(XN r ZQ).contains of):=hid rfl;have L:Hid (QY r ZQ≠0->XN r ZQ= []):=hid fun h=>by
  unfold QY at h;unfold XN;by_cases h1:Yc r=true
  ·by_cases h2:r.ZU.contains ZQ=true
   ·rw [if_pos h1,if_pos h2] at h;exact absurd rfl h
   ·rw [if_neg (by simp only [Bool.and_eq_true];exact fun h=>h2 h.2)]
  ·rw [if_neg (by simp only [Bool.and_eq_true];exact fun h=>h1 h.1)]
 have J:(XN r ZQ).length<=1099511627776:=by
  unfold XN;split
  ·exact Nat.le_trans (List.length_filter_le _ _) m.1
  ·simp
 clear B0 E D m;generalize Jt r ZQ of=res at*;go_enter func71,ntmps71
 go_wp2_with fail;refine F.mono ?_
 rintro e w' ⟨A,c,rfl,G,hb⟩;have s:=hid (u.o.trans (hb.mono O));have M:=hid G;clear hb G F u;generalize XN r ZQ=l at*;generalize QY r ZQ=er at*;by_cases h0:er=0
 ·have K:(er == 0)=true:=by rw [h0];rfl
  have I:=hid (NE M.o);go_wp2_with fail;refine(Zf l A c of w' I.o J).mono ?_
  rintro e T ⟨rfl,rfl⟩;generalize l.contains of=b at*;go_wp2;go_ret;exact⟨by rw [C.o];rfl,s.o⟩
 ·have K:(er == 0)=false:=by simpa using h0
  have N:=hid (L.o h0);go_wp2;go_ret;exact⟨by rw [C.o,N.o];rfl,s.o⟩
structure Wd where
 a0:oA
 k0:Nat
 a1:oA
 k1:Nat
 a2:oA
 k2:Nat
 a3:oA
 k3:Nat
 a4:oA
 k4:Nat
def Ca.cs (c:Ca)(A:Wd):lV:= [i6 c.ZO,i6 c.ZR,.slice A.a0 c.ob.Z7.length A.k0,.slice A.a1 c.ob.Z8.length A.k1,.slice A.a2 c.ro.ZU.length A.k2,.slice A.a3 c.ro.ZY.length A.k3,.slice A.a4 c.Z4.length A.k4]
abbrev zC (c:Ca)(A:Wd):List Value:=[i6 c.ZO,i6 c.ZR,.slice A.a0 c.ob.Z7.length A.k0,.slice A.a1 c.ob.Z8.length A.k1,.slice A.a2 c.ro.ZU.length A.k2,.slice A.a3 c.ro.ZY.length A.k3,.slice A.a4 c.Z4.length A.k4]
structure UH (w:World) (B:Nat) (c:Ca) (A:Wd):Prop where
 sc:ZT w (· < B) Ze (c.ob.Z7.map Sc.da) A.a0
 tb:ZT w (· < B) Zn (c.ob.Z8.map Tb.da) A.a1
 nm:ZT w (· < B) [.Z2] (YV c.ro.ZU) A.a2
 mb:ZT w (· < B) YM (c.ro.ZY.map Mb.da) A.a3
 gr:ZT w (· < B) Ya (c.Z4.map Gr.da) A.a4
theorem UH.later {w w':World}{c:Ca}{A:Wd}(h:UH w w.heap.size c A)(hb:Bw w w'):UH w' w'.heap.size c A:=⟨h.sc.later hb,h.tb.later hb,h.nm.later hb,h.mb.later hb,h.gr.later hb⟩
def Ca.Zo (M:Nat)(c:Ca):Prop:=c.ob.Zo M/\c.ro.Zo M/\c.Z4.length<=M
def Fh (c:Ca)(s n:lU)(w:World)(e:Ending)(w':World):Prop:=
 ∃ t X x Y y,e= .returned (.tuple #[.agg (Tb.cs t X x Y y).toArray,.bool (Uu c s n).isSome])/\Bw w w'/\(∀ t',Uu c s n=some t'->t=t')
theorem JP (t:Tb)(A:oA)(k:Nat)(B:oA)(m:Nat)(s n:lU)(p q:Nat)(w:World)(d:ZP w p 9 [sT s])(j:ZP w q 9 [sT n]):
  cQ 93 #[.agg #[sT t.Z9,sT t.name,sT t.ZN,.slice A t.Z3.length k,.slice B t.ZW.length m],pT p,pT q] w fun e w'=>e= .returned (.bool (t.Z9 == s && t.name == n))/\Bw w w':=by
 have u:=d.lt;have C:=j.lt;have a0:w.cell? (aD p 0)=some (sT s):=d.cell 0;have a1:w.cell? (aD q 0)=some (sT n):=j.cell 0;clear d j
 cases h:(t.Z9 == s)
 ·go_enter func93,ntmps93
  go_wp2;go_ret;exact⟨rfl,br.alloc lr _⟩
 ·go_enter func93,ntmps93
  go_wp2;go_ret;exact⟨rfl,br.alloc lr _⟩
theorem Tc (c:Ca)(A:Wd)(s n:lU)(w:World)(hc:UH w w.heap.size c A)(hn:c.ob.Z8.length<=1099511627776):
  cQ 42 #[.agg (c.cs A).toArray,sT s,sT n] w (Fh c s n w):=by
 have T:=hid hc;have D:=iN 73 5;have O:Hid (Uu c s n=c.ob.Z8.find? fun t=>t.Z9 == s && t.name == n):=hid rfl;clear hc;unfold Ca.cs;go_enter func42,ntmps42
 go_wp2_with fail;refine Zi _ fun W m=> ?_
 have J:Hid (Bw w W):=hid (by rw [m];exact(((br.alloc lr _).alloc (by simp) _).alloc (by simp;omega) _).alloc (by simp;omega) _);have V:Hid (ZP W w.heap.size 33 [i6 c.ZO,i6 c.ZR,sl A.a0 c.ob.Z7 A.k0,sl A.a1 c.ob.Z8 A.k1,sl A.a2 c.ro.ZU A.k2,sl A.a3 c.ro.ZY A.k3,sl A.a4 c.Z4 A.k4]):=hid (by rw [m];exact(((ZP.new w _ _).alloc _).alloc _).alloc _);have S1:Hid (ZP W (w.heap.size+1) 9 [sT s]):=hid (by
  rw [m];have:=((ZP.new (w.alloc (.cells #[i6 c.ZO,i6 c.ZR,sl A.a0 c.ob.Z7 A.k0,sl A.a1 c.ob.Z8 A.k1,sl A.a2 c.ro.ZU A.k2,sl A.a3 c.ro.ZY A.k3,sl A.a4 c.Z4 A.k4] 33)) 9 [sT s]).alloc (.cells #[sT n] 9)).alloc (.cells #[s0,s0,s0,sN,sN] 73);simpa using this)
 have L:Hid (ZP W (w.heap.size+2) 9 [sT n]):=hid (by
  rw [m];have:=(ZP.new ((w.alloc (.cells #[i6 c.ZO,i6 c.ZR,sl A.a0 c.ob.Z7 A.k0,sl A.a1 c.ob.Z8 A.k1,sl A.a2 c.ro.ZU A.k2,sl A.a3 c.ro.ZY A.k3,sl A.a4 c.Z4 A.k4] 33)).alloc (.cells #[sT s] 9)) 9 [sT n]).alloc (.cells #[s0,s0,s0,sN,sN] 73);simpa using this)
 have Z:Hid (ZP W (w.heap.size+3) 73 [s0,s0,s0,sN,sN]):=hid (by
  rw [m];have:=ZP.new (((w.alloc (.cells #[i6 c.ZO,i6 c.ZR,sl A.a0 c.ob.Z7 A.k0,sl A.a1 c.ob.Z8 A.k1,sl A.a2 c.ro.ZU A.k2,sl A.a3 c.ro.ZY A.k3,sl A.a4 c.Z4 A.k4] 33)).alloc (.cells #[sT s] 9)).alloc (.cells #[sT n] 9)) 73 [s0,s0,s0,sN,sN];simpa using this)
 clear m;have ab:w.heap.size+2<W.heap.size:=L.o.lt;have N:=Rq (ST s n) 93 #[pT (w.heap.size+1),pT (w.heap.size+2)] (c.ob.Z8.map Tb.da) A.a1 A.k1 W (enters_of func93 (by kernel_rfl) rfl) (T.o.later J.o).tb (by simpa using hn) (by
  intro W' d vs hb _ F;obtain⟨t,A',k',B',m',rfl,rfl,_⟩:=Tb.YG F;exact JP t A' k' B' m' s n (w.heap.size+1) (w.heap.size+2) W' (S1.o.below hb (by omega)) (L.o.below hb (by omega)))
 rw [List.length_map,UD,US] at N;refine N.mono ?_
 rintro e W3 ⟨rfl,hb⟩;have K:=bt J hb;have P3:=bl V hb;have Q3:=bl Z hb;clear hb N J V Z S1 L;have G:(c.ob.Z8.findIdx? fun x=>ST s n x.da)=c.ob.Z8.findIdx? fun t=>t.Z9 == s && t.name == n:=rfl
 cases ht:c.ob.Z8.findIdx? (fun t=>t.Z9 == s && t.name == n) with
 | none=>
  have C:Hid (Uu c s n=none):=hid (by rw [O.o];exact M9 ht);rw [show WS (c.ob.Z8.findIdx? fun x=>ST s n x.da)= -1 from by rw [G,ht];rfl]
  clear ht G;go_wp2_with (first | ((refine sO Q3 D ?_);intro wS E) | fail);refine bodyPost_ret (rt (hid E.o.YK) underlying73 D) rfl ?_
  exact⟨⟨[],[],[],[],[]⟩,none,0,none,0,by rw [C.o];rfl,E.o.below K.o (by omega),fun t h=>by rw [C.o] at h;cases h⟩
 | some i=>
  obtain⟨hi,hf⟩:=Wt ht;have C:Hid (Uu c s n=some c.ob.Z8[i]):=hid (by rw [O.o];exact hf);rw [show WS (c.ob.Z8.findIdx? fun x=>ST s n x.da)=(i:Int) from by rw [G,ht];rfl]
  clear ht G hf;obtain⟨M,vs,aa,F,hr⟩:=((T.o.later K.o).tb).at_ (j:=i) (by simpa using hi);rw [List.getElem_map] at F;generalize c.ob.Z8[i]=t at*;obtain⟨X,x,Y,y,rfl,_,_⟩:=Tb.YY F;have U:Hid (∀ I u,(t.cs X x Y y)[I]?=some u->W3.cell? ((M.add (i*5)).add I)=some u):=hid fun I u hu=>by rw [ZG];exact hr I u hu
  clear F hr;unfold Tb.cs at U;have HL:Hid ((prog.info? 73).map (·.size)=some ([sT t.Z9,sT t.name,sT t.ZN,sl X t.Z3 x,sl Y t.ZW y]:lV).length):=D;have p1:W3.cell? (aN w 3)=some (sl (some M) c.ob.Z8 A.k1):=by rw [<-aa];exact P3.o.cell 3
  have ac:(0:Int)<=(i:Int):=by omega
  have ae:(i:Int)< (c.ob.Z8.length:Int):=by omega
  go_wp2_with (first | (with_reducible refine ZK rfl 73 _ rfl (M.add (i*5)) rfl [sT t.Z9,sT t.name,sT t.ZN,sl X t.Z3 x,sl Y t.ZW y] _ U.o underlying73 rfl HL.o ?_) | ((refine sO Q3 D ?_);intro wS E) | fail);refine bodyPost_ret (rt (hid E.o.YK) underlying73 D) rfl ?_
  exact⟨t,X,x,Y,y,by rw [C.o];rfl,E.o.below K.o (by omega),fun t' h=>by rw [C.o] at h;injection h⟩
theorem Oc (r:Int)(w:World):cQ 46 #[i6 r] w fun e w'=>e= .returned (.bool (RR r))/\w'=w:=by
 have d:Hid (RR r=(r == 1 || r == 2)):=hid rfl;generalize RR r=q at*
 cases h2:(r == 1) <;> cases h3:(r == 2)
 all_goals
  rw [h2,h3] at d;go_enter func46,ntmps46
  go_wp2;go_ret;exact⟨by rw [d.o];rfl,rfl⟩
theorem LD (c:Ca)(A:Wd)(t:Tb)(X:Option Addr)(x:Nat)(Y:Option Addr)(y b:Nat)(w:World)(d:ZP w b 33 [.int .i64 c.ZO,.int .i64 c.ZR,.slice A.a0 c.ob.Z7.length A.k0,.slice A.a1 c.ob.Z8.length A.k1,.slice A.a2 c.ro.ZU.length A.k2,.slice A.a3 c.ro.ZY.length A.k3,.slice A.a4 c.Z4.length A.k4])(m:ZT w (· < w.heap.size) [.Z2] (YV c.ro.ZU) A.a2)(D:c.ro.ZU.length<=1099511627776):
  Calls prog 216 #[.agg (t.cs X x Y y).toArray,.pointer (some ⟨b,0,none⟩)] w fun e w'=>e= .returned (.bool (!c.ro.ZU.contains t.ZN))/\Below w.heap.size w w':=by
 have F:w.cell? ⟨b,4,none⟩=some (.slice A.a2 c.ro.ZU.length A.k2):=d.cell 4;have E:=d.lt;have C:=hid m;clear d m;have u:=hid (fun W (h:Below w.heap.size w W)=>Zf c.ro.ZU A.a2 A.k2 t.ZN W (C.out.later h) D);generalize c.ro.ZU.contains t.ZN=r at*;unfold Tb.cs;go_enter func216,ntmps216
 go_wp2_with fail;refine Zi _ fun W s=> ?_
 have j:=bP s;clear s;refine(u.out W j.out).mono ?_
 rintro e w' ⟨rfl,rfl⟩;go_wp2;go_ret;exact⟨rfl,j.out⟩
theorem Ke (c:Ca)(A:Wd)(w:World)(hc:UH w w.heap.size c A)(I:c.Zo 1099511627776):
  Calls prog 146 #[.agg (c.cs A).toArray] w fun e w'=>e= .returned (.bool (UQ c))/\Below w.heap.size w w':=by
 have E:=hid hc;have aa:=I.2.1.1;have ag:=I.1.2.1;have ah:=I.1.1;have F:Hid (UQ c=((c.ob.Z7.all fun s=>c.ro.ZU.contains s.ZN) && c.ob.Z8.all fun t=>c.ro.ZU.contains t.ZN)):=hid rfl;clear hc I;generalize UQ c=res at*;unfold Ca.cs;go_enter func146,ntmps146
 have V:Below w.heap.size w (w.alloc (.cells #[.int .i64 c.ZO,.int .i64 c.ZR,.slice A.a0 c.ob.Z7.length A.k0,.slice A.a1 c.ob.Z8.length A.k1,.slice A.a2 c.ro.ZU.length A.k2,.slice A.a3 c.ro.ZY.length A.k3,.slice A.a4 c.Z4.length A.k4] 33)):=br.alloc lr _;have Z:ZP (w.alloc (.cells #[.int .i64 c.ZO,.int .i64 c.ZR,.slice A.a0 c.ob.Z7.length A.k0,.slice A.a1 c.ob.Z8.length A.k1,.slice A.a2 c.ro.ZU.length A.k2,.slice A.a3 c.ro.ZY.length A.k3,.slice A.a4 c.Z4.length A.k4] 33)) w.heap.size 33 [.int .i64 c.ZO,.int .i64 c.ZR,.slice A.a0 c.ob.Z7.length A.k0,.slice A.a1 c.ob.Z8.length A.k1,.slice A.a2 c.ro.ZU.length A.k2,.slice A.a3 c.ro.ZY.length A.k3,.slice A.a4 c.Z4.length A.k4]:=ZP.new w _ _;have N:=hid V;have O:=hid Z;clear V Z;go_wp2;go_loopw [9] (fun i wr=> ∃ j:Nat,j<=c.ob.Z7.length/\i= .int .i64 j/\Hid ((c.ob.Z7.all fun s=>c.ro.ZU.contains s.ZN)=(c.ob.Z7.drop j).all fun s=>c.ro.ZU.contains s.ZN)/\Hid (Below w.heap.size w wr)/\Hid (ZP wr w.heap.size 33 [.int .i64 c.ZO,.int .i64 c.ZR,.slice A.a0 c.ob.Z7.length A.k0,.slice A.a1 c.ob.Z8.length A.k1,.slice A.a2 c.ro.ZU.length A.k2,.slice A.a3 c.ro.ZY.length A.k3,.slice A.a4 c.Z4.length A.k4])) (fun i _=>c.ob.Z7.length - (intOf i).toNat)
 case atStart=>exact⟨0,Nat.zero_le _,rfl,hid (by rw [List.drop_zero]),N,O⟩
 case round=>
  clear N O;obtain⟨j,hj,rfl,C,h,u⟩:=hrel;by_cases hlt:j<c.ob.Z7.length
  ·have G:=hid (C.out.trans (Vi (fun s:Sc=>c.ro.ZU.contains s.ZN) c.ob.Z7 j hlt));obtain⟨ad,vs,U,D,M⟩:=((E.out.later h.out).sc).at_ (j:=j) (by simpa using hlt);rw [List.getElem_map] at D;generalize c.ob.Z7[j]=q at*;obtain rfl:=Sc.YY D;have a0:=e0 (m:=j*2) M;have a1:=ef (m:=j*2) M 1;have k4:(wr.alloc (.cells #[.string (Z2 q.name),.string (Z2 q.ZN)] 89)).cell? ⟨w.heap.size,4,none⟩=some (.slice A.a2 c.ro.ZU.length A.k2):=(u.out.alloc _).cell 4;clear D M;rw [U];go_wp2_with fail;refine Zi _ fun Wl L=> ?_
   have J:=rL L (h.out.alloc h.out.size _);have K6:=rB L (u.out.alloc _);clear L k4 h u a0 a1;rw [U] at K6;refine(Zf c.ro.ZU A.a2 A.k2 q.ZN Wl (E.out.later J.out).nm aa).mono ?_
   rintro e w' ⟨rfl,rfl⟩;generalize c.ro.ZU.contains q.ZN=r at*
   cases r
   ·have ac:Hid (res=false):=hid (by rw [F.out,G.out];rfl);clear G C F;go_wp2;go_ret;exact⟨by rw [ac.out];rfl,J.out⟩
   ·rw [Bool.true_and] at G;go_wp2;go_roundw
    case rel=>exact⟨j+1,by omega,by go_num,G,J,K6⟩
    case measure=>simp [intOf];omega
  ·obtain rfl:j=c.ob.Z7.length:=by omega
   rw [List.drop_length] at C;have k3:=ce u 3;have T:Hid (res=c.ob.Z8.all fun t=>c.ro.ZU.contains t.ZN):=hid (by rw [F.out,C.out];rfl)
   have af:=u.out.lt;clear C F;go_wp2_with fail;have K:=N8 (fun d=> !c.ro.ZU.contains (tx d 2)) 216 #[.pointer (some ⟨w.heap.size,0,none⟩)] (c.ob.Z8.map Tb.da) A.a1 A.k1 wr (enters_of func216 (by kernel_rfl) rfl) (E.out.later h.out).tb (by simpa using ag) (by
    intro W' d vs hb _ D;obtain⟨t,A',k',B',m',rfl,rfl,_⟩:=Tb.YG D;exact LD c A t A' k' B' m' w.heap.size W' (u.out.below hb af) (E.out.later (h.out.trans (hb.mono h.out.size))).nm aa)
   rw [List.length_map,List.any_map] at K;refine K.mono ?_
   rintro e w' ⟨rfl,hb⟩;have ae:Hid (res= !(c.ob.Z8.any ((fun d=> !c.ro.ZU.contains (tx d 2))∘Tb.da))):=hid (by
    rw [T.out,List.all_eq_not_any_not];rfl)
   have ab:=bt h hb;clear hb K T;generalize c.ob.Z8.any ((fun d=> !c.ro.ZU.contains (tx d 2))∘Tb.da)=r at*;go_wp2;go_ret;exact⟨by rw [ae.out];rfl,ab.out⟩
def Xm (g:Gr):List Value:= [.string (Z2 g.Z9),.string (Z2 g.ZZ),.int .i64 g.right,.string (Z2 g.ZM),.string (Z2 g.to)]
theorem F1 (a b:Gr)(w:World):(binOp .eql 156 (.agg (Xm a).toArray) (.agg (Xm b).toArray)).run prog w= .ok (.bool (Yq a == Yq b)) w:=by
 unfold Xm;have s:=underlying156;have m:=underlying9;have j:=underlying41;have h:prog.stoodInHeld 156=false:=by kernel_rfl
 rw [run_eql_struct];go_simp;have d:(Yq a == Yq b)=decide (a.Z9=b.Z9/\a.ZZ=b.ZZ/\a.right=b.right/\a.ZM=b.ZM/\a.to=b.to):=by
  rw [Bool.eq_iff_iff];simp [Yq]
 rw [d];repeat' split
 all_goals simp_all
theorem Rl (g:Gr)(w:World):Calls prog 88 #[.agg (g.cs).toArray] w fun e w'=>e= .returned (.agg (Xm g).toArray)/\Below w.heap.size w w':=by
 have h:=iN 156 5;unfold Gr.cs Xm;go_enter func88,ntmps88
 go_wp2;have d:=hid (ZP.new (w.alloc (.cells #[.string (Z2 g.Z9),.string (Z2 g.ZZ),.int .i64 g.right,.string (Z2 g.ZM),.string (Z2 g.to),.bool g.Zq] 53)) 156 [.string (Z2 g.Z9),.string (Z2 g.ZZ),.int .i64 g.right,.string (Z2 g.ZM),.string (Z2 g.to)]);refine bodyPost_ret (Tz rfl _ _ (w.alloc (.cells #[.string (Z2 g.Z9),.string (Z2 g.ZZ),.int .i64 g.right,.string (Z2 g.ZM),.string (Z2 g.to),.bool g.Zq] 53)).heap.size (by simp) d (n:=5) rfl underlying156 rfl h) rfl ?_
 exact⟨rfl,(br.alloc lr _).alloc (by simp) _⟩
theorem Gr.YY {w:World}{S:Nat->Prop}{c:Gr}{j:lV}(h:ZE w S Ya c.da j):j=c.cs:=by
 obtain⟨s,d,rfl⟩:=Gr.YG h
 cases c
 cases s
 simp [Gr.da] at d;obtain⟨rfl,rfl,rfl,rfl,rfl,rfl⟩:=d;rfl
def VG (l:List Gr)(j:Nat):Option Gr:=if j=0 then none else l[j - 1]?
theorem QB (c:Ca)(l:List Gr)(j:Nat)(h:j<l.length):Yu c (VG l j) (l.drop j)=(Uj c l[j] && (match VG l j with | some q=> !(Yq l[j] == Yq q) && !decide (0<RZ q l[j]) | none=>true) && Yu c (VG l (j+1)) (l.drop (j+1))):=by
 rw [List.drop_eq_getElem_cons h];have:VG l (j+1)=some l[j]:=by simp [VG,h]
 rw [this];rfl
def D5 (c:Ca):Bool:=decide (c.Z4.length<=64) && (Zc c.ob && (Yc c.ro && (c.ro.ZU.contains Yi && UQ c)))
theorem OM (c:Ca)(A:Wd)(w:World)(hc:UH w w.heap.size c A)(ht:c.Zo 1099511627776):
  cQ 87 #[.agg (c.cs A).toArray] w fun e w'=>e= .returned (.bool (Xz c))/\Bw w w':=by
 have J:=hid hc;have HT:=hid ht;have aB:=ht.2.1.1;have be:=ht.1.2.1;have E:Hid (Xz c=(decide (c.Z4.length<=64) && (Zc c.ob && (Yc c.ro && (c.ro.ZU.contains Yi && (UQ c && Yu c none c.Z4)))))):=hid (by simp only [Xz,Bool.and_assoc]);have aI:Hid (Sj c.ob=if Zc c.ob=true then 0 else 63):=hid rfl;have aJ:Hid (TP c.ro=if Yc c.ro then 0 else 1):=hid rfl;have az:=iN 53 6;have aK:=iN 156 5;clear hc ht;generalize Xz c=res at*;unfold Ca.cs;have aQ:Below w.heap.size w (w.alloc (.cells #[i6 c.ZO,i6 c.ZR,sl A.a0 c.ob.Z7 A.k0,sl A.a1 c.ob.Z8 A.k1,sl A.a2 c.ro.ZU A.k2,sl A.a3 c.ro.ZY A.k3,sl A.a4 c.Z4 A.k4] 33)):=br.alloc lr _;have aR:ZP (w.alloc (.cells #[i6 c.ZO,i6 c.ZR,sl A.a0 c.ob.Z7 A.k0,sl A.a1 c.ob.Z8 A.k1,sl A.a2 c.ro.ZU A.k2,sl A.a3 c.ro.ZY A.k3,sl A.a4 c.Z4 A.k4] 33)) w.heap.size 33 [i6 c.ZO,i6 c.ZR,sl A.a0 c.ob.Z7 A.k0,sl A.a1 c.ob.Z8 A.k1,sl A.a2 c.ro.ZU A.k2,sl A.a3 c.ro.ZY A.k3,sl A.a4 c.Z4 A.k4]:=ZP.new w _ _;have aj:=hid aQ;have aO:=hid aR;clear aQ aR;go_enter func87,ntmps87
 by_cases h64:c.Z4.length<=64
 case neg=>
  have D:Hid (res=false):=hid (by rw [E.o,decide_eq_false h64];rfl);have aA:(c.Z4.length:Int) > 64:=by omega
  have aq:(64:Int)< (c.Z4.length:Int):=by omega
  go_wp2;go_ret;exact⟨by rw [D.o];rfl,aj.o⟩
 have aA: ¬ (c.Z4.length:Int) > 64:=by omega
 have aq: ¬ (64:Int)< (c.Z4.length:Int):=by omega
 rw [decide_eq_true h64,Bool.true_and] at E;go_wp2_with fail;generalize (w.alloc (.cells #[i6 c.ZO,i6 c.ZR,sl A.a0 c.ob.Z7 A.k0,sl A.a1 c.ob.Z8 A.k1,sl A.a2 c.ro.ZU A.k2,sl A.a3 c.ro.ZY A.k3,sl A.a4 c.Z4 A.k4] 33))=W0 at*;refine(Vp c.ob A.a0 A.k0 A.a1 A.k1 W0 (J.o.later aj.o).sc (J.o.later aj.o).tb HT.o.1).mono ?_
 rintro e W1 ⟨rfl,hb⟩;have ak:=bt aj hb;have P1:=bl aO hb;clear hb aj aO W0;generalize Sj c.ob=eo at*;generalize Zc c.ob=co at*
 cases co
 ·obtain rfl:eo=63:=aI.o;have D:Hid (res=false):=hid E.o;go_wp2;go_ret;exact⟨by rw [D.o];rfl,ak.o⟩
 obtain rfl:eo=0:=aI.o;rw [Bool.true_and] at E;have p5:=ce P1 4;have p6:=ce P1 5;go_wp2_with fail;refine(Pc c.ro A.a2 A.k2 A.a3 A.k3 W1 (J.o.later ak.o).nm (J.o.later ak.o).mb HT.o.2.1).mono ?_
 rintro e W2 ⟨rfl,hb⟩;have ag:=bt ak hb;have T:=bl P1 hb;clear hb ak P1 p5 p6;generalize TP c.ro=er at*;generalize Yc c.ro=ro at*
 cases ro
 ·obtain rfl:er=1:=aJ.o;have D:Hid (res=false):=hid E.o;go_wp2;go_ret;exact⟨by rw [D.o];rfl,ag.o⟩
 obtain rfl:er=0:=aJ.o;rw [Bool.true_and] at E;have p5:=ce T 4;go_wp2_with fail;refine(Zf c.ro.ZU A.a2 A.k2 Yi W2 (J.o.later ag.o).nm aB).mono ?_
 rintro e w3 ⟨rfl,rfl⟩;generalize c.ro.ZU.contains Yi=p3 at*
 cases p3
 ·have D:Hid (res=false):=hid E.o;go_wp2;go_ret;exact⟨by rw [D.o];rfl,ag.o⟩
 rw [Bool.true_and] at E;have q0:=ce T 0;have q1:=ce T 1;have q2:=ce T 2;have q3:=ce T 3;have q5:=ce T 5;have q6:=ce T 6;go_wp2_with fail;have cO:=Ke c A w3 (J.o.later ag.o) HT.o;unfold Ca.cs at cO;refine cO.mono ?_
 rintro e C ⟨rfl,hb⟩;have au:=bt ag hb;have P4:=bl T hb;clear hb ag T p5 q0 q1 q2 q3 q5 q6 cO;generalize UQ c=p4 at*
 cases p4
 ·have D:Hid (res=false):=hid E.o;go_wp2;go_ret;exact⟨by rw [D.o];rfl,au.o⟩
 rw [Bool.true_and] at E;have bj:=P4.o.lt;have q6:(C.alloc (.cells #[s0,s0,i6 0,s0,s0] 156)).cell? (aN w 6)=some (sl A.a4 c.Z4 A.k4):=(P4.o.alloc _).cell 6;go_wp2_with fail;have aG:Hid (Below w.heap.size w (C.alloc (.cells #[s0,s0,i6 0,s0,s0] 156))):=hid (au.o.alloc au.o.size _);have P5:Hid (ZP (C.alloc (.cells #[s0,s0,i6 0,s0,s0] 156)) w.heap.size 33 [i6 c.ZO,i6 c.ZR,sl A.a0 c.ob.Z7 A.k0,sl A.a1 c.ob.Z8 A.k1,sl A.a2 c.ro.ZU A.k2,sl A.a3 c.ro.ZY A.k3,sl A.a4 c.Z4 A.k4]):=hid (P4.o.alloc _);have L5:Hid (ZP (C.alloc (.cells #[s0,s0,i6 0,s0,s0] 156)) C.heap.size 156 (Xm ⟨[],[],0,[],[],false⟩)):=hid (ZP.new C _ _);have aZ:=iN 33 7;clear q6;go_loopw [39] (fun i wr=> ∃ (j:Nat) (lg:Gr),j<=c.Z4.length/\i=i6 j/\Hid (∀ q,VG c.Z4 j=some q->lg=q)/\Hid (Yu c none c.Z4=Yu c (VG c.Z4 j) (c.Z4.drop j))/\Hid (Bw w wr)/\Hid (ZP wr w.heap.size 33 [i6 c.ZO,i6 c.ZR,sl A.a0 c.ob.Z7 A.k0,sl A.a1 c.ob.Z8 A.k1,sl A.a2 c.ro.ZU A.k2,sl A.a3 c.ro.ZY A.k3,sl A.a4 c.Z4 A.k4])/\Hid (ZP wr C.heap.size 156 (Xm lg))) (fun i _=>c.Z4.length - (intOf i).toNat)
 case atStart=>exact⟨0,⟨[],[],0,[],[],false⟩,Nat.zero_le _,rfl,hid (fun q h=>by simp [VG] at h),hid (by rw [List.drop_zero];rfl),aG,P5,L5⟩
 case round=>
  clear aG P5 L5 au P4;obtain⟨j,lg,hj,rfl,aL,N,an,K0,L0⟩:=hrel;by_cases hlt:j<c.Z4.length
  ·have I:=hid (N.o.trans (QB c c.Z4 j hlt));obtain⟨s,vs,ac,hv,hr⟩:=((J.o.later an.o).gr).at_ (j:=j) (by simpa using hlt);rw [List.getElem_map] at hv;have aP:Hid (∀ i,j=i+1-> ∃ hi:i<c.Z4.length,VG c.Z4 j=some c.Z4[i]):=hid fun i h=>by
    subst h;exact⟨by omega,by simp [VG,show i<c.Z4.length by omega]⟩
   have aM:Hid (VG c.Z4 (j+1)=some c.Z4[j]):=hid (by simp [VG,hlt]);generalize hgj:c.Z4[j]=g at*;obtain rfl:=Gr.YY hv;have HG:Hid (∀ i' u,(g.cs)[i']?=some u->wr.cell? ((s.add (j*6)).add i')=some u):=hid fun i' u hu=>by rw [ZG];exact hr i' u hu
   unfold Gr.cs at HG;have HL:Hid ((prog.info? 53).map (·.size)=some ([sT g.Z9,sT g.ZZ,i6 g.right,sT g.ZM,sT g.to,.bool g.Zq]:lV).length):=az;have K1:Hid (ZP (wr.alloc (.cells #[sT g.Z9,sT g.ZZ,i6 g.right,sT g.ZM,sT g.to,.bool g.Zq] 53)) w.heap.size 33 [i6 c.ZO,i6 c.ZR,sl A.a0 c.ob.Z7 A.k0,sl A.a1 c.ob.Z8 A.k1,sl A.a2 c.ro.ZU A.k2,sl A.a3 c.ro.ZY A.k3,sl A.a4 c.Z4 A.k4]):=hid (K0.o.alloc _);clear hv hr hgj;rw [ac];rw [ac] at K1;go_wp2_with (first | (with_reducible refine ZK rfl 53 _ rfl (s.add (j*6)) rfl [sT g.Z9,sT g.ZZ,i6 g.right,sT g.ZM,sT g.to,.bool g.Zq] _ HG.o underlying53 rfl HL.o ?_) | (refine lO K1 aZ underlying33 ?_) | fail);refine Zi _ fun W5 L=> ?_
   have ax:=rL L (an.o.alloc an.o.size _);have G6:=nC L;have K6:=rB L (K0.o.alloc _);have L6:=rB L (L0.o.alloc _);clear L HG HL K1 an K0 L0;rw [<-ac];have cT:=Tc c A g.Z9 g.ZZ W5 (J.o.later ax.o) be;unfold Ca.cs at cT;refine cT.mono ?_
   rintro e W6 ⟨t,X,x,Y,y,rfl,hb,_⟩;have am:=bt ax hb;have G7:=bl G6 hb;have K7:=bl K6 hb;have L7:=bl L6 hb;clear hb cT ax G6 K6 L6;unfold Tb.cs;have F:Hid (Uj c g=((Uu c g.Z9 g.ZZ).isSome && (RR g.right && (g.ZM != g.to && (c.ro.ZU.contains g.ZM && c.ro.ZU.contains g.to))))):=hid (by simp only [Uj,Bool.and_assoc]);generalize (Uu c g.Z9 g.ZZ).isSome=b1 at*
   cases b1
   ·have D:Hid (res=false):=hid (by rw [E.o,I.o,F.o];rfl);clear I N F E;go_wp2;go_ret;exact⟨by rw [D.o];rfl,am.o.alloc am.o.size _⟩
   rw [Bool.true_and] at F;have g2:(W6.alloc (.cells #[sT t.Z9,sT t.name,sT t.ZN,sl X t.Z3 x,sl Y t.ZW y] 73)).cell? (aN wr 2)=some (i6 g.right):=(G7.o.alloc _).cell 2;go_wp2_with fail;refine Zi _ fun V L=> ?_
   have M:=rL L (am.o.alloc am.o.size _);have G:=rB L (G7.o.alloc _);have K8:=rB L (K7.o.alloc _);have O:=rB L (L7.o.alloc _);clear L am G7 K7 L7 g2;refine(Oc g.right V).mono ?_
   rintro e w8 ⟨rfl,rfl⟩;generalize RR g.right=b2 at*
   cases b2
   ·have D:Hid (res=false):=hid (by rw [E.o,I.o,F.o];rfl);clear I N F E;go_wp2;go_ret;exact⟨by rw [D.o];rfl,M.o⟩
   rw [Bool.true_and] at F;have g3:=ce G 3;have g4:=ce G 4;have k4:=ce K8 4;by_cases hgt:g.ZM=g.to
   ·have D:Hid (res=false):=hid (by rw [E.o,I.o,F.o,show (g.ZM != g.to)=false from by simp [hgt]];rfl);clear I N F E;go_wp2;go_ret;exact⟨by rw [D.o];rfl,M.o⟩
   rw [show (g.ZM != g.to)=true from by simp [hgt],Bool.true_and] at F;have a7:(g.ZM == g.to)=false:=by simp [hgt]
   go_wp2_with fail;refine(Zf c.ro.ZU A.a2 A.k2 g.ZM w8 (J.o.later M.o).nm aB).mono ?_
   rintro e w9 ⟨rfl,rfl⟩;generalize c.ro.ZU.contains g.ZM=b4 at*
   cases b4
   ·have D:Hid (res=false):=hid (by rw [E.o,I.o,F.o];rfl);clear I N F E;go_wp2;go_ret;exact⟨by rw [D.o];rfl,M.o⟩
   rw [Bool.true_and] at F;go_wp2_with fail;refine(Zf c.ro.ZU A.a2 A.k2 g.to w9 (J.o.later M.o).nm aB).mono ?_
   rintro e V ⟨rfl,rfl⟩;generalize c.ro.ZU.contains g.to=b5 at*
   cases b5
   ·have D:Hid (res=false):=hid (by rw [E.o,I.o,F.o];rfl);clear I N F E;go_wp2;go_ret;exact⟨by rw [D.o];rfl,M.o⟩
   have aw:=hid (I.o.trans (by rw [F.o,Bool.true_and]));clear I F N;go_wp2_with fail;clear hgt a7 g3 g4 k4;by_cases hj0:j=0
   ·have a8: ¬ (j:Int) > 0:=by omega
    have ba: ¬ (0:Int)< (j:Int):=by omega
    have U:Hid (Yu c none c.Z4=Yu c (VG c.Z4 (j+1)) (c.Z4.drop (j+1))):=hid (aw.o.trans (by rw [show VG c.Z4 j=none from by simp [VG,hj0]];simp));clear hj0 aw;refine wp_region_held_drew (S:=fun w'=>Bw V w') (by kernel_rfl) (br.drew) (fun d=> ?_)
    (try simp only [pp]);refine tk 0 86 d ?_;refine tb 1 87 (.bool false) d ?_;refine tk 2 88 d ?_;refine sk 3 89 d ?_;refine sk 4 90 d ?_;refine sk 5 91 d ?_;refine sk 6 92 d ?_;refine sk 7 93 d ?_;refine sk 8 94 d ?_;refine sk 9 95 d ?_;refine sk 10 96 d ?_;refine sk 11 97 d ?_;refine sk 12 98 d ?_;refine sk 13 99 d ?_;refine sk 14 100 d ?_;refine sk 15 101 d ?_;refine sk 16 102 d ?_;refine sk 17 103 d ?_;refine tk 18 104 d ?_;refine wpAnyH_done (by kernel_rfl) ?_ _
    have aH:=hid (M.o.trans (show Below w.heap.size V V.drew from br.drew));have Gx:=hid (G.o.drew);have Kx:=hid (K8.o.drew);have Lx:=hid (O.o.drew);generalize V.drew=Vx at*;go_wp2_with (first | (refine lO Gx az underlying53 ?_) | fail);have cF:=Rl g Vx;unfold Gr.cs at cF;refine cF.mono ?_
    rintro e Wy ⟨rfl,hb⟩;have ay:=bt aH hb;have Ky:=bl Kx hb;have Ly:=bl Lx hb;clear hb cF aH Gx Kx Lx;unfold Xm;go_wp2_with (first | ((refine sO Ly aK ?_);intro wS HS) | fail);go_roundw
    case rel=>exact⟨j+1,g,by omega,by go_num,hid (fun q h=>by rw [aM.o] at h;injection h),U,HS.o.below ay.o (by omega),(by have:=HS.o.other Ky.o (by omega);rw [ac] at this;exact this),HS.o.YK⟩
    case measure=>simp [intOf];omega
   ·obtain⟨i,rfl⟩: ∃ i,j=i+1:=⟨j - 1,by omega⟩
    obtain⟨hi,aC⟩:=aP.o i rfl;have bc:=aL.o _ aC;have U:Hid (Yu c none c.Z4=((!(Yq g == Yq c.Z4[i]) && !decide (0<RZ c.Z4[i] g)) && Yu c (VG c.Z4 (i+1+1)) (c.Z4.drop (i+1+1)))):=hid (aw.o.trans (by rw [aC]));obtain⟨bg,bm,ab,aF,ae⟩:=((J.o.later M.o).gr).at_ (j:=i) (by simpa using hi);rw [ac] at ab;injection ab with ab
    subst ab;rw [List.getElem_map] at aF;subst bc;clear aw aC aL aP hj0;generalize c.Z4[i]=q at*;obtain rfl:=Gr.YY aF;have aE:=e0 (m:=i*6) ae;have aT:=ef (m:=i*6) ae 1;have aU:=ef (m:=i*6) ae 2;have aV:=ef (m:=i*6) ae 3;have aW:=ef (m:=i*6) ae 4;have aX:=ef (m:=i*6) ae 5;have ai:=World.block_lt_of_cell? V _ aE;have af:=G.o.lt;have ah:=O.o.lt;have aY:=K8.o.lt;have k6:V.cell? (aN w 6)=some (sl (some s) c.Z4 A.k4):=by rw [<-ac];exact K8.o.cell 6
    have HF:Hid (∀ W,Bw V W->Bw V W/\W.cell? (aN w 6)=some (sl (some s) c.Z4 A.k4)/\W.cell? (aN wr 0)=some (sT g.Z9)/\W.cell? (aN wr 1)=some (sT g.ZZ)/\W.cell? (aN wr 2)=some (i6 g.right)/\W.cell? (aN wr 3)=some (sT g.ZM)/\W.cell? (aN wr 4)=some (sT g.to)/\W.cell? (aN wr 5)=some (.bool g.Zq)/\W.cell? (aN C 0)=some (sT q.Z9)/\W.cell? (aN C 1)=some (sT q.ZZ)/\W.cell? (aN C 2)=some (i6 q.right)/\W.cell? (aN C 3)=some (sT q.ZM)/\W.cell? (aN C 4)=some (sT q.to)/\W.cell? (s.add (i*6))=some (sT q.Z9)/\W.cell? ⟨(s.add (i*6)).block,(s.add (i*6)).off+1,none⟩=some (sT q.ZZ)/\W.cell? ⟨(s.add (i*6)).block,(s.add (i*6)).off+2,none⟩=some (i6 q.right)/\W.cell? ⟨(s.add (i*6)).block,(s.add (i*6)).off+3,none⟩=some (sT q.ZM)/\W.cell? ⟨(s.add (i*6)).block,(s.add (i*6)).off+4,none⟩=some (sT q.to)/\W.cell? ⟨(s.add (i*6)).block,(s.add (i*6)).off+5,none⟩=some (.bool q.Zq)):=hid fun W h=>⟨h,ct k6 h aY,
     (h.cell (p:=(aN wr 0)) af).trans (G.o.cell 0),(h.cell (p:=(aN wr 1)) af).trans (G.o.cell 1),(h.cell (p:=(aN wr 2)) af).trans (G.o.cell 2),(h.cell (p:=(aN wr 3)) af).trans (G.o.cell 3),(h.cell (p:=(aN wr 4)) af).trans (G.o.cell 4),(h.cell (p:=(aN wr 5)) af).trans (G.o.cell 5),
     (h.cell (p:=(aN C 0)) ah).trans (O.o.cell 0),(h.cell (p:=(aN C 1)) ah).trans (O.o.cell 1),(h.cell (p:=(aN C 2)) ah).trans (O.o.cell 2),(h.cell (p:=(aN C 3)) ah).trans (O.o.cell 3),(h.cell (p:=(aN C 4)) ah).trans (O.o.cell 4),
     ct aE h ai,ct aT h ai,ct aU h ai,ct aV h ai,ct aW h ai,ct aX h ai⟩
    have av:Hid (∀ W,Bw V W->Bw w W/\ZP W wr.heap.size 53 [sT g.Z9,sT g.ZZ,i6 g.right,sT g.ZM,sT g.to,.bool g.Zq]/\ZP W w.heap.size 33 [i6 c.ZO,i6 c.ZR,sl A.a0 c.ob.Z7 A.k0,sl A.a1 c.ob.Z8 A.k1,sl A.a2 c.ro.ZU A.k2,sl A.a3 c.ro.ZY A.k3,sl A.a4 c.Z4 A.k4]/\ZP W C.heap.size 156 (Xm q)):=hid fun W h=>⟨M.o.trans (h.mono (by omega)),G.o.below h af,K8.o.below h aY,O.o.below h ah⟩
    have a8:((i+1:Nat):Int) > 0:=by omega
    have ba:(0:Int)< ((i+1:Nat):Int):=by omega
    have bb:((i+1:Nat):Int) - 1=(i:Int):=by omega
    have bk:IntKind.i64.wrap (((i+1:Nat):Int) - 1)=(i:Int):=by rw [bb];simp [IntKind.wrap,IntKind.bits,IntKind.signed];omega
    have bf:IntKind.i64.wrap (i:Int)=(i:Int):=by simp [IntKind.wrap,IntKind.bits,IntKind.signed];omega
    have bi:(i:Int)< (c.Z4.length:Int):=by omega
    have bh:(0:Int)<=(i:Int):=by omega
    have aS: ∀ W,(binOp .eql 156 (.agg #[sT g.Z9,sT g.ZZ,i6 g.right,sT g.ZM,sT g.to]) (.agg #[sT q.Z9,sT q.ZZ,i6 q.right,sT q.ZM,sT q.to])).run prog W= .ok (.bool (Yq g == Yq q)) W:=fun W=>F1 g q W
    have ap:=fun W=>Rl g W
    simp only [Gr.cs,Xm] at ap;have aa:=fun W=>RY q g W
    simp only [Gr.cs] at aa;generalize RZ q g=r at*;clear aF ae aE aT aU aV aW aX k6 M G K8 O;generalize (Yq g == Yq q)=e1 at*
    cases e1
    ·refine wp_region_held_drew (S:=fun W=>Bw V W/\W.cell? (aN w 6)=some (sl (some s) c.Z4 A.k4)/\W.cell? (aN wr 0)=some (sT g.Z9)/\W.cell? (aN wr 1)=some (sT g.ZZ)/\W.cell? (aN wr 2)=some (i6 g.right)/\W.cell? (aN wr 3)=some (sT g.ZM)/\W.cell? (aN wr 4)=some (sT g.to)/\W.cell? (aN wr 5)=some (.bool g.Zq)/\W.cell? (aN C 0)=some (sT q.Z9)/\W.cell? (aN C 1)=some (sT q.ZZ)/\W.cell? (aN C 2)=some (i6 q.right)/\W.cell? (aN C 3)=some (sT q.ZM)/\W.cell? (aN C 4)=some (sT q.to)/\W.cell? (s.add (i*6))=some (sT q.Z9)/\W.cell? ⟨(s.add (i*6)).block,(s.add (i*6)).off+1,none⟩=some (sT q.ZZ)/\W.cell? ⟨(s.add (i*6)).block,(s.add (i*6)).off+2,none⟩=some (i6 q.right)/\W.cell? ⟨(s.add (i*6)).block,(s.add (i*6)).off+3,none⟩=some (sT q.ZM)/\W.cell? ⟨(s.add (i*6)).block,(s.add (i*6)).off+4,none⟩=some (sT q.to)/\W.cell? ⟨(s.add (i*6)).block,(s.add (i*6)).off+5,none⟩=some (.bool q.Zq)) (by kernel_rfl) (HF.o _ br.drew) (fun d=> ?_)
     (try simp only [pp]);refine tk 0 86 d ?_;refine tb 1 87 (.bool true) d ?_;refine tk 2 88 d ?_;refine tk 3 89 d ?_;refine tk 5 91 d ?_;refine on 4 90 fun K hK=> ?_
     go_simp;go_at_call 88
     refine(ap _).mono ?_
     rintro e w5 ⟨rfl,hb⟩;have Z:=d.1.trans (hb.mono d.1.size);clear hb;refine hK.out _ _ (HF.o _ Z) (fun d=> ?_);clear Z;clear hK K;(try simp only [pp])
     refine tk 6 92 d ?_;refine tk 7 93 d ?_;refine tk 8 94 d ?_;refine tk 9 95 d ?_;refine tk 10 96 d ?_;refine tk 11 97 d ?_;refine tk 12 98 d ?_;refine tk 13 99 d ?_;refine tk 14 100 d ?_;refine on 15 101 fun K hK=> ?_
     go_simp;go_at_call 90
     refine(aa _).mono ?_
     rintro e w6 ⟨rfl,hb⟩;have Z:=d.1.trans (hb.below.mono d.1.size);clear hb;refine hK.out _ _ (HF.o _ Z) (fun d=> ?_);clear Z;clear hK K;(try simp only [pp])
     refine tk 16 102 d ?_;refine tk 17 103 d ?_;refine tk 18 104 d ?_;refine wpAnyH_done (by kernel_rfl) ?_ _
     obtain⟨ar,gx,kx,lx⟩:=av.o _ d.1;have ao:=hid ar;have Gz:=hid gx;have Kz:=hid kx;have Lz:=hid lx;clear ar gx kx lx d HF av ap aa aS;by_cases hr0:0<r
     ·have D:Hid (res=false):=hid (by rw [E.o,U.o,decide_eq_true hr0];rfl);have bd:r > 0:=hr0;clear U E;go_wp2;go_ret;exact⟨by rw [D.o];rfl,ao.o⟩
     ·have bd: ¬ r > 0:=hr0;have a6:=hid (U.o.trans (by rw [decide_eq_false hr0];rfl:_=Yu c (VG c.Z4 (i+1+1)) (c.Z4.drop (i+1+1))))
      clear U;go_wp2_with (first | (refine lO Gz az underlying53 ?_) | fail);have cF:=Rl g w6;unfold Gr.cs at cF;refine cF.mono ?_
      rintro e Wy ⟨rfl,hb⟩;have ay:=bt ao hb;have Ky:=bl Kz hb;have Ly:=bl Lz hb;clear hb cF ao Gz Kz Lz;unfold Xm;go_wp2_with (first | ((refine sO Ly aK ?_);intro wS HS) | fail);go_roundw
      case rel=>exact⟨i+1+1,g,by omega,by go_num,hid (fun q h=>by rw [aM.o] at h;injection h),a6,HS.o.below ay.o (by omega),(by have:=HS.o.other Ky.o (by omega);rw [ac] at this;exact this),HS.o.YK⟩
      case measure=>simp [intOf];omega
    ·refine wp_region_held_drew (S:=fun W=>Bw V W/\W.cell? (aN w 6)=some (sl (some s) c.Z4 A.k4)/\W.cell? (aN wr 0)=some (sT g.Z9)/\W.cell? (aN wr 1)=some (sT g.ZZ)/\W.cell? (aN wr 2)=some (i6 g.right)/\W.cell? (aN wr 3)=some (sT g.ZM)/\W.cell? (aN wr 4)=some (sT g.to)/\W.cell? (aN wr 5)=some (.bool g.Zq)/\W.cell? (aN C 0)=some (sT q.Z9)/\W.cell? (aN C 1)=some (sT q.ZZ)/\W.cell? (aN C 2)=some (i6 q.right)/\W.cell? (aN C 3)=some (sT q.ZM)/\W.cell? (aN C 4)=some (sT q.to)/\W.cell? (s.add (i*6))=some (sT q.Z9)/\W.cell? ⟨(s.add (i*6)).block,(s.add (i*6)).off+1,none⟩=some (sT q.ZZ)/\W.cell? ⟨(s.add (i*6)).block,(s.add (i*6)).off+2,none⟩=some (i6 q.right)/\W.cell? ⟨(s.add (i*6)).block,(s.add (i*6)).off+3,none⟩=some (sT q.ZM)/\W.cell? ⟨(s.add (i*6)).block,(s.add (i*6)).off+4,none⟩=some (sT q.to)/\W.cell? ⟨(s.add (i*6)).block,(s.add (i*6)).off+5,none⟩=some (.bool q.Zq)) (by kernel_rfl) (HF.o _ br.drew) (fun d=> ?_)
     (try simp only [pp]);refine tk 0 86 d ?_;refine tb 1 87 (.bool true) d ?_;refine tk 2 88 d ?_;refine tk 3 89 d ?_;refine tk 5 91 d ?_;refine on 4 90 fun K hK=> ?_
     go_simp;go_at_call 88
     refine(ap _).mono ?_
     rintro e w5 ⟨rfl,hb⟩;have Z:=d.1.trans (hb.mono d.1.size);clear hb;refine hK.out _ _ (HF.o _ Z) (fun d=> ?_);clear Z;clear hK K;(try simp only [pp])
     refine tk 6 92 d ?_;refine tk 7 93 d ?_;refine sk 8 94 d ?_;refine sk 9 95 d ?_;refine sk 10 96 d ?_;refine sk 11 97 d ?_;refine sk 12 98 d ?_;refine sk 13 99 d ?_;refine sk 14 100 d ?_;refine sk 15 101 d ?_;refine sk 16 102 d ?_;refine tk 17 103 d ?_;refine tk 18 104 d ?_;refine wpAnyH_done (by kernel_rfl) ?_ _
     obtain⟨ar,_,_,_⟩:=av.o _ d.1;have ao:=hid ar;have D:Hid (res=false):=hid (by rw [E.o,U.o];rfl)
     clear ar d HF av ap aa aS U E;go_wp2;go_ret;exact⟨by rw [D.o];rfl,ao.o⟩
  ·obtain rfl:j=c.Z4.length:=by omega
   rw [List.drop_length] at N;have D:Hid (res=true):=hid (by rw [E.o,N.o];rfl)
   go_wp2;go_ret;exact⟨by rw [D.o];rfl,an.o⟩
theorem Hq (p:List UInt8->Bool)(g:Nat)(lb:Array Value)(l:List (List UInt8))(A:Option Addr)(c:Nat)(w:World)(m: ∀ args w,(callFunc g args).run prog w= .ok (.enter g args) w)(s:Zj w w.heap.size A Yy l)(u:l.length<=1099511627776)
  (C: ∀ W x,Below w.heap.size w W->x∈l->Calls prog g (#[(.string (Z2 x))] ++lb) W fun e w'=>e= .returned (.bool (p x))/\Below W.heap.size W w'):
  Calls prog 99 #[.slice A l.length c,.func (.func g) #[] lb] w fun e w'=>e= .returned (.bool (l.any p))/\Below w.heap.size w w':=by
 have h:=LQ p g lb l A c w m s u C;have j:=hid (WN p l);generalize l.any p=r at*;generalize Zd p l 0=i at*;go_enter func99,ntmps99
 go_wp2_with fail;refine h.mono ?_
 rintro e w' ⟨rfl,hb⟩;have d:=hid hb;go_wp2;go_ret;exact⟨by rw [<-j.out];rfl,d.out⟩
theorem KV (s:Sc)(t:Tb)(X:Option Addr)(x:Nat)(Y:Option Addr)(y b:Nat)(w:World)(d:ZP w b 73 [.string (Z2 t.Z9),.string (Z2 t.name),.string (Z2 t.ZN),.slice X t.Z3.length x,.slice Y t.ZW.length y]):
  Calls prog 98 #[.agg (s.cs).toArray,.pointer (some ⟨b,0,none⟩)] w fun e w'=>e= .returned (.bool (s.name == t.Z9))/\Below w.heap.size w w':=by
 have j:w.cell? ⟨b,0,none⟩=some (.string (Z2 t.Z9)):=d.cell 0;have h:=d.lt;clear d;unfold Sc.cs;go_enter func98,ntmps98
 go_wp2;go_ret;exact⟨rfl,br.alloc lr _⟩
theorem KU (c:Ca)(A:Wd)(t:Tb)(X:Option Addr)(x:Nat)(Y:Option Addr)(y h s u i:Nat)(r:List UInt8)(w:World)(E:ZP w h 73 [.string (Z2 t.Z9),.string (Z2 t.name),.string (Z2 t.ZN),.slice X t.Z3.length x,.slice Y t.ZW.length y])(F:ZP w s 33 [.int .i64 c.ZO,.int .i64 c.ZR,.slice A.a0 c.ob.Z7.length A.k0,.slice A.a1 c.ob.Z8.length A.k1,.slice A.a2 c.ro.ZU.length A.k2,.slice A.a3 c.ro.ZY.length A.k3,.slice A.a4 c.Z4.length A.k4])(G:ZP w u 3 [.int .i64 i])
  (I:UH w w.heap.size c A) (M:i<c.ob.Z7.length) (J:QN c t=c.ob.Z7[i].ZN):
  Calls prog 100 #[.string (Z2 r),.pointer (some ⟨h,0,none⟩),.pointer (some ⟨s,0,none⟩),.pointer (some ⟨u,0,none⟩)] w fun e w'=>e= .returned (.bool (r == Yi || r == t.ZN || r == QN c t))/\Below w.heap.size w w':=by
 obtain⟨L,Z,D,C,K⟩:=(I.sc).at_ (j:=i) (by simpa using M);rw [List.getElem_map] at C;rw [J];generalize c.ob.Z7[i]=q at*;obtain rfl:=Sc.YY C;have a1:=ef (m:=i*2) K 1;have N:w.cell? ⟨h,2,none⟩=some (.string (Z2 t.ZN)):=E.cell 2;have O:w.cell? ⟨s,2,none⟩=some (.slice (some L) c.ob.Z7.length A.k0):=by rw [<-D];exact F.cell 2
 have T:w.cell? ⟨u,0,none⟩=some (.int .i64 i):=G.cell 0;have U:(i:Int)< (c.ob.Z7.length:Int):=by omega
 have V:(0:Int)<=(i:Int):=by omega
 clear C K E F G I J D
 cases k1:(r == Yi)
 ·have d:(r == [114,111,111,116])=false:=k1;clear k1
  cases k2:(r == t.ZN)
  ·go_enter func100,ntmps100
   go_wp2;go_ret;refine⟨?_,Below.refl _ _⟩
   first | rfl | simp [d]
  ·go_enter func100,ntmps100
   go_wp2;go_ret;refine⟨?_,Below.refl _ _⟩
   first | rfl | simp [d]
 ·have d:(r == [114,111,111,116])=true:=k1;clear k1;go_enter func100,ntmps100
  go_wp2;go_ret;refine⟨?_,Below.refl _ _⟩
  first | rfl | simp [d]
theorem PZ (c:Ca)(A:Wd)(is:List (List UInt8))(I:Option Addr)(ic:Nat)(t:Tb)(X:Option Addr)(x:Nat)(Y:Option Addr)(y i:Nat)(w:World)(Z:UH w w.heap.size c A)(V:Zj w w.heap.size I Yy is)(ad:is.length<=1099511627776)
  (ae:c.ob.Z7.length<=1099511627776) (F:Xd c.ob.Z7 t.Z9=some i):
  Calls prog 45 #[.agg (c.cs A).toArray,.slice I is.length ic,.agg (t.cs X x Y y).toArray] w fun e w'=>e= .returned (.bool (VD c is t))/\Below w.heap.size w w':=by
 have J:=hid Z;have ab:=hid V;obtain⟨hi,hf⟩:=Wt (show c.ob.Z7.findIdx? (fun s=>s.name == t.Z9)=some i from F);have HO:Hid (QN c t=c.ob.Z7[i].ZN):=hid (by unfold QN;rw [hf];rfl)
 have HR:Hid (VD c is t=is.any fun r=>r == Yi || r == t.ZN || r == QN c t):=hid rfl;have ac:=hid F;clear Z V hf F;generalize VD c is t=res at*;unfold Ca.cs Tb.cs;go_enter func45,ntmps45
 go_wp2_with fail;refine Zi _ fun W h=> ?_
 have u:=bQ h;have L:=nD h;have m:=nF h;clear h;have G:=m.out.lt;have E:=Uh (fun d=>tx d 0 == t.Z9) 98 #[.pointer (some ⟨w.heap.size+1,0,none⟩)] (c.ob.Z7.map Sc.da) A.a0 A.k0 W (enters_of func98 (by kernel_rfl) rfl) (J.out.later u.out).sc (by simpa using ae) (by
  intro D d vs hb _ hv;obtain⟨q,rfl,rfl⟩:=Sc.YG hv;exact KV q t X x Y y (w.heap.size+1) D (m.out.below hb G))
 rw [List.length_map,Te,ac.out] at E;refine E.mono ?_
 rintro e U ⟨rfl,hb⟩;rw [show WS (some i)=(i:Int) from rfl];have C:=bt u hb;have M:=bl L hb;have O:=hid (m.out.below hb G);clear hb E u L m;go_wp2_with fail;refine Zi _ fun W3 h=> ?_
 have j:=rL h (C.out.alloc C.out.size _);have N:=rB h (M.out.alloc _);have T:=rB h (O.out.alloc _);have K:=nC h;clear h C M O;refine(Hq (fun r=>r == Yi || r == t.ZN || r == QN c t) 100 #[.pointer (some ⟨w.heap.size+1,0,none⟩),.pointer (some ⟨w.heap.size,0,none⟩),.pointer (some ⟨U.heap.size,0,none⟩)] is I ic W3 (enters_of func100 (by kernel_rfl) rfl) (ab.out.later j.out) ad (fun D r hb _=>
  KU c A t X x Y y (w.heap.size+1) w.heap.size U.heap.size i r D (T.out.below hb T.out.lt) (N.out.below hb N.out.lt) (K.out.below hb K.out.lt) (J.out.later (j.out.trans (hb.mono j.out.size))) hi HO.out)).mono ?_
 rintro e w' ⟨rfl,hb⟩;have aa:=bt j hb;clear hb;generalize (is.any fun r=>r == Yi || r == t.ZN || r == QN c t)=q at*;go_wp2;go_ret;exact⟨by rw [HR.out];rfl,aa.out⟩
def Dc (d:List Da)(i:Nat):Int:=match d[i]? with
 | some (.int n)=>n
 | _=>0
def Dd (d:List Da)(i:Nat):Bool:=match d[i]? with
 | some (.YD b)=>b
 | _=>false
def DF (d:List Da):Gr:=⟨tx d 0,tx d 1,Dc d 2,tx d 3,tx d 4,Dd d 5⟩
def TI (is:List (List UInt8))(t:Tb)(right:Int)(Zq:Bool)(g:Gr):Bool:=g.Z9 == t.Z9 && g.ZZ == t.name && g.right == right && (g.Zq || !Zq) && is.contains g.to
theorem KB (g:Gr)(is:List (List UInt8))(I:Option Addr)(K:Nat)(t:Tb)(X:Option Addr)(x:Nat)(Y:Option Addr)(y:Nat)(right:Int)(Zq:Bool)(m C D E:Nat)(w:World)(s:ZP w m 73 [.string (Z2 t.Z9),.string (Z2 t.name),.string (Z2 t.ZN),.slice X t.Z3.length x,.slice Y t.ZW.length y])(F:ZP w C 41 [.int .i64 right])(G:ZP w D 4 [.bool Zq])(J:ZP w E 27 [.slice I is.length K])
  (L:Zj w w.heap.size I Yy is) (M:is.length<=1099511627776):
  Calls prog 102 #[.agg (g.cs).toArray,.pointer (some ⟨m,0,none⟩),.pointer (some ⟨C,0,none⟩),.pointer (some ⟨D,0,none⟩),.pointer (some ⟨E,0,none⟩)] w fun e w'=>e= .returned (.bool (TI is t right Zq g))/\Below w.heap.size w w':=by
 have N:=hid L;have a0:w.cell? ⟨m,0,none⟩=some (.string (Z2 t.Z9)):=s.cell 0;have a1:w.cell? ⟨m,1,none⟩=some (.string (Z2 t.name)):=s.cell 1;have a2:w.cell? ⟨C,0,none⟩=some (.int .i64 right):=F.cell 0;have a3:w.cell? ⟨D,0,none⟩=some (.bool Zq):=G.cell 0;have a4:w.cell? ⟨E,0,none⟩=some (.slice I is.length K):=J.cell 0;have l1:=s.lt;have O:=F.lt;have T:=G.lt;have U:=J.lt;have d:Hid (TI is t right Zq g=(g.Z9 == t.Z9 && (g.ZZ == t.name && (g.right == right && ((g.Zq || !Zq) && is.contains g.to))))):=hid (by simp only [TI,Bool.and_assoc]);clear L s F G J;generalize TI is t right Zq g=res at*;unfold Gr.cs;have j:Hid (Below w.heap.size w (w.alloc (.cells #[.string (Z2 g.Z9),.string (Z2 g.ZZ),.int .i64 g.right,.string (Z2 g.ZM),.string (Z2 g.to),.bool g.Zq] 53))):=hid (br.alloc lr _);go_enter func102,ntmps102
 cases k1:(g.Z9 == t.Z9)
 ·rw [k1] at d;go_wp2;go_ret;exact⟨by rw [d.out];rfl,j.out⟩
 rw [k1] at d
 cases k2:(g.ZZ == t.name)
 ·rw [k2] at d;go_wp2;go_ret;exact⟨by rw [d.out];rfl,j.out⟩
 rw [k2] at d
 cases k3:(g.right == right)
 ·rw [k3] at d;go_wp2;go_ret;exact⟨by rw [d.out];rfl,j.out⟩
 rw [k3] at d;have u:=hid (fun W (h:Below w.heap.size w W)=>Zf is I K g.to W (NE (N.out.later h)) M);generalize is.contains g.to=b at*;generalize hgo:g.Zq=o at*
 cases o <;> cases Zq
 ·rw [show (false || !false)=true from rfl] at d;go_wp2_with fail;refine(u.out _ j.out).mono ?_
  rintro e w' ⟨rfl,rfl⟩;go_wp2;go_ret;exact⟨by rw [d.out];rfl,j.out⟩
 ·rw [show (false || !true)=false from rfl] at d;go_wp2;go_ret;exact⟨by rw [d.out];rfl,j.out⟩
 ·rw [show (true || !false)=true from rfl] at d;go_wp2_with fail;refine(u.out _ j.out).mono ?_
  rintro e w' ⟨rfl,rfl⟩;go_wp2;go_ret;exact⟨by rw [d.out];rfl,j.out⟩
 ·rw [show (true || !true)=true from rfl] at d;go_wp2_with fail;refine(u.out _ j.out).mono ?_
  rintro e w' ⟨rfl,rfl⟩;go_wp2;go_ret;exact⟨by rw [d.out];rfl,j.out⟩
theorem Od (l:List Gr)(G:Option Addr)(gc:Nat)(is:List (List UInt8))(I:Option Addr)(j:Nat)(t:Tb)(X:Option Addr)(x:Nat)(Y:Option Addr)(y:Nat)(right:Int)(Zq:Bool)(w:World)(F:ZT w (· < w.heap.size) Ya (l.map Gr.da) G)(V:l.length<=1099511627776)(J:Zj w w.heap.size I Yy is)(M:is.length<=1099511627776):
  Calls prog 47 #[.slice G l.length gc,.slice I is.length j,.agg (t.cs X x Y y).toArray,.int .i64 right,.bool Zq] w fun e w'=>e= .returned (.bool (TJ l is t right Zq))/\Below w.heap.size w w':=by
 have N:=hid F;have O:=hid J;have T:Hid (TJ l is t right Zq=l.any (TI is t right Zq)):=hid rfl;clear F J;generalize TJ l is t right Zq=res at*;unfold Tb.cs;go_enter func47,ntmps47
 go_wp2_with fail;refine Zi _ fun W h=> ?_
 have m:Hid (Below w.heap.size w W):=hid (by rw [h];exact(((br.alloc lr _).alloc (by simp) _).alloc (by simp;omega) _).alloc (by simp;omega) _);have u:Hid (ZP W w.heap.size 27 [.slice I is.length j]):=hid (by rw [h];exact(((ZP.new w _ _).alloc _).alloc _).alloc _);have E:Hid (ZP W (w.heap.size+1) 73 [.string (Z2 t.Z9),.string (Z2 t.name),.string (Z2 t.ZN),.slice X t.Z3.length x,.slice Y t.ZW.length y]):=hid (by
  rw [h];have:=((ZP.new (w.alloc (.cells #[.slice I is.length j] 27)) 73 [.string (Z2 t.Z9),.string (Z2 t.name),.string (Z2 t.ZN),.slice X t.Z3.length x,.slice Y t.ZW.length y]).alloc (.cells #[.int .i64 right] 41)).alloc (.cells #[.bool Zq] 4);simpa using this)
 have D:Hid (ZP W (w.heap.size+2) 41 [.int .i64 right]):=hid (by
  rw [h];have:=(ZP.new ((w.alloc (.cells #[.slice I is.length j] 27)).alloc (.cells #[.string (Z2 t.Z9),.string (Z2 t.name),.string (Z2 t.ZN),.slice X t.Z3.length x,.slice Y t.ZW.length y] 73)) 41 [.int .i64 right]).alloc (.cells #[.bool Zq] 4);simpa using this)
 have C:Hid (ZP W (w.heap.size+3) 4 [.bool Zq]):=hid (by
  rw [h];have:=ZP.new (((w.alloc (.cells #[.slice I is.length j] 27)).alloc (.cells #[.string (Z2 t.Z9),.string (Z2 t.name),.string (Z2 t.ZN),.slice X t.Z3.length x,.slice Y t.ZW.length y] 73)).alloc (.cells #[.int .i64 right] 41)) 4 [.bool Zq];simpa using this)
 clear h;have s:=N9 (fun d=>TI is t right Zq (DF d)) 102 #[.pointer (some ⟨w.heap.size+1,0,none⟩),.pointer (some ⟨w.heap.size+2,0,none⟩),.pointer (some ⟨w.heap.size+3,0,none⟩),.pointer (some ⟨w.heap.size,0,none⟩)] (l.map Gr.da) G gc W (enters_of func102 (by kernel_rfl) rfl) (N.out.later m.out) (by simpa using V) (by
  intro U d vs hb _ Z;obtain⟨g,rfl,rfl⟩:=Gr.YG Z;exact KB g is I j t X x Y y right Zq (w.heap.size+1) (w.heap.size+2) (w.heap.size+3) w.heap.size U (E.out.below hb E.out.lt) (D.out.below hb D.out.lt) (C.out.below hb C.out.lt) (u.out.below hb u.out.lt) (O.out.later (m.out.trans (hb.mono m.out.size))) M)
 rw [List.length_map,List.any_map] at s;refine s.mono ?_
 rintro e w' ⟨rfl,hb⟩;have K:=bt m hb;have L:Hid (res=l.any ((fun d=>TI is t right Zq (DF d))∘Gr.da)):=hid T.out;clear hb s;generalize l.any ((fun d=>TI is t right Zq (DF d))∘Gr.da)=q at*;go_wp2;go_ret;exact⟨by rw [L.out];rfl,K.out⟩
end Go.Proofs.YtnhmoibjlakhjaaGreat
