/- Lemmas, each under its own conditions. -/
import Derived.Test.YtnhmoibjlakhjaaGreatW42
set_option linter.all false
namespace Go.Proofs.YtnhmoibjlakhjaaGreat
open Go.Proofs.Tryz
open Lib (hid)
set_option maxRecDepth 100000
set_option maxHeartbeats 16000000
open Go.RowKit
theorem FX (p:Gr->Bool)(g:Nat)(lb:Array Value)(l:List Gr)(A:oA)(c:Nat)(w:World)(V: ∀ args w,(callFunc g args).run prog w= .ok (.enter g args) w)(I:Zj w w.heap.size A Gr.cs l)(hn:l.length<=1099511627776)
  (J: ∀ W x,Bw w W->x∈l->cQ g (#[(.agg #[sT x.Z9,sT x.ZZ,i6 x.right,sT x.ZM,sT x.to,.bool x.Zq])] ++lb) W fun e w'=>e= .returned (.bool (p x))/\Bw W w'):
  cQ 156 #[.slice A l.length c,.func (.func g) #[] lb] w fun e w'=>e= .returned (i6 (Zd p l 0))/\Bw w w':=by
 have M:=hid I;have O:=hid J;have N:=iN 53 6;clear I J;go_enter func156,ntmps156
 go_wp2;go_loopw [8] (fun i wr=> ∃ j:Nat,j<=l.length/\i=i6 j/\Hid (Bw w wr)/\Hid (Zd p l 0=Zd p (l.drop j) j)) (fun i _=>l.length - (intOf i).toNat)
 case atStart=>exact⟨0,Nat.zero_le _,rfl,hid br,hid (by rw [List.drop_zero])⟩
 case round=>
  obtain⟨j,Z,rfl,d,C⟩:=hrel;by_cases hlt:j<l.length
  ·obtain⟨D,rfl,T,E⟩:=(M.o.later d.o) (by omega);have h:Hid (Zd p l 0=if p l[j]=true then(j:Int) else Zd p (l.drop (j+1)) (j+1)):=hid (C.o.trans (WY hlt));have m:=hid (O.o wr l[j] d.o (List.getElem_mem hlt));have F:Hid (∀ i u,[.string (Z2 l[j].Z9),.string (Z2 l[j].ZZ),i6 l[j].right,.string (Z2 l[j].ZM),.string (Z2 l[j].to),.bool l[j].Zq][i]?=some u->wr.cell? ((D.add (j*6)).add i)=some u):=hid fun i u K=>by
    rw [ZG];exact E (j*6+i) u (by rw [Zl Gr.k l j i hlt ((List.getElem?_eq_some_iff.1 K).1)];exact K)
   clear E T;generalize l[j]=x at*;have G:Hid ((prog.info? 53).map (·.size)=some ([sT x.Z9,sT x.ZZ,i6 x.right,sT x.ZM,sT x.to,.bool x.Zq]:lV).length):=hid N.o
   cases hq:p x
   ·rw [hq] at h m;have s:Hid (Zd p l 0=Zd p (l.drop (j+1)) (j+1)):=hid h.o;clear h hq;go_wp2_with (first | (with_reducible refine ZK rfl 53 _ rfl (D.add (j*6)) rfl _ _ F.o underlying53 rfl G.o ?_) | (go_at_fn g;refine m.o.mono ?_;rintro e U ⟨rfl,hb⟩) | fail);have L:=bt d hb;go_roundw
    case rel=>exact⟨j+1,by omega,by go_num,L,s⟩
    case measure=>simp [intOf];omega
   ·rw [hq] at h m;have s:Hid (Zd p l 0=(j:Int)):=hid h.o;clear h hq;go_wp2_with (first | (with_reducible refine ZK rfl 53 _ rfl (D.add (j*6)) rfl _ _ F.o underlying53 rfl G.o ?_) | (go_at_fn g;refine m.o.mono ?_;rintro e U ⟨rfl,hb⟩) | fail);go_ret;exact⟨by rw [s.o];rfl,d.o.trans (hb.mono d.o.size)⟩
  ·obtain rfl:j=l.length:=by omega
   rw [List.drop_length] at C;go_wp2;go_ret;exact⟨by rw [C.o];rfl,d.o⟩
theorem JD (p:Gr->Bool)(g:Nat)(lb:Array Value)(base:Nat)(l:List Gr)(A:oA)(c:Nat)(w:World)(eg: ∀ args w,(callFunc g args).run prog w= .ok (.enter g args) w)(h:w.ownsRow base 53 6 (.slice A l.length c) l.length (l.flatMap Gr.cs))(hn:l.length<=1099511627776)(M:base<=w.heap.size)
  (hp: ∀ W x,Below base w W->x∈l->cQ g (#[(.agg #[sT x.Z9,sT x.ZZ,i6 x.right,sT x.ZM,sT x.to,.bool x.Zq])] ++lb) W fun e w'=>e= .returned (.bool (p x))/\Bw W w'):
  cQ 125 #[.slice A l.length c,.func (.func g) #[] lb] w (Ez base 53 6 Gr.cs l (fun x=> !p x) A c w):=by
 have J:=hid h;have HP:=hid hp;have ae:=iN 53 6;have HI:=hid (FX p g lb l A c w eg (YS h rfl) hn fun W x hW hx=>hp W x (hW.mono M) hx);clear h hp;go_enter func125,ntmps125
 go_wp2_with fail;refine HI.o.mono ?_
 rintro e w1 ⟨rfl,ap⟩;have F:=hid ap;clear ap HI;by_cases hi:Zd p l 0= -1
 ·have HF:=hid (NX p l hi);have hi':(Zd p l 0 == -1)=true:=by rw [hi];rfl
  go_wp2;go_ret;refine⟨l.length,rfl,by rw [HF.o],?_,F.o.mono M⟩
  rw [HF.o];exact J.o.ZC F.o
 obtain⟨m,aK,au,aq⟩:=NW p l hi;have ak:=hid aq;have hi':((m:Int) == -1)=false:=by simp <;> omega
 have aA: ¬ (m:Int)= -1:=by omega
 have aC:IntKind.i64.wrap ((m:Int)+1)=(m:Int)+1:=by simp [IntKind.wrap,IntKind.bits,IntKind.signed];omega
 rw [au];clear hi au aq;obtain⟨gb,rfl⟩: ∃ gb,A=some (aD gb 0):=by
  obtain⟨gb,cap,hv,_,_⟩:=J.o.form (by omega);exact⟨gb,by injection hv⟩
 obtain⟨aH,aI⟩:=Yw J.o;obtain⟨ar,_,_,_,_⟩:=ZJ J.o;have am:Hid (MI base 53 6 Gr.cs l (fun x=> !p x) (some (aD gb 0)) c m (m+1) w1):=hid ⟨l,rfl,J.o.ZC F.o,ak.o,rfl⟩;have ai:Hid (Below base w w1):=hid (F.o.mono M);have aG:base<=w1.heap.size:=Nat.le_trans M F.o.size;clear F ak J;go_wp2;go_loopw [5,6] (fun aa i wr=> ∃ a j:Nat,a+1<=j/\j<=l.length/\aa=i6 a/\i=i6 j/\Hid (MI base 53 6 Gr.cs l (fun x=> !p x) (some (aD gb 0)) c a j wr)/\Hid (Below base w wr)) (fun _ i _=>l.length - (intOf i).toNat)
 case atStart=>exact⟨m,m+1,by omega,by omega,rfl,by(try go_num),am,ai⟩
 case round=>
  clear am ai hi' aA aC;obtain⟨a,j,aF,hj,rfl,rfl,HJ,D⟩:=hrel;obtain⟨L,U,ho,ht,hd⟩:=HJ.o;have I:=hid ho;have E:=hid ht;have HD:=hid hd;obtain⟨_,aJ,_,az,ab⟩:=ZJ ho;clear ho ht hd;have ah:base<=wr.heap.size:=Nat.le_trans M D.o.size;by_cases hlt:j<l.length
  ·have e1:(j:Int)< (l.length:Int):=by omega
   have e2:(a:Int)< (l.length:Int):=by omega
   have aL:IntKind.i64.wrap ((a:Int)+1)=(a:Int)+1:=by simp [IntKind.wrap,IntKind.bits,IntKind.signed];omega
   have aM:IntKind.i64.wrap ((j:Int)+1)=(j:Int)+1:=by simp [IntKind.wrap,IntKind.bits,IntKind.signed];omega
   have aB:j<L.length:=by omega
   have ag:a<L.length:=by omega
   have HG:Hid (∀ i u,[.string (Z2 l[j].Z9),.string (Z2 l[j].ZZ),i6 l[j].right,.string (Z2 l[j].ZM),.string (Z2 l[j].to),.bool l[j].Zq][i]?=some u->wr.cell? (((aD gb (j*6)):Addr).add i)=some u):=hid fun i u hu=>by
    rw [Addr.add_mid];exact ab (j*6+i) u (by rw [Zl Gr.k L j i aB ((List.getElem?_eq_some_iff.1 hu).1),JE hlt U HD.o];exact hu)
   have HC:=hid (fun W (h:Below base w W)=>HP.o W l[j] h (List.getElem_mem hlt));have HK:=hid (fun d=>Oi (q:=fun x=> !p x) hlt U (by omega:a<=j) E.o HD.o d);have K:=hid (fun d=>Oh (q:=fun x=> !p x) hlt E.o HD.o d);clear ab az;generalize l[j]=x at*;have HL:Hid ((prog.info? 53).map (·.size)=some ([sT x.Z9,sT x.ZZ,i6 x.right,sT x.ZM,sT x.to,.bool x.Zq]:lV).length):=hid ae.o;have s:Hid (Below wr.heap.size wr (wr.alloc (.cells #[sT x.Z9,sT x.ZZ,i6 x.right,sT x.ZM,sT x.to,.bool x.Zq] 53))):=hid (br.alloc lr _);have V0:Hid (ZP (wr.alloc (.cells #[sT x.Z9,sT x.ZZ,i6 x.right,sT x.ZM,sT x.to,.bool x.Zq] 53)) wr.heap.size 53 [sT x.Z9,sT x.ZZ,i6 x.right,sT x.ZM,sT x.to,.bool x.Zq]):=hid (ZP.new wr _ _);have G:=hid (HC.o _ (D.o.trans (s.o.mono ah)));clear HC
   cases d:p x
   ·rw [d] at G;obtain⟨V,T⟩:=HK.o (by simp [d]);have O:=hid V;have N:=hid T;clear d K HK E HD V T;go_wp2_with (first | (with_reducible refine ZK rfl 53 _ rfl (aD gb (j*6)) rfl _ _ HG.o underlying53 rfl HL.o ?_) | fail);refine G.o.mono ?_
    rintro e w2 ⟨rfl,hb⟩;have C:=s.o.trans (hb.mono s.o.size);have an:=hid (I.o.ZC C);have aj:=hid (D.o.trans (C.mono ah));have V2:=bl V0 hb;clear hb C s V0 G I D HJ HG;go_wp2_with (first | (refine lO V2 ae underlying53 ?_) | ((with_reducible refine UN rfl 53 _ _ rfl Gr.k gb a x rfl rfl an U ag ae (Gr.one x) ?_);intro wS K ao) | fail);have af:Hid (MI base 53 6 Gr.cs l (fun x=> !p x) (some (aD gb 0)) c (a+1) (j+1) wS):=hid ⟨_,by rw [List.length_set];exact U,ao.o,O.o,N.o⟩;have ad:Hid (Below base w wS):=hid (aj.o.trans (K.o.Rw.mono ar));clear K ao O N an aj V2;go_roundw
    case rel=>exact⟨a+1,j+1,by omega,by omega,by(try go_num),by(try go_num),af,ad⟩
    case measure=>simp [intOf];omega
   ·rw [d] at G;obtain⟨V,T⟩:=K.o (by simp [d]);have O:=hid V;have N:=hid T;clear d K HK E HD V T;go_wp2_with (first | (with_reducible refine ZK rfl 53 _ rfl (aD gb (j*6)) rfl _ _ HG.o underlying53 rfl HL.o ?_) | fail);refine G.o.mono ?_
    rintro e w2 ⟨rfl,hb⟩;have C:=s.o.trans (hb.mono s.o.size);have af:Hid (MI base 53 6 Gr.cs l (fun x=> !p x) (some (aD gb 0)) c a (j+1) w2):=hid ⟨L,U,I.o.ZC C,O.o,N.o⟩;have ad:=hid (D.o.trans (C.mono ah));clear hb C O N G I D HJ HG s V0;go_wp2;go_roundw
    case rel=>exact⟨a,j+1,by omega,by omega,rfl,by(try go_num),af,ad⟩
    case measure=>simp [intOf];omega
  ·obtain rfl:j=l.length:=by omega
   rw [List.take_length] at E;have ag:a<=L.length:=by omega
   have ac:a=(l.filter fun x=> !p x).length:=by rw [<-E.o,List.length_take,Nat.min_eq_left ag]
   have ax:=hid ac;clear ac;have av:=hid (VH I.o (show a<=l.length by omega));have aw:Hid ((L.flatMap Gr.cs).take (a*6)=(l.filter fun x=> !p x).flatMap Gr.cs):=hid (by rw [<-Xj Gr.k,E.o]);obtain⟨Z,aE,ay⟩:=Y5 wr 31 53 0 (.agg #[s0,s0,i6 0,s0,s0,.bool false]) underlying31 (fun w=>by kernel_rfl) rfl (by decide) (by simp [Value.cells,Value.oneCell']) (size:=6) gb (a*6) (l.length - a) (c - a) (by omega) (Y8 I.o _ _ (by rw [<-Nat.add_mul];exact Nat.mul_le_mul_right _ (by omega)));have e1: ¬ (l.length:Int)< (l.length:Int):=by omega
   have f1:(a:Int)<=(l.length:Int):=by omega
   have f2:(a:Int)<=(c:Int):=by omega
   have f3:((l.length:Int) - (a:Int)).toNat=l.length - a:=by omega
   have f4:((c:Int) - (a:Int)).toNat=c - a:=by omega
   go_wp2_with fail;go_ret;refine⟨a,rfl,ax.o,?_,D.o.trans (ZF ar _ _)⟩
   rw [<-aw.o];exact XE av.o Z _ lr
end Go.Proofs.YtnhmoibjlakhjaaGreat
