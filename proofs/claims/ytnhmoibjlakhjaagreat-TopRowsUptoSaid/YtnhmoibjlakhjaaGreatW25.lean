/- Lemmas, each under its own conditions. -/
import Derived.Test.YtnhmoibjlakhjaaGreatW24
set_option linter.all false
namespace Go.Proofs.YtnhmoibjlakhjaaGreat
open Go.Proofs.Tryz
open Lib (hid)
set_option maxRecDepth 100000
set_option maxHeartbeats 16000000
open Go.RowKit
def S8 {α:Type}(p:α->α->Bool):List α->Bool
 | []=>true
 | [_]=>true
 | a ::b ::l=>p a b && S8 p (b ::l)
theorem UV {α:Type}(p:α->α->Bool): ∀ l:List α,S8 p l=true↔ ∀ j (h:j+1<l.length),p l[j] l[j+1]=true
 | []=>⟨fun _ j h=>absurd h (by simp),fun _=>rfl⟩
 | [_]=>⟨fun _ j h=>absurd h (by simp),fun _=>rfl⟩
 | a ::b ::l=>by
  rw [S8,Bool.and_eq_true,UV p (b ::l)];constructor
  ·rintro⟨m,s⟩ j d
   cases j with
   | zero=>exact m
   | succ j=>exact s j (by simpa using d)
  ·intro h;exact⟨h 0 (by simp),fun j d=>h (j+1) (by simpa using d)⟩
theorem Np {α:Type}(p:α->α->Bool)(l:List α)(j:Nat)(h:j+1<l.length)(d:p l[j] l[j+1]=false):S8 p l=false:=by
 cases ha:S8 p l
 ·rfl
 ·have:=(UV p l).1 ha j h;rw [d] at this;exact absurd this (by decide)
theorem Lu {α:Type}(c:α->α->Int)(m: ∀ a b,c b a= -(c a b))(l:List α):Zt c l=(S8 (fun a b=> !decide (c b a<0)) l && S8 (fun a b=> !decide (c b a=0)) l):=by
 induction l with
 | nil=>rfl
 | cons a l ih=>
  cases l with
  | nil=>rfl
  | cons b l=>
   show (decide (c a b<0) && Zt c (b ::l))=((!decide (c b a<0) && S8 _ (b ::l)) && (!decide (c b a=0) && S8 _ (b ::l)))
   rw [ih,m a b];by_cases h1:c a b<0
   ·have d: ¬ -(c a b)<0:=by omega
    have h: ¬ -(c a b)=0:=by omega
    simp only [h1,d,h,decide_true,decide_false,Bool.true_and,Bool.not_false]
   ·by_cases h4: -(c a b)<0
    ·simp only [h1,h4,decide_true,decide_false,Bool.false_and,Bool.not_true]
    ·have j: -(c a b)=0:=by omega
     simp only [h1,j,decide_true,decide_false,Bool.false_and,Bool.not_true,Bool.and_false]
theorem GZ (a b:Mb):XI b a= -(XI a b):=((Xx.RI Mb.ZQ).EW (Xx.RI Mb.of)).MJ a b
theorem Lo (a b:lU)(w:World):
  cQ 107 #[sT a,sT b] w fun e w'=>e= .returned (i6 (YR a b))/\VZ w w':=(Xu a b w).mono (by rintro e w' ⟨rfl,rfl⟩;exact⟨rfl,VZ.refl _⟩)
theorem Zj.Dn {α:Type}{enc:α->lV}{k:Nat}{w:World}{B:Nat}{A:oA}{l:List α}(h:Zj w B A enc l)(s: ∀ x,(enc x).length=k){j:Nat}(E:j+1<l.length):
  ∃ d,A=some d/\d.block<B/\(∀ i u,(enc l[j])[i]?=some u->w.cell? (d.add (j*k+i))=some u)/\ ∀ i u,(enc l[j+1])[i]?=some u->w.cell? (d.add ((j+1)*k+i))=some u:=by
 obtain⟨d,e,D,C⟩:=h (by omega);refine⟨d,e,D,fun i u m=>C _ _ ?_,fun i u m=>C _ _ ?_⟩
 ·rw [Zl s l j i (by omega) (by rw [<-s l[j]];exact(List.getElem?_eq_some_iff.1 m).1)];exact m
 ·rw [Zl s l (j+1) i E (by rw [<-s l[j+1]];exact(List.getElem?_eq_some_iff.1 m).1)];exact m
theorem JR (l:List lU)(A:oA)(c:Nat)(w:World)(Z:Zj w w.heap.size A Yy l)(hn:l.length<=1099511627776):
  cQ 228 #[.slice A l.length c,.func (.func 107) #[] #[]] w fun e w'=>e= .returned (.bool (S8 (fun a b:lU=> !decide (YR b a<0)) l))/\Bw w w':=by
 have HA:=hid Z;clear Z;go_enter func228,ntmps228
 go_wp2;go_loopw [5] (fun i wr=> ∃ j:Nat,j<=l.length/\i= .int .i64 ((j:Int) - 1)/\Hid (∀ k (m:k+1<l.length),j<=k+1->(fun a b:lU=> !decide (YR b a<0)) l[k] l[k+1]=true)/\Hid (Bw w wr)) (fun i _=>(intOf i+1).toNat)
 case atStart=>exact⟨l.length,Nat.le_refl _,by(try go_num),hid (fun k m h=>by omega),hid br⟩
 case round=>
  obtain⟨u,hj,rfl,U,D⟩:=hrel;by_cases hlt:1<u
  ·obtain⟨j,rfl⟩: ∃ j,u=j+2:=⟨u - 2,by omega⟩
   have ac:(((j+2:Nat):Int) - 1)=(j:Int)+1:=by omega
   rw [ac];have an:(j:Int)+1< (l.length:Int):=by omega
   have ao:(0:Int)<=(j:Int)+1:=by omega
   have ap:((j:Int)+1).toNat=j+1:=by omega
   have aq:(j:Int)< (l.length:Int):=by omega
   have ar:(0:Int)< (j:Int)+1:=by omega
   have au:(j:Int)+1 > 0:=by omega
   have ae:(j:Int)+1 - 1=(j:Int):=by omega
   have aw:IntKind.i64.wrap ((j:Int)+1 - 1)=(j:Int):=by rw [ae];simp [IntKind.wrap,IntKind.bits,IntKind.signed];omega
   have aj:IntKind.i64.wrap (j:Int)=(j:Int):=by simp [IntKind.wrap,IntKind.bits,IntKind.signed];omega
   have ak:IntKind.i64.wrap ((j:Int)+1)=(j:Int)+1:=by simp [IntKind.wrap,IntKind.bits,IntKind.signed];omega
   obtain⟨d,rfl,L,M,G⟩:=(HA.o.later D.o).Dn Yy.k (j:=j) (by omega);have J:Hid ((fun a b:lU=> !decide (YR b a<0)) l[j] l[j+1]=true-> ∀ k (m:k+1<l.length),j+1<=k+1->(fun a b:lU=> !decide (YR b a<0)) l[k] l[k+1]=true):=hid (by
    intro h k m av;rcases Nat.lt_or_ge (k+1) (j+2) with s | s
    ·obtain rfl:k=j:=by omega
     exact h
    ·exact U.o k m s)
   have I:Hid ((fun a b:lU=> !decide (YR b a<0)) l[j] l[j+1]=false->S8 (fun a b:lU=> !decide (YR b a<0)) l=false):=hid (Np (fun a b:lU=> !decide (YR b a<0)) l j (by omega));generalize l[j]=x at J I M;generalize l[j+1]=y at J I G;have a0:wr.cell? (d.add j)=some (Value.string (Z2 x)):=by have:=M 0 _ rfl;rwa [Nat.add_zero,Nat.mul_one] at this
   have V:wr.cell? (aD d.block (d.off+ (j+1)))=some (Value.string (Z2 y)):=by have:=G 0 _ rfl;rw [Nat.add_zero,Nat.mul_one] at this;unfold Addr.add at this;rwa [if_neg (by omega)] at this
   clear M G;have hz:d.block<wr.heap.size:=L;have ab:Bw wr wr.drew:=Below.drew br;have hz:(d.add j).block<wr.heap.size:=by rw [ZL];exact L
   have am:d.block<wr.heap.size:=by exact L
   have aa:Hid (∀ N C,(fun w'=>Bw wr w'/\w'.cell? (d.add j)=some (Value.string (Z2 x))/\w'.cell? (aD d.block (d.off+ (j+1)))=some (Value.string (Z2 y))) N->Bw N C->(fun w'=>Bw wr w'/\w'.cell? (d.add j)=some (Value.string (Z2 x))/\w'.cell? (aD d.block (d.off+ (j+1)))=some (Value.string (Z2 y))) C):=hid (by
    intro N C ⟨s,_⟩ h2;have K:Bw wr C:=s.trans (h2.mono s.size);exact⟨K,(K.cell (p:=(d.add j)) hz).trans a0,ct V K am⟩)
   obtain⟨r,E⟩: ∃ r,Hid (YR y x=r):=⟨_,hid rfl⟩
   have O:=fun W=>Lo y x W
   simp only [E.o] at O;go_wp2_with fail;go_region_held_law (fun w'=>Bw wr w'/\w'.cell? (d.add j)=some (Value.string (Z2 x))/\w'.cell? (aD d.block (d.off+ (j+1)))=some (Value.string (Z2 y)))
    (first | exact aa.o _ _ (by assumption) (by assumption) | exact⟨ab,a0,V⟩)
    (first | (go_at_call 107;refine(O _).mono ?_;rintro e w' ⟨rfl,hb⟩;have hb:=hb.below))
   rename_i hS;have T:=bt D hS.1;clear hS;by_cases hq:r<0
   ·have F:Hid (S8 (fun a b:lU=> !decide (YR b a<0)) l=false):=hid (I.o (by simp [E.o,hq]));have ah: ¬ r>=0:=by omega
    have ai: ¬ 0<=r:=by omega
    go_wp2;go_ret;exact⟨by rw [F.o];rfl,T.o⟩
   ·have F:=hid (J.o (by simp [E.o];omega));have ah:r>=0:=by omega
    have ai:0<=r:=by omega
    go_wp2;go_roundw
    case rel=>exact⟨j+1,by omega,by(try go_num),F,T⟩
    case measure=>simp [intOf];omega
  ·have HR:Hid (S8 (fun a b:lU=> !decide (YR b a<0)) l=true):=hid ((UV _ l).2 fun k m=>U.o k m (by omega));have af: ¬ (0:Int)< (u:Int) - 1:=by omega
   have ag: ¬ (u:Int) - 1 > 0:=by omega
   go_wp2;go_ret;exact⟨by rw [HR.o];rfl,D.o⟩
theorem Oo (l:List Mb)(A:oA)(c:Nat)(w:World)(hA:Zj w w.heap.size A Mb.cs l)(hn:l.length<=1099511627776):
  cQ 231 #[.slice A l.length c,.func (.func 153) #[] #[]] w fun e w'=>e= .returned (.bool (S8 (fun a b:Mb=> !decide (XI b a<0)) l))/\Bw w w':=by
 have HA:=hid hA;clear hA;go_enter func231,ntmps231
 go_wp2;go_loopw [5] (fun i wr=> ∃ j:Nat,j<=l.length/\i= .int .i64 ((j:Int) - 1)/\Hid (∀ k (s:k+1<l.length),j<=k+1->(fun a b:Mb=> !decide (XI b a<0)) l[k] l[k+1]=true)/\Hid (Bw w wr)) (fun i _=>(intOf i+1).toNat)
 case atStart=>exact⟨l.length,Nat.le_refl _,by(try go_num),hid (fun k s h=>by omega),hid br⟩
 case round=>
  obtain⟨D,hj,rfl,HE,J⟩:=hrel;by_cases hlt:1<D
  ·obtain⟨j,rfl⟩: ∃ j,D=j+2:=⟨D - 2,by omega⟩
   have ac:(((j+2:Nat):Int) - 1)=(j:Int)+1:=by omega
   rw [ac];have am:(j:Int)+1< (l.length:Int):=by omega
   have an:(0:Int)<=(j:Int)+1:=by omega
   have ao:((j:Int)+1).toNat=j+1:=by omega
   have ap:(j:Int)< (l.length:Int):=by omega
   have aq:(0:Int)< (j:Int)+1:=by omega
   have ar:(j:Int)+1 > 0:=by omega
   have ae:(j:Int)+1 - 1=(j:Int):=by omega
   have av:IntKind.i64.wrap ((j:Int)+1 - 1)=(j:Int):=by rw [ae];simp [IntKind.wrap,IntKind.bits,IntKind.signed];omega
   have aj:IntKind.i64.wrap (j:Int)=(j:Int):=by simp [IntKind.wrap,IntKind.bits,IntKind.signed];omega
   have ak:IntKind.i64.wrap ((j:Int)+1)=(j:Int)+1:=by simp [IntKind.wrap,IntKind.bits,IntKind.signed];omega
   obtain⟨d,rfl,O,F,E⟩:=(HA.o.later J.o).Dn Mb.k (j:=j) (by omega);have N:Hid ((fun a b:Mb=> !decide (XI b a<0)) l[j] l[j+1]=true-> ∀ k (s:k+1<l.length),j+1<=k+1->(fun a b:Mb=> !decide (XI b a<0)) l[k] l[k+1]=true):=hid (by
    intro h k s au;rcases Nat.lt_or_ge (k+1) (j+2) with u | u
    ·obtain rfl:k=j:=by omega
     exact h
    ·exact HE.o k s u)
   have M:Hid ((fun a b:Mb=> !decide (XI b a<0)) l[j] l[j+1]=false->S8 (fun a b:Mb=> !decide (XI b a<0)) l=false):=hid (Np (fun a b:Mb=> !decide (XI b a<0)) l j (by omega));generalize l[j]=x at N M F;generalize l[j+1]=y at N M E;have a0:=e0 (m:=j*2) F;have a1:=ef (m:=j*2) F 1;have b0:=e0 (m:=(j+1)*2) E;have b1:=ef (m:=(j+1)*2) E 1;clear F E;have T:d.block<wr.heap.size:=O;have ab:Bw wr wr.drew:=Below.drew br;have T:(d.add (j*2)).block<wr.heap.size:=by rw [ZL];exact O
   have Z:(d.add ((j+1)*2)).block<wr.heap.size:=by rw [ZL];exact O
   have aa:Hid (∀ U G,(fun w'=>Bw wr w'/\w'.cell? (d.add (j*2))=some (Value.string (Z2 x.ZQ))/\w'.cell? ⟨(d.add (j*2)).block,(d.add (j*2)).off+1,none⟩=some (Value.string (Z2 x.of))/\w'.cell? (d.add ((j+1)*2))=some (Value.string (Z2 y.ZQ))/\w'.cell? ⟨(d.add ((j+1)*2)).block,(d.add ((j+1)*2)).off+1,none⟩=some (Value.string (Z2 y.of))) U->Bw U G->(fun w'=>Bw wr w'/\w'.cell? (d.add (j*2))=some (Value.string (Z2 x.ZQ))/\w'.cell? ⟨(d.add (j*2)).block,(d.add (j*2)).off+1,none⟩=some (Value.string (Z2 x.of))/\w'.cell? (d.add ((j+1)*2))=some (Value.string (Z2 y.ZQ))/\w'.cell? ⟨(d.add ((j+1)*2)).block,(d.add ((j+1)*2)).off+1,none⟩=some (Value.string (Z2 y.of))) G):=hid (by
    intro U G ⟨u,_⟩ h2;have C:Bw wr G:=u.trans (h2.mono u.size);exact⟨C,(C.cell (p:=(d.add (j*2))) T).trans a0,ct a1 C T,(C.cell (p:=(d.add ((j+1)*2))) Z).trans b0,ct b1 C Z⟩)
   obtain⟨r,K⟩: ∃ r,Hid (XI y x=r):=⟨_,hid rfl⟩
   have I:=fun W=>RP y x W
   simp only [K.o] at I;unfold Mb.cs at I;go_wp2_with fail;go_region_held_law (fun w'=>Bw wr w'/\w'.cell? (d.add (j*2))=some (Value.string (Z2 x.ZQ))/\w'.cell? ⟨(d.add (j*2)).block,(d.add (j*2)).off+1,none⟩=some (Value.string (Z2 x.of))/\w'.cell? (d.add ((j+1)*2))=some (Value.string (Z2 y.ZQ))/\w'.cell? ⟨(d.add ((j+1)*2)).block,(d.add ((j+1)*2)).off+1,none⟩=some (Value.string (Z2 y.of)))
    (first | exact aa.o _ _ (by assumption) (by assumption) | exact⟨ab,a0,a1,b0,b1⟩)
    (first | (go_at_call 153;refine(I _).mono ?_;rintro e w' ⟨rfl,hb⟩;have hb:=hb.below))
   rename_i hS;have V:=bt J hS.1;clear hS;by_cases hq:r<0
   ·have L:Hid (S8 (fun a b:Mb=> !decide (XI b a<0)) l=false):=hid (M.o (by simp [K.o,hq]));have ah: ¬ r>=0:=by omega
    have ai: ¬ 0<=r:=by omega
    go_wp2;go_ret;exact⟨by rw [L.o];rfl,V.o⟩
   ·have L:=hid (N.o (by simp [K.o];omega));have ah:r>=0:=by omega
    have ai:0<=r:=by omega
    go_wp2;go_roundw
    case rel=>exact⟨j+1,by omega,by(try go_num),L,V⟩
    case measure=>simp [intOf];omega
  ·have HR:Hid (S8 (fun a b:Mb=> !decide (XI b a<0)) l=true):=hid ((UV _ l).2 fun k s=>HE.o k s (by omega));have af: ¬ (0:Int)< (D:Int) - 1:=by omega
   have ag: ¬ (D:Int) - 1 > 0:=by omega
   go_wp2;go_ret;exact⟨by rw [HR.o];rfl,J.o⟩
def Fw (base:Nat)(A:oA)(n c:Nat)(ok:Bool)(w:World)(e:Ending)(w':World):Prop:=
 ∃ m:Nat,e= .returned (.slice A m c)/\decide (m=n)=ok/\m<=n/\Below base w w'
def X8 {α:Type}(w:World)(base:Nat)(T:TypeId)(k:Nat)(A:oA)(n c:Nat)(enc:α->lV):Prop:=
 ∃ l:List α,l.length=n/\w.ownsRow base T k (.slice A n c) n (l.flatMap enc)
theorem X8.below {α:Type}{w w':World}{base:Nat}{T:TypeId}{k:Nat}{A:oA}{n c:Nat}{enc:α->lV}(h:X8 w base T k A n c enc)(hb:Bw w w'):X8 w' base T k A n c enc:=by
 obtain⟨l,d,j⟩:=h;exact⟨l,d,j.ZC hb⟩
theorem X8.cells {α:Type}{w:World}{base:Nat}{T:TypeId}{k g n c:Nat}{enc:α->lV}(d: ∀ x,(enc x).length=k)(h:X8 w base T k (some (aD g 0)) n c enc):
  base<=g/\g<w.heap.size/\(∀ i,w.frozen? (aD g i)=false)/\ ∀ p,p<n-> ∃ x:α,∀ i u,(enc x)[i]?=some u->w.cell? (aD g (p*k+i))=some u:=by
 obtain⟨l,rfl,m⟩:=h;obtain⟨s,C,_,D,E⟩:=ZJ m;refine⟨s,C,D,fun p F=>⟨l[p],fun i u j=>E _ u ?_⟩⟩
 rw [Zl d l p i F (by rw [<-d l[p]];exact(List.getElem?_eq_some_iff.1 j).1)];exact j
theorem X8.Dy {w:World}{base:Nat}{T:TypeId}{g n c:Nat}(h:X8 w base T 1 (some (aD g 0)) n c Yy){a:Nat}(j:a<n)(y:lU):X8 (w.setCell (aD g a) (sT y)) base T 1 (some (aD g 0)) n c Yy:=by
 obtain⟨l,rfl,d⟩:=h;refine⟨l.set a y,by simp,?_⟩
 have:=XG d (i:=a) (by rw [Zm Yy.k];omega) (sT y);rw [show (l.flatMap Yy).set a (sT y)=(l.set a y).flatMap Yy from by have:=X7 Yy.k l a 0 j (by omega) (sT y) y rfl;rwa [Nat.mul_one,Nat.add_zero] at this] at this;exact this
theorem X8.Dx {w:World}{base:Nat}{T:TypeId}{g n c:Nat}(h:X8 w base T 2 (some (aD g 0)) n c Mb.cs){a:Nat}(s:a<n)(y:Mb):
  X8 ((w.setCell (aD g (a*2)) (sT y.ZQ)).setCell (aD g (a*2+1)) (sT y.of)) base T 2 (some (aD g 0)) n c Mb.cs:=by
 obtain⟨l,rfl,C⟩:=h;refine⟨(l.set a ⟨y.ZQ,l[a].of⟩).set a y,by simp,?_⟩
 have d:=X7 Mb.k l a 0 s (by omega) (sT y.ZQ) ⟨y.ZQ,l[a].of⟩ rfl;have u:=X7 Mb.k (l.set a ⟨y.ZQ,l[a].of⟩) a 1 (by simpa using s) (by omega) (sT y.of) y (by rw [List.getElem_set_self];rfl)
 rw [Nat.add_zero] at d;have j:=XG C (i:=a*2) (by rw [Zm Mb.k];omega) (sT y.ZQ)
 rw [d] at j;have m:=XG j (i:=a*2+1) (by rw [Zm Mb.k,List.length_set];omega) (sT y.of)
 rw [u] at m;exact m
theorem Mq (base:Nat)(lb:Array Value)(l:List lU)(A:oA)(c:Nat)(w:World)(h:w.ownsRow base 9 1 (.slice A l.length c) l.length (l.flatMap Yy))(hl:l.length<=1099511627776)
  (ar: ∀ (W:World) (a b:lU),Below base w W->cQ 230 (#[sT a,sT b] ++lb) W fun e w'=>e= .returned (.bool (decide (YR a b=0)))/\Bw W w'):
  cQ 229 #[.slice A l.length c,.func (.func 230) #[] lb] w (Fw base A l.length c (S8 (fun a b:lU=> !decide (YR b a=0)) l) w):=by
 have HEq:=hid ar;have HO:=hid h;clear h ar;go_enter func229,ntmps229
 by_cases J:l.length<2
 ·have ax:(l.length:Int)<2:=by omega
  go_wp2;go_ret;exact⟨l.length,rfl,by rw [(UV (fun a b:lU=> !decide (YR b a=0)) l).2 fun k D=>by omega];simp,Nat.le_refl _,Below.refl _ _⟩
 have ax: ¬ (l.length:Int)<2:=by omega
 obtain⟨g,rfl⟩: ∃ g,A=some (aD g 0):=by
  obtain⟨g,cap,hv,_,_⟩:=HO.o.form (by omega);exact⟨g,by injection hv⟩
 obtain⟨aU,aV⟩:=Yw HO.o;obtain⟨au,aj,av,az,aa⟩:=ZJ HO.o;have aK:=hid av;have ac:=hid aa;clear av az aa;go_wp2;go_loopw [5] (fun i wr=> ∃ j:Nat,j+1<=l.length/\i= .int .i64 ((j:Int)+1)/\Hid (∀ k (D:k+1<l.length),k<j->(fun a b:lU=> !decide (YR b a=0)) l[k] l[k+1]=true)/\Hid (Bw w wr)) (fun i _=>l.length - (intOf i).toNat)
 case atStart=>exact⟨0,by omega,rfl,hid (fun k D h=>by omega),hid br⟩
 case round=>
  obtain⟨j,hj,rfl,HE,s⟩:=hrel;by_cases hlt:j+1<l.length
  ·have aP:(j:Int)+1< (l.length:Int):=by omega
   have aQ:(0:Int)<=(j:Int)+1:=by omega
   have aR:((j:Int)+1).toNat=j+1:=by omega
   have aS:(j:Int)< (l.length:Int):=by omega
   have ap:(j:Int)+1 - 1=(j:Int):=by omega
   have aH:IntKind.i64.wrap ((j:Int)+1 - 1)=(j:Int):=by rw [ap];simp [IntKind.wrap,IntKind.bits,IntKind.signed];omega
   have aI:IntKind.i64.wrap (j:Int)=(j:Int):=by simp [IntKind.wrap,IntKind.bits,IntKind.signed];omega
   have aJ:IntKind.i64.wrap ((j:Int)+1)=(j:Int)+1:=by simp [IntKind.wrap,IntKind.bits,IntKind.signed];omega
   have L:g<wr.heap.size:=Nat.lt_of_lt_of_le aj s.o.size;have K: ∀ i u,(Yy l[j])[i]?=some u->wr.cell? (aD g (j*1+i))=some u:=fun i u T=>(s.o.cell (p:=(aD g (j*1+i))) aj).trans (ac.o _ u (by rw [Zl Yy.k l j i (by omega) (by rw [<-Yy.k l[j]];exact(List.getElem?_eq_some_iff.1 T).1)];exact T))
   have G: ∀ i u,(Yy l[j+1])[i]?=some u->wr.cell? (aD g ((j+1)*1+i))=some u:=fun i u T=>(s.o.cell (p:=(aD g ((j+1)*1+i))) aj).trans (ac.o _ u (by rw [Zl Yy.k l (j+1) i hlt (by rw [<-Yy.k l[j+1]];exact(List.getElem?_eq_some_iff.1 T).1)];exact T))
   have HX:Hid ((fun a b:lU=> !decide (YR b a=0)) l[j] l[j+1]=true-> ∀ k (D:k+1<l.length),k<j+1->(fun a b:lU=> !decide (YR b a=0)) l[k] l[k+1]=true):=hid (by
    intro h k D aX;rcases Nat.lt_or_ge k j with d | d
    ·exact HE.o k D d
    ·obtain rfl:k=j:=by omega
     exact h)
   have HN:Hid ((fun a b:lU=> !decide (YR b a=0)) l[j] l[j+1]=false->S8 (fun a b:lU=> !decide (YR b a=0)) l=false):=hid (Np (fun a b:lU=> !decide (YR b a=0)) l j (by omega));generalize l[j]=x at HX HN K;generalize l[j+1]=y at HX HN G;have a0:wr.cell? (aD g j)=some (Value.string (Z2 x)):=by have:=K 0 _ rfl;rwa [Nat.add_zero,Nat.mul_one] at this
   have I:wr.cell? (aD g (j+1))=some (Value.string (Z2 y)):=by have:=G 0 _ rfl;rwa [Nat.add_zero,Nat.mul_one] at this
   clear K G;obtain⟨r,F⟩: ∃ r,Hid (decide (YR y x=0)=r):=⟨_,hid rfl⟩
   have V:Hid (Below base w wr):=hid (s.o.mono (by omega));have O:Bw wr wr.drew:=Below.drew br;have N:Hid (∀ E m,(fun w'=>Bw wr w'/\w'.cell? (aD g j)=some (Value.string (Z2 x))/\w'.cell? (aD g (j+1))=some (Value.string (Z2 y))) E->Bw E m->(fun w'=>Bw wr w'/\w'.cell? (aD g j)=some (Value.string (Z2 x))/\w'.cell? (aD g (j+1))=some (Value.string (Z2 y))) m):=hid (by
    intro E m ⟨d,_⟩ J;have C:Bw wr m:=d.trans (J.mono d.size);exact⟨C,ct a0 C L,ct I C L⟩)
   have M:Hid (∀ W,(fun w'=>Bw wr w'/\w'.cell? (aD g j)=some (Value.string (Z2 x))/\w'.cell? (aD g (j+1))=some (Value.string (Z2 y))) W->cQ 230 (#[sT y,sT x] ++lb) W fun e w'=>e= .returned (.bool r)/\Bw W w'):=hid (by
    intro W hW;rw [<-F.o];exact HEq.o W y x (V.o.trans (hW.1.mono (by omega))))
   go_wp2_with fail;go_region_held_law (fun w'=>Bw wr w'/\w'.cell? (aD g j)=some (Value.string (Z2 x))/\w'.cell? (aD g (j+1))=some (Value.string (Z2 y)))
    (first | exact N.o _ _ (by assumption) (by assumption) | exact⟨O,a0,I⟩)
    (first | (go_at_call 230;refine(M.o _ (by assumption)).mono ?_;rintro e w' ⟨rfl,hb⟩))
   rename_i hS;have U:=bt s hS.1;clear hS
   cases r
   ·have af:=hid (HX.o (by show (!decide (YR y x=0))=true;rw [F.o];rfl));go_wp2;go_roundw
    case rel=>exact⟨j+1,by omega,by(try go_num),af,U⟩
    case measure=>simp [intOf];omega
   ·have af:Hid (S8 (fun a b:lU=> !decide (YR b a=0)) l=false):=hid (HN.o (by show (!decide (YR y x=0))=false;rw [F.o];rfl));have an:Hid (X8 w' base 9 1 (some (aD g 0)) l.length c Yy):=hid ⟨l,rfl,HO.o.ZC U.o⟩;have ak:Hid (Below base w w'):=hid (U.o.mono (by omega));clear HE HX HN F ac N M V O ap aH a0 I;have d1:(l.length:Int)<=(c:Int):=by omega
    have d2:(j:Int)+1<=(l.length:Int):=by omega
    have d3:(j:Int)+1<=(c:Int):=by omega
    have d4:((l.length:Int) - ((j:Int)+1)).toNat=l.length - (j+1):=by omega
    have d5:((c:Int) - ((j:Int)+1)).toNat=c - (j+1):=by omega
    go_wp2;go_loopw [5,7] (fun kk i wr=> ∃ a b:Nat,a<=j+1+b/\j+1+ (b+1)<=l.length/\kk=i6 a/\i= .int .i64 ((b:Int)+1)/\Hid (X8 wr base 9 1 (some (aD g 0)) l.length c Yy)/\Hid (Below base w wr)) (fun _ i _=>l.length - (intOf i).toNat)
    case atStart=>exact⟨j+1,0,by omega,by omega,by(try go_num),rfl,an,ak⟩
    case round=>
     clear an ak U s hb L;obtain⟨a,b,aO,aT,rfl,rfl,ad,ab⟩:=hrel;obtain⟨_,aB,aA,ah⟩:=ad.o.cells Yy.k;by_cases hlt4:j+1+ (b+1)<l.length
     ·have e1:(b:Int)+1< ((l.length - (j+1):Nat):Int):=by omega
      have e2:(0:Int)<=(b:Int)+1:=by omega
      have e3:((b:Int)+1).toNat=b+1:=by omega
      have e4:(b:Int)< ((l.length - (j+1):Nat):Int):=by omega
      have e5:(b:Int)+1 - 1=(b:Int):=by omega
      have aY:IntKind.i64.wrap ((b:Int)+1 - 1)=(b:Int):=by rw [e5];simp [IntKind.wrap,IntKind.bits,IntKind.signed];omega
      have aE:IntKind.i64.wrap (b:Int)=(b:Int):=by simp [IntKind.wrap,IntKind.bits,IntKind.signed];omega
      have aF:IntKind.i64.wrap ((b:Int)+1)=(b:Int)+1:=by simp [IntKind.wrap,IntKind.bits,IntKind.signed];omega
      have aG:IntKind.i64.wrap ((a:Int)+1)=(a:Int)+1:=by simp [IntKind.wrap,IntKind.bits,IntKind.signed];omega
      have e6:(a:Int)< (l.length:Int):=by omega
      obtain⟨x,K⟩:=ah (j+1+b) (by omega);obtain⟨y,G⟩:=ah (j+1+ (b+1)) hlt4;have a0:wr.cell? (aD g (j+1+b))=some (Value.string (Z2 x)):=by have:=K 0 _ rfl;rwa [Nat.add_zero,Nat.mul_one] at this
      have I:wr.cell? (aD g (j+1+ (b+1)))=some (Value.string (Z2 y)):=by have:=G 0 _ rfl;rwa [Nat.add_zero,Nat.mul_one] at this
      clear K G ah;obtain⟨r,F⟩: ∃ r,Hid (decide (YR y x=0)=r):=⟨_,hid rfl⟩
      have V:=ab;have L:g<wr.heap.size:=aB;have O:Bw wr wr.drew:=Below.drew br;have N:Hid (∀ E m,(fun w'=>Bw wr w'/\w'.cell? (aD g (j+1+b))=some (Value.string (Z2 x))/\w'.cell? (aD g (j+1+ (b+1)))=some (Value.string (Z2 y))) E->Bw E m->(fun w'=>Bw wr w'/\w'.cell? (aD g (j+1+b))=some (Value.string (Z2 x))/\w'.cell? (aD g (j+1+ (b+1)))=some (Value.string (Z2 y))) m):=hid (by
       intro E m ⟨d,_⟩ J;have C:Bw wr m:=d.trans (J.mono d.size);exact⟨C,ct a0 C L,ct I C L⟩)
      have M:Hid (∀ W,(fun w'=>Bw wr w'/\w'.cell? (aD g (j+1+b))=some (Value.string (Z2 x))/\w'.cell? (aD g (j+1+ (b+1)))=some (Value.string (Z2 y))) W->cQ 230 (#[sT y,sT x] ++lb) W fun e w'=>e= .returned (.bool r)/\Bw W w'):=hid (by
       intro W hW;rw [<-F.o];exact HEq.o W y x (V.o.trans (hW.1.mono (by omega))))
      go_wp2_with fail;go_region_held_law (fun w'=>Bw wr w'/\w'.cell? (aD g (j+1+b))=some (Value.string (Z2 x))/\w'.cell? (aD g (j+1+ (b+1)))=some (Value.string (Z2 y)))
       (first | exact N.o _ _ (by assumption) (by assumption) | exact⟨O,a0,I⟩)
       (first | (go_at_call 230;refine(M.o _ (by assumption)).mono ?_;rintro e w' ⟨rfl,hb⟩))
      rename_i hS;obtain⟨ag,ao⟩:=hS;have ae:Hid (X8 w' base 9 1 (some (aD g 0)) l.length c Yy):=hid (ad.o.below ag);have am:Hid (Below base w w'):=hid (ab.o.trans (ag.mono (by omega)));obtain⟨_,aW,ai,aq⟩:=ae.o.cells Yy.k;obtain⟨z,aw⟩:=aq a (by omega);have c0:w'.cell? (aD g a)=some (Value.string (Z2 z)):=by have:=aw 0 _ rfl;rwa [Nat.add_zero,Nat.mul_one] at this
      have aL:w'.cell? (aD g (j+1+ (b+1)))=some (Value.string (Z2 y)):=ao.2;have g0:=ai a;clear ag ao N M O aq aw
      cases r
      ·go_wp2;go_roundw
       case rel=>exact⟨a+1,b+1,by omega,by omega,by(try go_num),by(try go_num),hid (ae.o.Dy (by omega) y),hid (am.o.setCell (by exact au) _)⟩
       case measure=>simp [intOf];omega
      ·go_wp2;go_roundw
       case rel=>exact⟨a,b+1,by omega,by omega,rfl,by(try go_num),ae,am⟩
       case measure=>simp [intOf];omega
     ·obtain⟨Z,aM,ay⟩:=Y5 wr 27 9 0 (s0) underlying27 (fun w=>by kernel_rfl) rfl (by decide) (by simp [Value.cells,Value.oneCell']) (size:=1) g (a) (l.length - a) (c - a) (by omega) (by
       obtain⟨l2,d,J⟩:=ad.o;exact Y8 J _ _ (by omega))
      have e1: ¬ (b:Int)+1< ((l.length - (j+1):Nat):Int):=by omega
      have f1:(a:Int)<=(l.length:Int):=by omega
      have f2:(a:Int)<=(c:Int):=by omega
      have f3:((l.length:Int) - (a:Int)).toNat=l.length - a:=by omega
      have f4:((c:Int) - (a:Int)).toNat=c - a:=by omega
      go_wp2_with fail;go_ret;exact⟨a,rfl,by rw [af.o];simp;omega,by omega,ab.o.trans (ZF au _ _)⟩
  ·have HR:Hid (S8 (fun a b:lU=> !decide (YR b a=0)) l=true):=hid ((UV (fun a b:lU=> !decide (YR b a=0)) l).2 fun k D=>HE.o k D (by omega));have aC: ¬ (j:Int)+1< (l.length:Int):=by omega
   go_wp2;go_ret;exact⟨l.length,rfl,by rw [HR.o];simp,Nat.le_refl _,s.o.mono (by omega)⟩
theorem PL (base:Nat)(lb:Array Value)(l:List Mb)(A:oA)(c:Nat)(w:World)(h:w.ownsRow base 147 2 (.slice A l.length c) l.length (l.flatMap Mb.cs))(hl:l.length<=1099511627776)
  (aw: ∀ (W:World) (a b:Mb),Below base w W->cQ 233 (#[.agg (a.cs).toArray,.agg (b.cs).toArray] ++lb) W fun e w'=>e= .returned (.bool (decide (XI a b=0)))/\Bw W w'):
  cQ 232 #[.slice A l.length c,.func (.func 233) #[] lb] w (Fw base A l.length c (S8 (fun a b:Mb=> !decide (XI b a=0)) l) w):=by
 have HEq:=hid aw;have HO:=hid h;clear h aw;go_enter func232,ntmps232
 by_cases M:l.length<2
 ·have ay:(l.length:Int)<2:=by omega
  go_wp2;go_ret;exact⟨l.length,rfl,by rw [(UV (fun a b:Mb=> !decide (XI b a=0)) l).2 fun k G=>by omega];simp,Nat.le_refl _,Below.refl _ _⟩
 have ay: ¬ (l.length:Int)<2:=by omega
 obtain⟨g,rfl⟩: ∃ g,A=some (aD g 0):=by
  obtain⟨g,cap,hv,_,_⟩:=HO.o.form (by omega);exact⟨g,by injection hv⟩
 obtain⟨aW,aX⟩:=Yw HO.o;obtain⟨am,an,ax,aA,aa⟩:=ZJ HO.o;have aL:=hid ax;have ae:=hid aa;clear ax aA aa;go_wp2;go_loopw [5] (fun i wr=> ∃ j:Nat,j+1<=l.length/\i= .int .i64 ((j:Int)+1)/\Hid (∀ k (G:k+1<l.length),k<j->(fun a b:Mb=> !decide (XI b a=0)) l[k] l[k+1]=true)/\Hid (Bw w wr)) (fun i _=>l.length - (intOf i).toNat)
 case atStart=>exact⟨0,by omega,rfl,hid (fun k G h=>by omega),hid br⟩
 case round=>
  obtain⟨j,hj,rfl,HE,F⟩:=hrel;by_cases hlt:j+1<l.length
  ·have aR:(j:Int)+1< (l.length:Int):=by omega
   have aS:(0:Int)<=(j:Int)+1:=by omega
   have aT:((j:Int)+1).toNat=j+1:=by omega
   have aU:(j:Int)< (l.length:Int):=by omega
   have au:(j:Int)+1 - 1=(j:Int):=by omega
   have aI:IntKind.i64.wrap ((j:Int)+1 - 1)=(j:Int):=by rw [au];simp [IntKind.wrap,IntKind.bits,IntKind.signed];omega
   have aJ:IntKind.i64.wrap (j:Int)=(j:Int):=by simp [IntKind.wrap,IntKind.bits,IntKind.signed];omega
   have aK:IntKind.i64.wrap ((j:Int)+1)=(j:Int)+1:=by simp [IntKind.wrap,IntKind.bits,IntKind.signed];omega
   have m:g<wr.heap.size:=Nat.lt_of_lt_of_le an F.o.size;have E: ∀ i u,(Mb.cs l[j])[i]?=some u->wr.cell? (aD g (j*2+i))=some u:=fun i u U=>(F.o.cell (p:=(aD g (j*2+i))) an).trans (ae.o _ u (by rw [Zl Mb.k l j i (by omega) (by rw [<-Mb.k l[j]];exact(List.getElem?_eq_some_iff.1 U).1)];exact U))
   have D: ∀ i u,(Mb.cs l[j+1])[i]?=some u->wr.cell? (aD g ((j+1)*2+i))=some u:=fun i u U=>(F.o.cell (p:=(aD g ((j+1)*2+i))) an).trans (ae.o _ u (by rw [Zl Mb.k l (j+1) i hlt (by rw [<-Mb.k l[j+1]];exact(List.getElem?_eq_some_iff.1 U).1)];exact U))
   have HX:Hid ((fun a b:Mb=> !decide (XI b a=0)) l[j] l[j+1]=true-> ∀ k (G:k+1<l.length),k<j+1->(fun a b:Mb=> !decide (XI b a=0)) l[k] l[k+1]=true):=hid (by
    intro h k G aZ;rcases Nat.lt_or_ge k j with s | s
    ·exact HE.o k G s
    ·obtain rfl:k=j:=by omega
     exact h)
   have HN:Hid ((fun a b:Mb=> !decide (XI b a=0)) l[j] l[j+1]=false->S8 (fun a b:Mb=> !decide (XI b a=0)) l=false):=hid (Np (fun a b:Mb=> !decide (XI b a=0)) l j (by omega));generalize l[j]=x at HX HN E;generalize l[j+1]=y at HX HN D;have a0:wr.cell? (aD g (j*2))=some (Value.string (Z2 x.ZQ)):=by have:=E 0 _ rfl;rwa [Nat.add_zero] at this
   have a1:wr.cell? (aD g (j*2+1))=some (Value.string (Z2 x.of)):=E 1 _ rfl;have K:wr.cell? (aD g ((j+1)*2))=some (Value.string (Z2 y.ZQ)):=by have:=D 0 _ rfl;rwa [Nat.add_zero] at this
   have L:wr.cell? (aD g ((j+1)*2+1))=some (Value.string (Z2 y.of)):=D 1 _ rfl;clear E D;obtain⟨r,J⟩: ∃ r,Hid (decide (XI y x=0)=r):=⟨_,hid rfl⟩
   have ac:Hid (Below base w wr):=hid (F.o.mono (by omega));have T:Bw wr wr.drew:=Below.drew br;have O:Hid (∀ I C,(fun w'=>Bw wr w'/\w'.cell? (aD g (j*2))=some (Value.string (Z2 x.ZQ))/\w'.cell? (aD g (j*2+1))=some (Value.string (Z2 x.of))/\w'.cell? (aD g ((j+1)*2))=some (Value.string (Z2 y.ZQ))/\w'.cell? (aD g ((j+1)*2+1))=some (Value.string (Z2 y.of))) I->Bw I C->(fun w'=>Bw wr w'/\w'.cell? (aD g (j*2))=some (Value.string (Z2 x.ZQ))/\w'.cell? (aD g (j*2+1))=some (Value.string (Z2 x.of))/\w'.cell? (aD g ((j+1)*2))=some (Value.string (Z2 y.ZQ))/\w'.cell? (aD g ((j+1)*2+1))=some (Value.string (Z2 y.of))) C):=hid (by
    intro I C ⟨s,_⟩ M;have d:Bw wr C:=s.trans (M.mono s.size);exact⟨d,ct a0 d m,ct a1 d m,ct K d m,ct L d m⟩)
   have N:Hid (∀ W,(fun w'=>Bw wr w'/\w'.cell? (aD g (j*2))=some (Value.string (Z2 x.ZQ))/\w'.cell? (aD g (j*2+1))=some (Value.string (Z2 x.of))/\w'.cell? (aD g ((j+1)*2))=some (Value.string (Z2 y.ZQ))/\w'.cell? (aD g ((j+1)*2+1))=some (Value.string (Z2 y.of))) W->cQ 233 (#[.agg #[sT y.ZQ,sT y.of],.agg #[sT x.ZQ,sT x.of]] ++lb) W fun e w'=>e= .returned (.bool r)/\Bw W w'):=hid (by
    intro W hW;rw [<-J.o];exact HEq.o W y x (ac.o.trans (hW.1.mono (by omega))))
   go_wp2_with fail;go_region_held_law (fun w'=>Bw wr w'/\w'.cell? (aD g (j*2))=some (Value.string (Z2 x.ZQ))/\w'.cell? (aD g (j*2+1))=some (Value.string (Z2 x.of))/\w'.cell? (aD g ((j+1)*2))=some (Value.string (Z2 y.ZQ))/\w'.cell? (aD g ((j+1)*2+1))=some (Value.string (Z2 y.of)))
    (first | exact O.o _ _ (by assumption) (by assumption) | exact⟨T,a0,a1,K,L⟩)
    (first | (go_at_call 233;refine(N.o _ (by assumption)).mono ?_;rintro e w' ⟨rfl,hb⟩))
   rename_i hS;have V:=bt F hS.1;clear hS
   cases r
   ·have ah:=hid (HX.o (by show (!decide (XI y x=0))=true;rw [J.o];rfl));go_wp2;go_roundw
    case rel=>exact⟨j+1,by omega,by(try go_num),ah,V⟩
    case measure=>simp [intOf];omega
   ·have ah:Hid (S8 (fun a b:Mb=> !decide (XI b a=0)) l=false):=hid (HN.o (by show (!decide (XI y x=0))=false;rw [J.o];rfl));have ar:Hid (X8 w' base 147 2 (some (aD g 0)) l.length c Mb.cs):=hid ⟨l,rfl,HO.o.ZC V.o⟩;have ap:Hid (Below base w w'):=hid (V.o.mono (by omega));clear HE HX HN J ae O N ac T au aI a0 a1 K L;have d1:(l.length:Int)<=(c:Int):=by omega
    have d2:(j:Int)+1<=(l.length:Int):=by omega
    have d3:(j:Int)+1<=(c:Int):=by omega
    have d4:((l.length:Int) - ((j:Int)+1)).toNat=l.length - (j+1):=by omega
    have d5:((c:Int) - ((j:Int)+1)).toNat=c - (j+1):=by omega
    go_wp2;go_loopw [5,7] (fun kk i wr=> ∃ a b:Nat,a<=j+1+b/\j+1+ (b+1)<=l.length/\kk=i6 a/\i= .int .i64 ((b:Int)+1)/\Hid (X8 wr base 147 2 (some (aD g 0)) l.length c Mb.cs)/\Hid (Below base w wr)) (fun _ i _=>l.length - (intOf i).toNat)
    case atStart=>exact⟨j+1,0,by omega,by omega,by(try go_num),rfl,ar,ap⟩
    case round=>
     clear ar ap V F hb m;obtain⟨a,b,aQ,aV,rfl,rfl,af,ad⟩:=hrel;obtain⟨_,aC,aB,ak⟩:=af.o.cells Mb.k;by_cases hlt4:j+1+ (b+1)<l.length
     ·have e1:(b:Int)+1< ((l.length - (j+1):Nat):Int):=by omega
      have e2:(0:Int)<=(b:Int)+1:=by omega
      have e3:((b:Int)+1).toNat=b+1:=by omega
      have e4:(b:Int)< ((l.length - (j+1):Nat):Int):=by omega
      have e5:(b:Int)+1 - 1=(b:Int):=by omega
      have a6:IntKind.i64.wrap ((b:Int)+1 - 1)=(b:Int):=by rw [e5];simp [IntKind.wrap,IntKind.bits,IntKind.signed];omega
      have aF:IntKind.i64.wrap (b:Int)=(b:Int):=by simp [IntKind.wrap,IntKind.bits,IntKind.signed];omega
      have aG:IntKind.i64.wrap ((b:Int)+1)=(b:Int)+1:=by simp [IntKind.wrap,IntKind.bits,IntKind.signed];omega
      have aH:IntKind.i64.wrap ((a:Int)+1)=(a:Int)+1:=by simp [IntKind.wrap,IntKind.bits,IntKind.signed];omega
      have e6:(a:Int)< (l.length:Int):=by omega
      obtain⟨x,E⟩:=ak (j+1+b) (by omega);obtain⟨y,D⟩:=ak (j+1+ (b+1)) hlt4;have a0:wr.cell? (aD g ((j+1)*2+b*2))=some (Value.string (Z2 x.ZQ)):=by have:=E 0 _ rfl;rwa [Nat.add_zero,Nat.add_mul] at this
      have a1:wr.cell? (aD g ((j+1)*2+b*2+1))=some (Value.string (Z2 x.of)):=by have:=E 1 _ rfl;rwa [Nat.add_mul] at this
      have K:wr.cell? (aD g ((j+1)*2+ (b+1)*2))=some (Value.string (Z2 y.ZQ)):=by have:=D 0 _ rfl;rwa [Nat.add_zero,Nat.add_mul] at this
      have L:wr.cell? (aD g ((j+1)*2+ (b+1)*2+1))=some (Value.string (Z2 y.of)):=by have:=D 1 _ rfl;rwa [Nat.add_mul] at this
      clear E D ak;obtain⟨r,J⟩: ∃ r,Hid (decide (XI y x=0)=r):=⟨_,hid rfl⟩
      have ac:=ad;have m:g<wr.heap.size:=aC;have T:Bw wr wr.drew:=Below.drew br;have O:Hid (∀ I C,(fun w'=>Bw wr w'/\w'.cell? (aD g ((j+1)*2+b*2))=some (Value.string (Z2 x.ZQ))/\w'.cell? (aD g ((j+1)*2+b*2+1))=some (Value.string (Z2 x.of))/\w'.cell? (aD g ((j+1)*2+ (b+1)*2))=some (Value.string (Z2 y.ZQ))/\w'.cell? (aD g ((j+1)*2+ (b+1)*2+1))=some (Value.string (Z2 y.of))) I->Bw I C->(fun w'=>Bw wr w'/\w'.cell? (aD g ((j+1)*2+b*2))=some (Value.string (Z2 x.ZQ))/\w'.cell? (aD g ((j+1)*2+b*2+1))=some (Value.string (Z2 x.of))/\w'.cell? (aD g ((j+1)*2+ (b+1)*2))=some (Value.string (Z2 y.ZQ))/\w'.cell? (aD g ((j+1)*2+ (b+1)*2+1))=some (Value.string (Z2 y.of))) C):=hid (by
       intro I C ⟨s,_⟩ M;have d:Bw wr C:=s.trans (M.mono s.size);exact⟨d,ct a0 d m,ct a1 d m,ct K d m,ct L d m⟩)
      have N:Hid (∀ W,(fun w'=>Bw wr w'/\w'.cell? (aD g ((j+1)*2+b*2))=some (Value.string (Z2 x.ZQ))/\w'.cell? (aD g ((j+1)*2+b*2+1))=some (Value.string (Z2 x.of))/\w'.cell? (aD g ((j+1)*2+ (b+1)*2))=some (Value.string (Z2 y.ZQ))/\w'.cell? (aD g ((j+1)*2+ (b+1)*2+1))=some (Value.string (Z2 y.of))) W->cQ 233 (#[.agg #[sT y.ZQ,sT y.of],.agg #[sT x.ZQ,sT x.of]] ++lb) W fun e w'=>e= .returned (.bool r)/\Bw W w'):=hid (by
       intro W hW;rw [<-J.o];exact HEq.o W y x (ac.o.trans (hW.1.mono (by omega))))
      go_wp2_with fail;go_region_held_law (fun w'=>Bw wr w'/\w'.cell? (aD g ((j+1)*2+b*2))=some (Value.string (Z2 x.ZQ))/\w'.cell? (aD g ((j+1)*2+b*2+1))=some (Value.string (Z2 x.of))/\w'.cell? (aD g ((j+1)*2+ (b+1)*2))=some (Value.string (Z2 y.ZQ))/\w'.cell? (aD g ((j+1)*2+ (b+1)*2+1))=some (Value.string (Z2 y.of)))
       (first | exact O.o _ _ (by assumption) (by assumption) | exact⟨T,a0,a1,K,L⟩)
       (first | (go_at_call 233;refine(N.o _ (by assumption)).mono ?_;rintro e w' ⟨rfl,hb⟩))
      rename_i hS;obtain⟨ai,aj⟩:=hS;have ag:Hid (X8 w' base 147 2 (some (aD g 0)) l.length c Mb.cs):=hid (af.o.below ai);have aq:Hid (Below base w w'):=hid (ad.o.trans (ai.mono (by omega)));obtain⟨_,aY,ab,av⟩:=ag.o.cells Mb.k;obtain⟨z,ao⟩:=av a (by omega);have c0:w'.cell? (aD g (a*2))=some (Value.string (Z2 z.ZQ)):=by have:=ao 0 _ rfl;rwa [Nat.add_zero] at this
      have c1:w'.cell? (aD g (a*2+1))=some (Value.string (Z2 z.of)):=ao 1 _ rfl;have aM:w'.cell? (aD g ((j+1)*2+ (b+1)*2))=some (Value.string (Z2 y.ZQ)):=aj.2.2.1;have aO:w'.cell? (aD g ((j+1)*2+ (b+1)*2+1))=some (Value.string (Z2 y.of)):=aj.2.2.2;have g0:=ab (a*2);have g1:=ab (a*2+1);clear ai aj O N T av ao
      cases r
      ·go_wp2;go_roundw
       case rel=>exact⟨a+1,b+1,by omega,by omega,by(try go_num),by(try go_num),hid (ag.o.Dx (by omega) y),hid ((aq.o.setCell (by exact am) _).setCell (by exact am) _)⟩
       case measure=>simp [intOf];omega
      ·go_wp2;go_roundw
       case rel=>exact⟨a,b+1,by omega,by omega,rfl,by(try go_num),ag,aq⟩
       case measure=>simp [intOf];omega
     ·obtain⟨Z,aP,az⟩:=Y5 wr 28 147 0 (.agg #[s0,s0]) underlying28 (fun w=>by kernel_rfl) rfl (by decide) (by simp [Value.cells,Value.oneCell']) (size:=2) g (a*2) (l.length - a) (c - a) (by omega) (by
       obtain⟨l2,s,M⟩:=af.o;exact Y8 M _ _ (by omega))
      have e1: ¬ (b:Int)+1< ((l.length - (j+1):Nat):Int):=by omega
      have f1:(a:Int)<=(l.length:Int):=by omega
      have f2:(a:Int)<=(c:Int):=by omega
      have f3:((l.length:Int) - (a:Int)).toNat=l.length - a:=by omega
      have f4:((c:Int) - (a:Int)).toNat=c - a:=by omega
      go_wp2_with fail;go_ret;exact⟨a,rfl,by rw [ah.o];simp;omega,by omega,ad.o.trans (ZF am _ _)⟩
  ·have HR:Hid (S8 (fun a b:Mb=> !decide (XI b a=0)) l=true):=hid ((UV (fun a b:Mb=> !decide (XI b a=0)) l).2 fun k G=>HE.o k G (by omega));have aE: ¬ (j:Int)+1< (l.length:Int):=by omega
   go_wp2;go_ret;exact⟨l.length,rfl,by rw [HR.o];simp,Nat.le_refl _,F.o.mono (by omega)⟩
theorem IK (g:Nat)(a b:(List UInt8))(w:World)(j:ZP w g 173 [.func (.func 107) #[] #[]]):
  Calls prog 230 #[.string (Z2 a),.string (Z2 b),.pointer (some ⟨g,0,none⟩)] w fun e w'=>e= .returned (.bool (decide (YR a b=0)))/\Below w.heap.size w w':=by
 have m:=fun W=>Lo a b W
 have s:=j.cell 0;have u:=j.lt;generalize YR a b=r at*;go_enter func230,ntmps230
 go_wp2_with fail;refine(m _).mono ?_
 rintro e w' ⟨rfl,hb⟩;have d:=hid hb.below;go_wp2;go_ret;refine⟨?_,?_⟩
 ·first | rfl | (congr 2;by_cases h:r=0 <;> simp [h])
 ·first | exact d.out | exact(((Below.refl w.heap.size w).alloc lr _).alloc (by simp) _).trans (d.out.mono (by simp;omega))
theorem JZ (l:List (List UInt8))(A:Option Addr)(c:Nat)(w:World)(U:Zj w w.heap.size A Yy l)(E:l.length<=1099511627776):
  Calls prog 151 #[.slice A l.length c,.func (.func 107) #[] #[]] w fun e w'=>e= .returned (.bool (Zt YR l))/\Below w.heap.size w w':=by
 have d:Hid (Zt YR l=(S8 (fun a b:(List UInt8)=> !decide (YR b a<0)) l && S8 (fun a b:(List UInt8)=> !decide (YR b a=0)) l)):=hid (Lu _ PQ l);have D:=hid (U.later ((Below.refl w.heap.size w).alloc lr (.cells #[.func (.func 107) #[] #[]] 173)));have I:Hid (ZP (w.alloc (.cells #[.func (.func 107) #[] #[]] 173)) w.heap.size 173 [.func (.func 107) #[] #[]]):=hid (ZP.new w _ _);have K:Hid (Below w.heap.size w (w.alloc (.cells #[.func (.func 107) #[] #[]] 173))):=hid ((Below.refl w.heap.size w).alloc lr _);have N:w.heap.size< (w.alloc (.cells #[.func (.func 107) #[] #[]] 173)).heap.size:=by simp
 clear U;go_enter func151,ntmps151
 go_wp2_with fail;generalize (w.alloc (.cells #[.func (.func 107) #[] #[]] 173))=w1 at*;refine(JR l A c _ D.out E).mono ?_
 rintro e u ⟨rfl,h⟩;have G:=hid (D.out.later h);have J:=hid (I.out.below h (by omega));have C:=hid (K.out.trans (h.mono (by omega)));have ad:w.heap.size<u.heap.size:=Nat.lt_of_lt_of_le N h.size;clear h D I K N w1
 cases hq:S8 (fun a b:(List UInt8)=> !decide (YR b a<0)) l
 ·rw [hq] at d;clear hq;go_wp2;go_ret;exact⟨by rw [d.out];rfl,C.out⟩
 ·rw [hq] at d;clear hq;go_wp2_with fail;refine(Xk A c l _ G.out E).mono ?_
  rintro e Z ⟨O,T,rfl,M,j⟩;have ac:=hid (show Z.ownsRow u.heap.size 9 1 (.slice O l.length T) l.length (l.flatMap Yy) from M);have ab:=hid (J.out.below j (by omega));have aa:=hid (C.out.trans (j.mono (by omega)));have ae:u.heap.size<=Z.heap.size:=j.size;clear M j G J C;go_wp2_with fail;refine(Mq u.heap.size #[.pointer (some ⟨w.heap.size,0,none⟩)] l O T _ ac.out E (fun W a b hW=>IK w.heap.size a b W (ab.out.below hW (by omega)))).mono ?_
  rintro e w4 ⟨m,rfl,V,af,L⟩;have s:=hid V;have F:=hid (aa.out.trans (L.mono (by omega)));clear V L
  cases hq2:S8 (fun a b:(List UInt8)=> !decide (YR b a=0)) l
  ·rw [hq2] at d s;clear hq2;have h1:m≠l.length:=of_decide_eq_false s.out;have h2:((m:Int) ==(l.length:Int))=false:=by simp;omega
   have h3: ¬ (m:Int)=(l.length:Int):=by omega
   go_wp2;go_ret;exact⟨by rw [d.out];rfl,F.out⟩
  ·rw [hq2] at d s;clear hq2;obtain rfl:m=l.length:=of_decide_eq_true s.out;have h2:((l.length:Int) ==(l.length:Int))=true:=by simp
   go_wp2;go_ret;exact⟨by rw [d.out];rfl,F.out⟩
theorem MR (g:Nat)(a b:Mb)(w:World)(m:ZP w g 207 [.func (.func 153) #[] #[]]):
  Calls prog 233 #[.agg (a.cs).toArray,.agg (b.cs).toArray,.pointer (some ⟨g,0,none⟩)] w fun e w'=>e= .returned (.bool (decide (XI a b=0)))/\Below w.heap.size w w':=by
 have d:=fun W=>RP a b W
 unfold Mb.cs at d ⊢;have s:=m.cell 0;have u:=m.lt;generalize XI a b=r at*;go_enter func233,ntmps233
 go_wp2_with fail;refine(d _).mono ?_
 rintro e w' ⟨rfl,hb⟩;have j:=hid hb.below;go_wp2;go_ret;refine⟨?_,?_⟩
 ·first | rfl | (congr 2;by_cases h:r=0 <;> simp [h])
 ·first | exact j.out | exact(((Below.refl w.heap.size w).alloc lr _).alloc (by simp) _).trans (j.out.mono (by simp;omega))
theorem Ov (l:List Mb)(A:Option Addr)(c:Nat)(w:World)(U:Zj w w.heap.size A Mb.cs l)(E:l.length<=1099511627776):
  Calls prog 152 #[.slice A l.length c,.func (.func 153) #[] #[]] w fun e w'=>e= .returned (.bool (Zt XI l))/\Below w.heap.size w w':=by
 have d:Hid (Zt XI l=(S8 (fun a b:Mb=> !decide (XI b a<0)) l && S8 (fun a b:Mb=> !decide (XI b a=0)) l)):=hid (Lu _ GZ l);have D:=hid (U.later ((Below.refl w.heap.size w).alloc lr (.cells #[.func (.func 153) #[] #[]] 207)));have I:Hid (ZP (w.alloc (.cells #[.func (.func 153) #[] #[]] 207)) w.heap.size 207 [.func (.func 153) #[] #[]]):=hid (ZP.new w _ _);have K:Hid (Below w.heap.size w (w.alloc (.cells #[.func (.func 153) #[] #[]] 207))):=hid ((Below.refl w.heap.size w).alloc lr _);have N:w.heap.size< (w.alloc (.cells #[.func (.func 153) #[] #[]] 207)).heap.size:=by simp
 clear U;go_enter func152,ntmps152
 go_wp2_with fail;generalize (w.alloc (.cells #[.func (.func 153) #[] #[]] 207))=w1 at*;refine(Oo l A c _ D.out E).mono ?_
 rintro e u ⟨rfl,h⟩;have G:=hid (D.out.later h);have J:=hid (I.out.below h (by omega));have C:=hid (K.out.trans (h.mono (by omega)));have ad:w.heap.size<u.heap.size:=Nat.lt_of_lt_of_le N h.size;clear h D I K N w1
 cases hq:S8 (fun a b:Mb=> !decide (XI b a<0)) l
 ·rw [hq] at d;clear hq;go_wp2;go_ret;exact⟨by rw [d.out];rfl,C.out⟩
 ·rw [hq] at d;clear hq;go_wp2_with fail;refine(Xc A c l _ G.out E).mono ?_
  rintro e Z ⟨O,T,rfl,M,j⟩;have ac:=hid (show Z.ownsRow u.heap.size 147 2 (.slice O l.length T) l.length (l.flatMap Mb.cs) from M);have ab:=hid (J.out.below j (by omega));have aa:=hid (C.out.trans (j.mono (by omega)));have ae:u.heap.size<=Z.heap.size:=j.size;clear M j G J C;go_wp2_with fail;refine(PL u.heap.size #[.pointer (some ⟨w.heap.size,0,none⟩)] l O T _ ac.out E (fun W a b hW=>MR w.heap.size a b W (ab.out.below hW (by omega)))).mono ?_
  rintro e w4 ⟨m,rfl,V,af,L⟩;have s:=hid V;have F:=hid (aa.out.trans (L.mono (by omega)));clear V L
  cases hq2:S8 (fun a b:Mb=> !decide (XI b a=0)) l
  ·rw [hq2] at d s;clear hq2;have h1:m≠l.length:=of_decide_eq_false s.out;have h2:((m:Int) ==(l.length:Int))=false:=by simp;omega
   have h3: ¬ (m:Int)=(l.length:Int):=by omega
   go_wp2;go_ret;exact⟨by rw [d.out];rfl,F.out⟩
  ·rw [hq2] at d s;clear hq2;obtain rfl:m=l.length:=of_decide_eq_true s.out;have h2:((l.length:Int) ==(l.length:Int))=true:=by simp
   go_wp2;go_ret;exact⟨by rw [d.out];rfl,F.out⟩
open Go.Maps
def Jw (v:Value):Option (DataW Value×List MemPlace):=some (.held v,[])
section
variable {P : Program} {k t e : TypeId} {κ : Type} {kv : κ -> Value} {kl : κ -> Lit} {dom : κ -> Prop} {w w' : World} {z : Value} {b n : Nat} {f : κ -> Value}
structure Jg (P:Program) (k:TypeId) {κ:Type} (kv:κ->Value) (kl:κ->Lit) (dom:κ->Prop):Prop where
 law:Keyed P k
 key: ∀ x,dom x->keyOf P k (kv x)=some (kl x)
 inj: ∀ x y,kl x=kl y->x=y
def YQ (P:Program)(k:TypeId)(kl:κ->Lit)(w:World)(z:Value)(b n:Nat)(f:κ->Value):Prop:=
 ∃ D:DataW Value,w.ownsMap P k Jw b n D/\ ∀ x,D.atKey (kl x) (.held z)= .held (f x)
theorem YQ.made (P:Program)(k:TypeId)(kl:κ->Lit)(w:World)(z:Value):YQ P k kl (w.alloc (.map #[] 0)) z w.heap.size 0 (fun _=>z):=
 ⟨.map [],World.ownsMap_made w P k Jw,fun _=>rfl⟩
theorem YQ.lt (h:YQ P k kl w z b n f):b<w.heap.size:=by
 obtain⟨D,d,_⟩:=h;exact d.lt
theorem YQ.mono (h:YQ P k kl w z b n f){m:Nat}(s:n<=m):YQ P k kl w z b m f:=by
 obtain⟨D,d,j⟩:=h;exact⟨D,d.mono s,j⟩
theorem YQ.same (h:YQ P k kl w z b n f)(hb:w'.heap[b]?=w.heap[b]?):YQ P k kl w' z b n f:=by
 obtain⟨D,⟨es,clock,d,j⟩,m⟩:=h;exact⟨D,⟨es,clock,hb.trans d,j⟩,m⟩
theorem YQ.below (h:YQ P k kl w z b n f){B:Nat}(hb:Below B w w')(d:b<B):YQ P k kl w' z b n f:=h.same (hb.block b d)
theorem YQ.later (h:YQ P k kl w z b n f)(hb:Below w.heap.size w w'):YQ P k kl w' z b n f:=h.below hb h.lt
theorem YQ.alloc (h:YQ P k kl w z b n f)(o:Obj):YQ P k kl (w.alloc o) z b n f:=h.same (Below.heap_alloc w o b h.lt)
theorem YQ.grown (h:YQ P k kl w z b n f){row:Option Nat}(d:w.grownBy w' row)(j:some b≠row):YQ P k kl w' z b n f:=h.same (d.block b h.lt j)
theorem YQ.look (h:YQ P k kl w z b n f)(K:Jg P k kv kl dom)(u:P.underlying t=some (.map k e))(E:(zeroValue e).run P w= .ok z w){x:κ}(C:dom x):
  (Instr.lookup t (.map (some b)) (kv x) false).run P w= .ok (f x) w:=by
 obtain⟨D,j,s⟩:=h;obtain⟨v,ps,m,d⟩:=j.lookup K.law u E (zd:= .held z) (zp:= []) rfl (K.key x C);rw [s x] at d;simp only [Jw,Option.some.injEq,Prod.mk.injEq,DataW.held.injEq] at d;rw [m,d.1]
theorem YQ.put [DecidableEq κ](h:YQ P k kl w z b n f)(K:Jg P k kv kl dom)(I:P.underlying t=some (.map k e))(G:n<maxLen){x:κ}(m:dom x)(v:Value):
  ∃ w',(Instr.mapUpdate t (.map (some b)) (kv x) v).run P w= .ok () w'/\YQ P k kl w' z b (n+1) (fun y=>if y=x then v else f y)/\w.grownBy w' (some b):=by
 obtain⟨D,j,F⟩:=h;have E:IsMap D:=by
  obtain⟨es,clock,_,_,_,rfl⟩:=j;exact⟨_,rfl⟩
 obtain⟨w',s,u,C⟩:=j.update K.law I G (K.key x m) (val:=v) (d:= .held v) (ps:= []) rfl;refine⟨w',s,⟨_,u,fun y=> ?_⟩,C⟩
 by_cases hyx:y=x
 ·subst hyx;show _=DataW.held (if y=y then v else f y)
  rw [if_pos rfl];exact atKey_put_same E (K.law.key (K.key y m)) _ _
 ·show _=DataW.held (if y=x then v else f y)
  rw [if_neg hyx,atKey_put_other (fun e=>hyx (K.inj _ _ e))];exact F y
theorem VP {o:Oper}{a:Act}{K:Act->World->Prop}{Q:Exit->Act->World->Prop}(m x v:Operand)(j:o.op=Op.mapUpdate t m x v){key val:Value}(s:a.eval m= .map (some b))(C:a.eval x=key)(u:a.eval v=val)
  (d:(Instr.mapUpdate t (.map (some b)) key val).run P w= .ok () w') (h:K (a.put o.dst undef) w'):Oper.wp P o a w K Q:=by
 unfold Oper.wp;simp [execOp,j,s,C,u,d,Result.andThen];exact h
theorem VF {ops:Array Oper}{rest:List Oper}{o:Oper}{a:Act}{Q:Exit->Act->World->Prop}(u:o.guard=none)(m x v:Operand)(s:o.op=Op.mapUpdate t m x v){key val:Value}(C:a.eval m= .map (some b))(E:a.eval x=key)(D:a.eval v=val)
  (d:(Instr.mapUpdate t (.map (some b)) key val).run P w= .ok () w') (h:wpList P ops Q rest (a.put o.dst undef) w'):wpList P ops Q (o ::rest) a w:=
 wpList_plain u fun F j=>VP m x v s C E D d (j _ _ h)
end
def Du (s:List UInt8):Value:= .string (Z2 s)
def Uw (s:List UInt8):Lit:= .string s
theorem VQ:Jg prog 9 Du Uw (fun s=>s.length<=maxLen) where
 law:=string_keyed underlying9
 key x hx:=by
  have h:=Go.WideMaps.keyOf_string_mk underlying9 (s:=Z2 x) (by rw [Yk];exact hx);exact h
 inj x y h:=by
  unfold Uw at h;injection h
def mu (ms:List Mb)(f:lU->Nat):Nat:=(ms.filter fun m=>f m.ZQ == 0).length
theorem M4 {f g:lU->Nat}(h: ∀ x,f x<=g x): ∀ d:List Mb,mu d g<=mu d f
 | []=>Nat.le_refl _
 | m ::d=>by
  have ih:=M4 h d;have s:=h m.ZQ;unfold mu at*;simp only [List.filter_cons];by_cases h1:g m.ZQ=0
  ·have j:f m.ZQ=0:=by omega
   rw [if_pos (by simpa using h1),if_pos (by simpa using j)];simpa using ih
  ·rw [if_neg (by simpa using h1)];split
   ·simp only [List.length_cons];omega
   ·exact ih
def bump (f:lU->Nat)(ZQ:lU):lU->Nat:=fun y=>if y=ZQ then f ZQ+1 else f y
theorem Jn (f:lU->Nat)(ZQ:lU)(h:f ZQ=0): ∀ d:List Mb,mu d (bump f ZQ)+ (X4 d ZQ).length=mu d f
 | []=>rfl
 | m ::d=>by
  have ih:=Jn f ZQ h d;unfold mu X4 at*;simp only [List.filter_cons,List.length_map] at*;by_cases h1:m.ZQ=ZQ
  ·have j:bump f ZQ m.ZQ=1:=by rw [h1];simp [bump,h]
   have s:f m.ZQ=0:=by rw [h1];exact h
   rw [if_neg (by rw [j];decide),if_pos (by simpa using h1),if_pos (by simpa using s)];simp only [List.length_cons];omega
  ·have j:bump f ZQ m.ZQ=f m.ZQ:=by simp [bump,h1]
   rw [j,if_neg (show ¬ (m.ZQ == ZQ)=true by simpa using h1)];split
   ·simp only [List.length_cons];omega
   ·exact ih
theorem Nm (f:lU->Nat)(ZQ x:lU):f x<=bump f ZQ x:=by
 unfold bump;split
 ·rename_i h;rw [h];omega
 ·exact Nat.le_refl _
theorem IR {d:List Mb}{ZQ x:lU}(h:x∈X4 d ZQ): ∃ m∈d,m.of=x:=by
 obtain⟨m,j,rfl⟩:=List.mem_map.1 h;exact⟨m,(List.mem_filter.1 j).1,rfl⟩
structure MD (ms:List Mb) (b1 b2 b3 fb nb M:Nat) (nx:lU->Value) (w:World):Prop where
 c1:w.cell? (aD b1 0)=some (.map (some fb))
 c2:w.cell? (aD b2 0)=some (.map (some nb))
 c3:w.cell? (aD b3 0)=some (.func (.func 154) #[] #[pT b1,pT b2,pT b3])
 n1:b1≠fb
 n2:b2≠fb
 n3:b3≠fb
 n4:nb≠fb
 map:YQ prog 9 Uw w (.slice none 0 0) nb M nx
 read: ∀ x,∃ A c,nx x= .slice A (X4 ms x).length c/\ ∀ j (hj:j< (X4 ms x).length),∃ ad,A=some ad/\ad.block≠fb/\w.cell? (ad.add j)=some (.string (Z2 (X4 ms x)[j]))
theorem MD.grown {F:List Mb}{s u C m G M:Nat}{I:lU->Value}{w w':World}(h:MD F s u C m G M I w)(d:w.grownBy w' (some m)):MD F s u C m G M I w' where
 c1:=(d.cell_far _ (World.block_lt_of_cell? w _ h.c1) (by simpa using h.n1)).trans h.c1
 c2:=(d.cell_far _ (World.block_lt_of_cell? w _ h.c2) (by simpa using h.n2)).trans h.c2
 c3:=(d.cell_far _ (World.block_lt_of_cell? w _ h.c3) (by simpa using h.n3)).trans h.c3
 n1:=h.n1
 n2:=h.n2
 n3:=h.n3
 n4:=h.n4
 map:=h.map.grown d (by simpa using h.n4)
 read x:=by
  obtain⟨A,c,K,L⟩:=h.read x;refine⟨A,c,K,fun j O=> ?_⟩
  obtain⟨J,N,D,E⟩:=L j O;exact⟨J,N,D,(d.cell_far _ (World.block_lt_of_cell? w _ E) (by rw [ZL];simpa using D)).trans E⟩
def Rv (f:lU->Nat):lU->Value:=fun x=>i6 (f x)
def Ik (ms:List Mb)(n fb N:Nat)(f:lU->Nat)(ZQ:lU)(w:World)(e:Ending)(w':World):Prop:=
 ∃ (N':Nat) (f':lU->Nat),e= .returned (.tuple #[])/\w.grownBy w' (some fb)/\YQ prog 9 Uw w' (i6 0) fb N' (Rv f')/\(∀ x,f' x<=N')/\N'+mu ms f'<=N+1+mu ms f/\(∀ x,f x<=f' x)/\
  ∀ met:List lU,(∀ x,0<f x↔x∈met)-> ∀ x,0<f' x↔x∈QI n ms met ZQ
def Ft (ms:List Mb)(n fb N:Nat)(f:lU->Nat)(ZQ:lU)(w:World)(j:Nat)(w':World):Prop:=
 ∃ (N':Nat) (f':lU->Nat),w.grownBy w' (some fb)/\YQ prog 9 Uw w' (i6 0) fb N' (Rv f')/\(∀ x,f' x<=N')/\N'+mu ms f'<=N+1+mu ms (bump f ZQ)+j/\(∀ x,bump f ZQ x<=f' x)/\
  ∀ met:List lU,(∀ x,0<f x↔x∈met)-> ∀ x,0<f' x↔x∈((X4 ms ZQ).take j).foldl (QI n ms) (ZQ ::met)
theorem Mv {f:lU->Nat}{ZQ:lU}{met:List lU}(h: ∀ x,0<f x↔x∈met)(x:lU):0<bump f ZQ x↔x∈ZQ ::met:=by
 unfold bump;rw [List.mem_cons,<-h x];split
 ·rename_i d;exact⟨fun _=>Or.inl d,fun _=>by omega⟩
 ·rename_i d;exact⟨Or.inr,fun h=>h.resolve_left d⟩
theorem FD (d:List Mb)(b1 b2 b3 s nb M:Nat)(nx:lU->Value)(aC: ∀ m∈d,m.of.length<=1099511627776): ∀ (n:Nat)(ZQ:lU)(f:lU->Nat)(N:Nat)(w:World),ZQ.length<=1099511627776->MD d b1 b2 b3 s nb M nx w->
  YQ prog 9 Uw w (i6 0) s N (Rv f)->(∀ x,f x<=N)->mu d f+2<=n->N+1+mu d f<=1099511627776->mu d f<=1099511627776->
  cQ 154 #[sT ZQ,pT b1,pT b2,pT b3] w (Ik d n s N f ZQ w):=by
 intro n;induction n with
 | zero=>intro ZQ f N w _ _ _ _ h;omega
 | succ n ih=>
  intro ZQ f N w aE V Z hN aY aQ ay;have HK:=hid V;have HM:=hid Z;have IH:=hid ih;have aI:=hid aC;have aX:f ZQ<=N:=hN ZQ;have HN:=hid hN;have c1:=V.c1;have r1:(Instr.lookup 164 (.map (some s)) (sT ZQ) false).run prog w= .ok (i6 (f ZQ)) w:=Z.look VQ underlying164 (by kernel_rfl) (x:=ZQ) (by unfold maxLen;omega)
  have aV:IntKind.i64.wrap ((f ZQ:Int)+1)=((f ZQ+1:Nat):Int):=by simp [IntKind.wrap,IntKind.bits,IntKind.signed];omega
  obtain⟨C,af,J,ah⟩:=Z.put VQ underlying164 (by unfold maxLen;omega) (x:=ZQ) (by unfold maxLen;omega) (.int .i64 ((f ZQ+1:Nat):Int));have aa:(Instr.mapUpdate 164 (.map (some s)) (sT ZQ) (.int .i64 ((f ZQ+1:Nat):Int))).run prog w= .ok () C:=af;have ar:(fun y=>if y=ZQ then Value.int .i64 ((f ZQ+1:Nat):Int) else Rv f y)=Rv (bump f ZQ):=by
   funext y
   unfold Rv bump;split <;> rfl
  rw [ar] at J;have ap:=hid J;have an:=hid ah;have D:=V.grown ah;have ao:=hid D;have aM:=D.c1;have aO:=D.c2;have aP:=D.c3;have r2:(Instr.lookup 164 (.map (some s)) (sT ZQ) false).run prog C= .ok (.int .i64 ((f ZQ+1:Nat):Int)) C:=by
   have:=J.look VQ underlying164 (by kernel_rfl) (x:=ZQ) (by unfold maxLen;omega);rw [show Rv (bump f ZQ) ZQ= .int .i64 ((f ZQ+1:Nat):Int) from by simp [Rv,bump]] at this;exact this
  have av: ∀ x,bump f ZQ x<=N+1:=by
   intro x;unfold bump;split
   ·omega
   ·have:=hN x;omega
  have aq:=hid av;clear af ar V Z D J ah ih aC hN av;go_enter func154,ntmps154
  by_cases h0:f ZQ=0
  ·obtain⟨A,c,ak,ac⟩:=ao.o.read ZQ;have r3:(Instr.lookup 154 (.map (some nb)) (sT ZQ) false).run prog C= .ok (.slice A (X4 d ZQ).length c) C:=by
    have:=ao.o.map.look VQ underlying154 (by kernel_rfl) (x:=ZQ) (by unfold maxLen;omega);rw [ak] at this;exact this
   have aR: ¬ ((f ZQ+1:Nat):Int) > 1:=by omega
   have ai: ¬ (1:Int)< ((f ZQ+1:Nat):Int):=by omega
   have ae:=Jn f ZQ h0 d;have a6:(X4 d ZQ).length<=1099511627776:=by omega
   have HW:Hid (∀ met,ZQ∉met->QI (n+1) d met ZQ=(X4 d ZQ).foldl (QI n d) (ZQ ::met)):=hid fun met hm=>by rw [QI,if_neg hm]
   have H0:=hid h0;clear h0;go_wp2_with (first | (at_mapUpdate;refine VF rfl _ _ _ rfl rfl rfl rfl aa ?_) | fail)
   have aL:=hid ac;have aK:=hid ak;have I:=hid ae;clear ac ak ae r1 r2 r3 aa c1 aM aO aP aV;go_loopw [19] (fun i wr=> ∃ j:Nat,j<=(X4 d ZQ).length/\i=i6 j/\Hid (Ft d n s N f ZQ w j wr)) (fun i _=>(X4 d ZQ).length - (intOf i).toNat)
   case atStart=>
    refine⟨0,Nat.zero_le _,rfl,hid ⟨N+1,bump f ZQ,an.o,ap.o,aq.o,by omega,fun x=>Nat.le_refl _,fun met u x=> ?_⟩⟩
    rw [List.take_zero];exact Mv u x
   case round=>
    obtain⟨j,hj,rfl,HJ⟩:=hrel;obtain⟨Nj,fj,G,K,L,am,F,T⟩:=HJ.o;have E:=HK.o.grown G;by_cases hlt:j< (X4 d ZQ).length
    ·obtain⟨ad,rfl,aZ,_⟩:=aL.o j hlt;obtain⟨A2,c2,U,ag⟩:=E.read ZQ;rw [aK.o] at U;injection U with U _ h3
     subst U;subst h3;obtain⟨aW,e',_,a0⟩:=ag j hlt;injection e' with e'
     subst e';have c3:=E.c3;have aj:(X4 d ZQ)[j].length<=1099511627776:=by
      obtain⟨m,hm,he⟩:=IR (List.getElem_mem hlt);rw [<-he];exact aI.o m hm
     have aB:=M4 F d;have aT:1<=(X4 d ZQ).length:=by omega
     have ab:=IH.o (X4 d ZQ)[j] fj Nj wr aj E K L (by have:=I.o;omega) (by have:=I.o;omega) (by have:=I.o;omega);have HT:Hid ((X4 d ZQ).take (j+1)=(X4 d ZQ).take j ++ [(X4 d ZQ)[j]]):=hid (List.take_succ_eq_append_getElem hlt);have HC:=hid ab;have aF:=hid F;have aJ:=hid T;have aG:=hid G;clear ab ag E K L F T G;generalize hL:(X4 d ZQ)[j]=x at*;have HL:=hid hL;clear hL;go_wp2_with fail;refine HC.o.mono ?_
     rintro e w2 ⟨N2,f2,rfl,az,au,aw,aU,ax,aA⟩;have aH:Hid (Ft d n s N f ZQ w (j+1) w2):=hid ⟨N2,f2,aG.o.trans az,au,aw,by omega,fun x=>Nat.le_trans (aF.o x) (ax x),fun met u y=>by
      rw [HT.o,List.foldl_append];exact aA _ (aJ.o met u) y⟩
     clear az au aw aU ax aA;go_wp2;go_roundw
     case rel=>exact⟨j+1,by omega,by go_num,aH⟩
     case measure=>simp [intOf];omega
    ·obtain rfl:j=(X4 d ZQ).length:=by omega
     have HE:Hid (Ik d (n+1) s N f ZQ w (.returned (.tuple #[])) wr):=hid ⟨Nj,fj,rfl,G,K,L,by have:=I.o;omega,fun x=>Nat.le_trans (Nm f ZQ x) (F x),fun met u x=>by
      rw [HW.o met (fun O=>by have:=(u ZQ).2 O;rw [H0.o] at this;omega),T met u x,List.take_length]⟩
     clear G K L am F T E;go_wp2;(try simp only [Exit.inBlock,Exit.then])
     first | (refine bodyPost_ret (results_none rfl _ _ _) rfl ?_) | (refine bodyPost_end (results_none rfl _ _ _) rfl ?_)
     exact HE.o
  ·have aR:((f ZQ+1:Nat):Int) > 1:=by omega
   have ai:(1:Int)< ((f ZQ+1:Nat):Int):=by omega
   have aS:=M4 (Nm f ZQ) d;have HE:Hid (Ik d (n+1) s N f ZQ w (.returned (.tuple #[])) C):=hid ⟨N+1,bump f ZQ,rfl,an.o,ap.o,aq.o,by omega,Nm f ZQ,fun met u x=>by
    have O:ZQ∈met:=(u ZQ).1 (by omega);rw [QI,if_pos O,Mv u x,List.mem_cons];exact⟨fun h=>h.elim (fun e=>e▸O) id,Or.inr⟩⟩
   go_wp2_with (first | (at_mapUpdate;refine VF rfl _ _ _ rfl rfl rfl rfl aa ?_) | fail);(try simp only [Exit.inBlock,Exit.then])
   first | (refine bodyPost_ret (results_none rfl _ _ _) rfl ?_) | (refine bodyPost_end (results_none rfl _ _ _) rfl ?_)
   exact HE.o
theorem TA {w w':World}{base k n:Nat}{T:TypeId}{v:Value}{xs:List Value}(h:w.ownsRow base T k v n xs)(hb: ∀ g,v.ownBlock=some g->w'.heap[g]?=w.heap[g]?):w'.ownsRow base T k v n xs:=by
 obtain⟨E,s⟩:=h;refine⟨E,?_⟩
 rcases s with m | ⟨g,cap,j,d,C,D,u⟩
 ·exact .inl m
 ·exact .inr ⟨g,cap,j,d,C,(hb g (by rw [d];rfl)).trans D,u⟩
theorem Ki (d:List Mb)(j:Nat)(m:j<d.length)(x:List UInt8):X4 (d.take (j+1)) x=X4 (d.take j) x ++ (if d[j].ZQ=x then [d[j].of] else []):=by
 unfold X4;rw [List.take_succ_eq_append_getElem m,List.filter_append,List.map_append];congr 1
 by_cases h:d[j].ZQ=x
 ·rw [if_pos h,List.filter_cons_of_pos (by simpa using h)];rfl
 ·rw [if_neg h,List.filter_cons_of_neg (by simpa using h)];rfl
theorem IS (d:List Mb)(x:List UInt8):(X4 d x).length<=d.length:=by
 unfold X4;rw [List.length_map];exact List.length_filter_le _ _
structure MF (ms:List Mb) (s:Nat) (w wr:World) (j:Nat) (nx:List UInt8->Value):Prop where
 below:Below s w wr
 cell:wr.cell? ⟨s+2,0,none⟩=some (.map (some (s+1)))
 map:YQ prog 9 Uw wr (.slice none 0 0) (s+1) j nx
 own: ∀ x,wr.ownsRow (s+3) 9 1 (nx x) (X4 (ms.take j) x).length ((X4 (ms.take j) x).flatMap Yy)
 D6: ∀ x y g,(nx x).ownBlock=some g->(nx y).ownBlock=some g->x=y
 size:s+3<=wr.heap.size
def Om (s g7:Nat)(m:Mb)(v:Value)(w:World):Prop:=
 w.cell? ⟨s+2,0,none⟩=some (.map (some (s+1)))/\w.cell? ⟨g7,0,none⟩=some (.string (Z2 m.ZQ))/\w.cell? ⟨g7,1,none⟩=some (.string (Z2 m.of))/\
  (Instr.lookup 154 (.map (some (s+1))) (.string (Z2 m.ZQ)) false).run prog w= .ok v w
theorem MF.step {d:List Mb}{s:Nat}{w wr:World}{j:Nat}{C:List UInt8->Value}(h:MF d s w wr j C)(hj:j<d.length)(G:d.length<=65536)(hr:d[j].ZQ.length<=1099511627776):
  Om s wr.heap.size d[j] (C d[j].ZQ) (wr.alloc (.cells #[.string (Z2 d[j].ZQ),.string (Z2 d[j].of)] 147)).drew/\
  Om s wr.heap.size d[j] (C d[j].ZQ) ((wr.alloc (.cells #[.string (Z2 d[j].ZQ),.string (Z2 d[j].of)] 147)).drew.alloc (.cells #[.string (Z2 d[j].of)] 9))/\
  ∃ v D T an,(Builtin.append_ #[27,27] 27 #[C d[j].ZQ,.slice (some ⟨wr.heap.size+1,0,none⟩) 1 1]).run prog ((wr.alloc (.cells #[.string (Z2 d[j].ZQ),.string (Z2 d[j].of)] 147)).drew.alloc (.cells #[.string (Z2 d[j].of)] 9))= .ok v D/\
   Om s wr.heap.size d[j] (C d[j].ZQ) D/\(Instr.mapUpdate 154 (.map (some (s+1))) (.string (Z2 d[j].ZQ)) v).run prog D= .ok () T/\MF d s w T (j+1) an:=by
 obtain⟨i0,ag,ai,aj,ak⟩:=info_parts RV;generalize hm:d[j]=m at*;have U: ∀ W,YQ prog 9 Uw W (.slice none 0 0) (s+1) j C->(Instr.lookup 154 (.map (some (s+1))) (.string (Z2 m.ZQ)) false).run prog W= .ok (C m.ZQ) W:=fun W hW=>
  hW.look VQ underlying154 (by kernel_rfl) (x:=m.ZQ) (by unfold maxLen;omega)
 generalize hV0:(wr.alloc (.cells #[.string (Z2 m.ZQ),.string (Z2 m.of)] 147)).drew=V0 at*;have B0:Below wr.heap.size wr V0:=by rw [<-hV0];exact(br.alloc lr _).drew
 have P0:ZP V0 wr.heap.size 147 [.string (Z2 m.ZQ),.string (Z2 m.of)]:=by rw [<-hV0];exact(ZP.new wr _ _).drew
 have z0:V0.heap.size=wr.heap.size+1:=by rw [<-hV0];simp [World.drew]
 generalize hV:V0.alloc (.cells #[.string (Z2 m.of)] 9)=V at*;have B1:Below V0.heap.size V0 V:=by rw [<-hV];exact br.alloc lr _
 have P1:ZP V wr.heap.size 147 [.string (Z2 m.ZQ),.string (Z2 m.of)]:=P0.below B1 (by omega);have Q1:ZP V (wr.heap.size+1) 9 [.string (Z2 m.of)]:=by rw [<-hV,<-z0];exact ZP.new V0 _ _
 have z1:V.heap.size=wr.heap.size+2:=by rw [<-hV];simp;omega
 have hs:=h.size;have hc:=h.cell;have M0:=h.map.later B0;have M1:=M0.later B1;have af:s+2<wr.heap.size:=by omega
 have S0:Om s wr.heap.size m (C m.ZQ) V0:=⟨ct hc B0 af,P0.cell 0,P0.cell 1,U _ M0⟩
 have O:Om s wr.heap.size m (C m.ZQ) V:=⟨(B1.cell (p:=⟨s+2,0,none⟩) (by show s+2<_;omega)).trans S0.1,P1.cell 0,P1.cell 1,U _ M1⟩
 refine⟨S0,O,?_⟩
 have ad:Below wr.heap.size wr V:=B0.trans (B1.mono (by omega));have K: ∀ x,V.ownsRow (s+3) 9 1 (C x) (X4 (d.take j) x).length ((X4 (d.take j) x).flatMap Yy):=fun x=>(h.own x).ZC ad
 have ah:=Nat.le_trans (IS (d.take j) m.ZQ) (List.length_take_le _ _);obtain⟨v,D,ac,Z,I,_,aa⟩:=run_append_own_at (P:=prog) (w:=V) (s+3) 27 27 9 i0 _ 1 16 underlying27 ag ai aj ak rfl (by decide) (C m.ZQ) _ _ (K m.ZQ) ⟨wr.heap.size+1,0,none⟩ 1 1 [.string (Z2 m.of)] rfl Q1.news
  (by simp [Value.oneCell']) (by unfold maxLen;omega) (by omega) (by omega)
 have WT: ∀ k,k<V.heap.size->(k<s+3∨wr.heap.size<=k)->D.heap[k]?=V.heap[k]?:=fun k J ao=>I.block k J (fun e=>by
  obtain⟨M,N⟩:=(h.own m.ZQ).lt k e.symm;omega)
 have M2:YQ prog 9 Uw D (.slice none 0 0) (s+1) j C:=M1.same (WT _ (by omega) (by omega));have S2:Om s wr.heap.size m (C m.ZQ) D:=⟨(World.cell?_of_block (WT (s+2) (by omega) (by omega))).trans O.1,(World.cell?_of_block (WT wr.heap.size (by omega) (by omega))).trans O.2.1,(World.cell?_of_block (WT wr.heap.size (by omega) (by omega))).trans O.2.2.1,U _ M2⟩
 obtain⟨T,ab,M3,L⟩:=M2.put VQ underlying154 (by unfold maxLen;omega) (x:=m.ZQ) (by unfold maxLen;omega) v;refine⟨v,D,T,_,ac,S2,ab,?_,?_,M3,?_,?_,?_⟩
 ·have b2:Below s V D:=((Below.refl s V).grown I (by omega) (fun k J=>by have:=(h.own m.ZQ).lt k J;omega))
  exact((h.below.trans (ad.mono (by omega))).trans b2).grown L (by have:=I.size;omega) (fun k J=>by injection J with J;omega)
 ·exact(L.cell_far ⟨s+2,0,none⟩ (World.block_lt_of_cell? D ⟨s+2,0,none⟩ S2.1) (by simp)).trans S2.1
 ·intro x;rw [Ki d j hj,hm];have am:=I.size;by_cases u:x=m.ZQ
  ·subst u;rw [if_pos rfl,if_pos rfl,List.length_append,List.flatMap_append];refine TA Z fun g F=>L.block g ((Z.lt g F).2) (fun e=> ?_)
   injection e with e
   have:=(Z.lt g F).1;omega
  ·rw [if_neg u,if_neg (fun e=>u e.symm),List.append_nil];refine TA (TA (K x) fun g F=>I.block g ((K x).lt g F).2 (fun e=> ?_)) fun g F=>L.block g ?_ (fun e=> ?_)
   ·exact u (h.D6 x m.ZQ g F e.symm)
   ·have:=((K x).lt g F).2;omega
   ·injection e with e
    have:=((K x).lt g F).1;omega
 ·intro x y g u E;have ae: ∀ z,(C z).ownBlock=some g->g<wr.heap.size:=fun z hz=>((h.own z).lt g hz).2
  by_cases M:x=m.ZQ <;> by_cases N:y=m.ZQ
  ·rw [M,N]
  ·subst M;rw [if_pos rfl] at u;rw [if_neg N] at E;rcases aa with G | G
   ·exact h.D6 _ _ g (G▸u) E
   ·rw [G] at u;injection u with u
    have:=ae y E;omega
  ·subst N;rw [if_pos rfl] at E;rw [if_neg M] at u;rcases aa with G | G
   ·exact h.D6 _ _ g u (G▸E)
   ·rw [G] at E;injection E with E
    have:=ae x u;omega
  ·rw [if_neg M] at u;rw [if_neg N] at E;exact h.D6 _ _ g u E
 ·have:=I.size;have:=L.size;omega
end Go.Proofs.YtnhmoibjlakhjaaGreat
namespace Go.Proofs.YtnhmoibjlakhjaaGreat
open Go.Proofs.Tryz
open Lib (hid)
set_option maxRecDepth 100000
set_option maxHeartbeats 16000000
open Go.RowKit Go.Maps
def Ij (ms:List Mb)(ZQ:lU)(w:World)(e:Ending)(w':World):Prop:=
 ∃ (fb N:Nat) (f:lU->Nat),e= .returned (.map (some fb))/\YQ prog 9 Uw w' (i6 0) fb N (Rv f)/\(∀ x,f x<=1099511627776)/\(∀ x,0<f x↔x∈SP ms ZQ)/\Bw w w'/\w.heap.size<=fb
theorem wp_append_run {P:Program}{o:Oper}{a:Act}{w w':World}{K:Act->World->Prop}{Q:Exit->Act->World->Prop}(s x:Operand)(t:TypeId)(u:o.op= .call { callee:= .builtin .append,args:= #[s,x],argTypes:= #[t,t]}){d j v:Value}(C:a.eval s=d)(D:a.eval x=j)
  (m:(Builtin.append_ #[t,t] o.type #[d,j]).run P w= .ok v w') (h:K (a.put o.dst v) w'):Oper.wp P o a w K Q:=by
 unfold Oper.wp execOp;simp only [u,resolve,invoke,builtin,Sem.run_bind,Sem.run_pure,Result.andThen_ok,List.map_toArray,List.map_cons,List.map_nil,C,D,m];exact h
theorem OX {P:Program}{w:World}{a:Addr}{m:Mode}(f:Fn)(x y:Array Value):(store a (.func f x y) m).run P w=stored P w a (.func f x y) m:=run_store P w a _ m rfl
attribute [local go_sem] OX
theorem FP (d:List Mb):mu d (fun _=>0)=d.length:=by
 simp [mu]
theorem OQ (d:List Mb)(G:oA)(M L:Nat)(A:oA)(c:Nat)(ZQ:lU)(w:World)(hA:Zj w w.heap.size A Mb.cs d)(hl:d.length<=65536)
  (hb: ∀ m∈d,m.ZQ.length<=1099511627776/\m.of.length<=1099511627776) (hr:ZQ.length<=1099511627776):
  cQ 95 #[.agg #[.slice G M L,.slice A d.length c],sT ZQ] w (Ij d ZQ w):=by
 have HA:=hid hA;have aj:=hid hb;clear hA hb;go_enter func95,ntmps95
 have aF:= @run_makeMap prog;go_wp2_with fail;refine Wh _ fun W I=> ?_
 have HN:Hid (MF d w.heap.size w W 0 (fun _=> .slice none 0 0)):=hid (by
  refine⟨?_,?_,?_,fun x=> ?_,(fun x y g hx _=>by cases hx),?_⟩
  ·rw [I];exact((br.alloc lr _).alloc (by simp) _).alloc (by simp;omega) _
  ·rw [I];have:=(ZP.new ((w.alloc (.cells #[.slice G M L,.slice A d.length c] 30)).alloc (.map #[] 0)) 154 [.map (some (w.heap.size+1))]).cell 0;rw [show ((w.alloc (.cells #[.slice G M L,.slice A d.length c] 30)).alloc (.map #[] 0)).heap.size=w.heap.size+2 from by simp] at this;exact this
  ·rw [I];have:=YQ.made prog 9 Uw (w.alloc (.cells #[.slice G M L,.slice A d.length c] 30)) (.slice none 0 0);rw [show (w.alloc (.cells #[.slice G M L,.slice A d.length c] 30)).heap.size=w.heap.size+1 from by simp] at this;exact this.alloc _
  ·rw [List.take_zero];exact World.ownsRow_nil _ _ _ _
  ·rw [I];simp)
 clear I;go_loopw [14] (fun i wr=> ∃ (j:Nat) (O:lU->Value),j<=d.length/\i=i6 j/\Hid (MF d w.heap.size w wr j O)) (fun i _=>d.length - (intOf i).toNat)
 case atStart=>exact⟨0,_,Nat.zero_le _,rfl,HN⟩
 case round=>
  obtain⟨j,O,hj,rfl,h⟩:=hrel;by_cases hlt:j<d.length
  ·obtain⟨D,rfl,hB,T⟩:=(HA.o.later h.o.below) (by omega);have a0:wr.cell? (D.add (j*2))=some (.string (Z2 d[j].ZQ)):=T _ _ (by have:=Zl Mb.k d j 0 hlt (by omega);rw [Nat.add_zero] at this;rw [this];rfl)
   have a1:wr.cell? ⟨(D.add (j*2)).block,(D.add (j*2)).off+1,none⟩=some (.string (Z2 d[j].of)):=by rw [<-Yr D (j*2) 1 (by omega)];exact T _ _ (by rw [Zl Mb.k d j 1 hlt (by omega)];rfl)
   obtain⟨ae,af,v,W2,W3,aA,V,ag,aa,s⟩:=h.o.step hlt hl (aj.o _ (List.getElem_mem hlt)).1;have HK:=hid s;obtain⟨Ax,cx,E⟩:=WH (h.o.own d[j].ZQ);rw [E] at V ae af ag;have az:=h.o.size;clear T s h E HN;generalize (X4 (List.take j d) d[j].ZQ).length=nxl at*;generalize d[j]=m at*;go_wp2_with fail;refine Ys 11 (S:=fun w'=>w'.cell? (aD (w.heap.size+2) 0)=some (.map (some (w.heap.size+1)))/\w'.cell? (aD wr.heap.size 0)=some (sT m.ZQ)/\w'.cell? (aD wr.heap.size 1)=some (sT m.of)/\(Instr.lookup 154 (.map (some (w.heap.size+1))) (sT m.ZQ) false).run prog w'= .ok (.slice Ax nxl cx) w') (by kernel_rfl) ae (fun u=> ?_)
   (try simp only [pp]);refine WZ 0 18 u ?_;refine WZ 1 19 u ?_;refine WZ 2 20 u ?_;refine WZ 3 21 u ?_;refine WZ 4 22 u ?_;refine WZ 5 23 u ?_;refine WZ 6 24 u ?_;refine WZ 7 25 u ?_;refine WZ 8 26 u ?_;refine UK 9 27 fun K s=> ?_
   go_simp;refine s.out _ _ af ?_
   clear s K;(try simp only [pp])
   refine UK 10 28 fun K s=> ?_
   rw [if_pos (by rfl)];refine wp_append_run _ _ _ rfl rfl rfl V ?_
   refine s.out _ _ ag ?_
   clear s K;(try simp only [pp])
   refine Yt.WR (i:=11) (o:=⟨none,_,_,_,_,_⟩) (by kernel_rfl) rfl rfl (fun K s=> ?_)
   rw [if_pos (by rfl)];refine VP _ _ _ rfl rfl rfl rfl aa ?_
   refine s.out _ _ (Yt.done (by kernel_rfl) ?_ _);clear s K;clear ae af ag V aa u a0 a1;go_wp2;go_roundw
   case rel=>exact⟨j+1,aA,by omega,by go_num,HK⟩
   case measure=>simp [intOf];omega
  ·obtain rfl:j=d.length:=by omega
   have az:=h.o.size;have PX:ZP (((wr.alloc (.map #[] 0)).alloc (.cells #[.map (some wr.heap.size)] 164)).alloc (.cells #[(.func (.func 154) #[] #[pT (wr.heap.size+1),pT (w.heap.size+2),pT (wr.heap.size+2)])] 208)) (wr.heap.size+1+1) 208 [(.func (.func 154) #[] #[pT (wr.heap.size+1),pT (w.heap.size+2),pT (wr.heap.size+2)])]:=by
    have:=ZP.new ((wr.alloc (.map #[] 0)).alloc (.cells #[.map (some wr.heap.size)] 164)) 208 [(.func (.func 154) #[] #[pT (wr.heap.size+1),pT (w.heap.size+2),pT (wr.heap.size+2)])];rw [show ((wr.alloc (.map #[] 0)).alloc (.cells #[.map (some wr.heap.size)] 164)).heap.size=wr.heap.size+1+1 from by simp] at this;exact this
   have PY:ZP (((wr.alloc (.map #[] 0)).alloc (.cells #[.map (some wr.heap.size)] 164)).alloc (.cells #[(.func (.func 154) #[] #[pT (wr.heap.size+1),pT (w.heap.size+2),pT (wr.heap.size+2)])] 208)) (wr.heap.size+1) 164 [.map (some wr.heap.size)]:=by
    have:=(ZP.new (wr.alloc (.map #[] 0)) 164 [.map (some wr.heap.size)]).alloc (.cells #[(.func (.func 154) #[] #[pT (wr.heap.size+1),pT (w.heap.size+2),pT (wr.heap.size+2)])] 208);rw [show (wr.alloc (.map #[] 0)).heap.size=wr.heap.size+1 from by simp] at this;exact this
   have BX:Below wr.heap.size wr (((wr.alloc (.map #[] 0)).alloc (.cells #[.map (some wr.heap.size)] 164)).alloc (.cells #[(.func (.func 154) #[] #[pT (wr.heap.size+1),pT (w.heap.size+2),pT (wr.heap.size+2)])] 208)):=((br.alloc lr _).alloc (by simp) _).alloc (by simp;omega) _;have MX:YQ prog 9 Uw (((wr.alloc (.map #[] 0)).alloc (.cells #[.map (some wr.heap.size)] 164)).alloc (.cells #[(.func (.func 154) #[] #[pT (wr.heap.size+1),pT (w.heap.size+2),pT (wr.heap.size+2)])] 208)) (i6 0) wr.heap.size 0 (Rv fun _=>0):=((YQ.made prog 9 Uw wr (i6 0)).alloc _).alloc _;have an:=hid PX;have ao:=hid PY;have ai:=hid BX;have am:=hid MX;clear PX PY BX MX;go_wp2_with fail;refine Zi _ fun C au=> ?_
   have F:Hid (C=(((wr.alloc (.map #[] 0)).alloc (.cells #[.map (some wr.heap.size)] 164)).alloc (.cells #[(.func (.func 154) #[] #[pT (wr.heap.size+1),pT (w.heap.size+2),pT (wr.heap.size+2)])] 208))):=hid au;have Z:Hid (Bw wr C):=hid (by rw [F.o];exact ai.o);have ak:Hid (YQ prog 9 Uw C (i6 0) wr.heap.size 0 (Rv fun _=>0)):=hid (by
    rw [F.o];exact am.o)
   have ab:Hid (MD d (wr.heap.size+1) (w.heap.size+2) (wr.heap.size+2) wr.heap.size (w.heap.size+1) d.length O C):=hid (by
    have ac:=Z.o;refine⟨?_,?_,?_,by omega,by omega,by omega,by omega,h.o.map.later ac,fun x=> ?_⟩
    ·rw [F.o];exact ao.o.cell 0
    ·exact(ac.cell (p:=(aD (w.heap.size+2) 0)) (by show w.heap.size+2<_;omega)).trans h.o.cell
    ·rw [F.o];exact an.o.cell 0
    ·have J:=h.o.own x;rw [List.take_length] at J;obtain⟨Ax,cx,E⟩:=WH J;refine⟨Ax,cx,E,fun i hi=> ?_⟩
     rw [E] at J;obtain⟨D,ap,aC,ax⟩:=(YS J rfl).later ac (by omega);obtain⟨aB,N,aE,_⟩:=(YS J rfl) (by omega);rw [ap] at N;injection N with N
     subst N;refine⟨D,ap,by omega,?_⟩
     have:=ax (i*1) (.string (Z2 (X4 d x)[i])) (by have:=Zl Yy.k (X4 d x) i 0 hi (by omega);rw [Nat.add_zero] at this;rw [this];rfl);rwa [Nat.mul_one] at this)
   have U:Hid (Bw w C):=hid (h.o.below.trans (Z.o.mono (by omega)));clear au F Z h HN an ao ai am;have aw:=FP d;refine(FD d (wr.heap.size+1) (w.heap.size+2) (wr.heap.size+2) wr.heap.size (w.heap.size+1) d.length O (fun m hm=>(aj.o m hm).2) (d.length+2) ZQ (fun _=>0) 0 C hr ab.o ak.o (fun _=>Nat.le_refl _) (by omega) (by omega) (by omega)).mono ?_
   rintro e w5 ⟨N',f',rfl,ah,aq,ar,ay,_,av⟩;have c5:=(ab.o.grown ah).c1;have HR:Hid (Ij d ZQ w (.returned (.map (some wr.heap.size))) w5):=hid ⟨wr.heap.size,N',f',rfl,aq,fun x=>by have:=ar x;omega,fun x=>av [] (fun y=>by simp) x,U.o.grown ah (by have:=U.o.size;omega) (fun k hk=>by injection hk with hk;omega),by omega⟩
   clear ah aq ar ay av ab ak U;go_wp2;go_ret;exact HR.o
end Go.Proofs.YtnhmoibjlakhjaaGreat
namespace Go.Proofs.YtnhmoibjlakhjaaGreat
open Go.Proofs.Tryz
open Lib (hid)
set_option maxRecDepth 100000
set_option maxHeartbeats 16000000
open Go.RowKit Go.Maps
theorem Mb.YY {w:World}{S:Nat->Prop}{c:Mb}{j:lV}(h:ZE w S YM c.da j):j=c.cs:=by
 obtain⟨s,d,rfl⟩:=Mb.YG h
 cases c
 cases s
 simp [Mb.da] at d;obtain⟨rfl,rfl⟩:=d;rfl
theorem Mb.Yn {w:World}{B:Nat}{l:List Mb}{A:oA}(h:ZT w (· < B) YM (l.map Mb.da) A):Zj w B A Mb.cs l:=by
 obtain⟨s,d,j,_⟩:=WF (enc:=Mb.cs) Mb.da id (fun _=>True) (fun x u m=>⟨x,rfl,Mb.YY m,trivial⟩) (fun x=>rfl) h;rw [List.map_id] at d;rw [<-d];exact j
def U9 (r:Ro)(m:Mb):Bool:=r.ZU.contains m.ZQ && (r.ZU.contains m.of && !(SP r.ZY m.of).contains m.ZQ)
theorem OY (r:Ro)(s:oA)(k0:Nat)(A1:oA)(k1:Nat)(w:World)(hN:rA w [.Z2] (YV r.ZU) s)(hM:rA w YM (r.ZY.map Mb.da) A1)
  (ax:r.ZU.length<=1099511627776) (aO:r.ZY.length<=1099511627776) (hb: ∀ m∈r.ZY,m.ZQ.length<=1099511627776/\m.of.length<=1099511627776):
  cQ 94 #[.agg #[.slice s r.ZU.length k0,.slice A1 r.ZY.length k1]] w fun e w'=>e= .returned (.bool (Yc r))/\Bw w w':=by
 have HN:=hid hN;have aK:=hid (XS hN);have ap:=hid (Mb.Yn hM);have az:=hid hb;clear hN hM hb;have E:Hid (Yc r=(decide (r.ZU.length<=16) && (decide (r.ZY.length<=256) && (Zt YR r.ZU && (Zt XI r.ZY && (r.ZU.all Zw && r.ZY.all (U9 r))))))):=hid (by simp only [Yc,Bool.and_assoc];rfl)
 generalize Yc r=res at*;go_enter func94,ntmps94
 have B0:Below w.heap.size w (w.alloc (.cells #[sl s r.ZU k0,sl A1 r.ZY k1] 30)):=br.alloc lr _;by_cases h16:r.ZU.length<=16
 case neg=>
  have C:Hid (res=false):=hid (by rw [E.o,decide_eq_false h16];rfl);have ac:(r.ZU.length:Int) > 16:=by omega
  go_wp2;go_ret;exact⟨by rw [C.o];rfl,B0⟩
 by_cases h256:r.ZY.length<=256
 case neg=>
  have C:Hid (res=false):=hid (by rw [E.o,decide_eq_false h256,Bool.false_and,Bool.and_false]);have ac: ¬ (r.ZU.length:Int) > 16:=by omega
  have ae:(r.ZY.length:Int) > 256:=by omega
  go_wp2;go_ret;exact⟨by rw [C.o];rfl,B0⟩
 have ac: ¬ (r.ZU.length:Int) > 16:=by omega
 have ae: ¬ (r.ZY.length:Int) > 256:=by omega
 rw [decide_eq_true h16,decide_eq_true h256,Bool.true_and,Bool.true_and] at E;have ay:=hid B0;clear B0;go_wp2_with fail;refine Zi _ fun W1 hW=> ?_
 have aj:Hid (Bw w W1):=hid (by rw [hW];exact ay.o);have P1:=nC hW;clear hW ay;refine(JZ r.ZU s k0 W1 (aK.o.later aj.o) ax).mono ?_
 rintro e W2 ⟨rfl,hb⟩;have ah:=bt aj hb;have P2:=bl P1 hb;clear hb aj P1;generalize Zt YR r.ZU=p1 at*
 cases p1
 ·have C:Hid (res=false):=hid E.o;go_wp2;go_ret;exact⟨by rw [C.o];rfl,ah.o⟩
 rw [Bool.true_and] at E;have q1:=ce P2 1;go_wp2_with fail;refine(Ov r.ZY A1 k1 W2 (ap.o.later ah.o) aO).mono ?_
 rintro e W3 ⟨rfl,hb⟩;have ak:=bt ah hb;have P3:=bl P2 hb;clear hb ah P2 q1;generalize Zt XI r.ZY=p2 at*
 cases p2
 ·have C:Hid (res=false):=hid E.o;go_wp2;go_ret;exact⟨by rw [C.o];rfl,ak.o⟩
 rw [Bool.true_and] at E;have q0:=ce P3 0;go_wp2;go_loopw [32] (fun i wr=> ∃ j:Nat,j<=r.ZU.length/\i=i6 j/\Hid (r.ZU.all Zw=(r.ZU.drop j).all Zw)/\Hid (Bw w wr)/\Hid (ZP wr w.heap.size 30 [sl s r.ZU k0,sl A1 r.ZY k1])) (fun i _=>r.ZU.length - (intOf i).toNat)
 case atStart=>exact⟨0,Nat.zero_le _,rfl,hid (by rw [List.drop_zero]),ak,P3⟩
 case round=>
  clear ak P3 q0;obtain⟨j,hj,rfl,I,G,M⟩:=hrel;by_cases hlt:j<r.ZU.length
  ·have F:=hid (I.o.trans (Vi Zw r.ZU j hlt));obtain⟨D,rfl,a0⟩:=RB (w:=wr) (HN.o.later G.o) hlt;generalize r.ZU[j]=n at*;go_wp2_with fail;refine(YI n wr).mono ?_
   rintro e w1 ⟨rfl,m1,rfl⟩;have aA:=hid (below_drewN G.o m1);have Kn:=hid (M.o.drewN m1);clear G M a0;generalize wr.drewN m1=w2 at*
   cases J:Zw n
   ·have C:Hid (res=false):=hid (by rw [E.o,F.o,J];rfl);clear J;go_wp2;go_ret;exact⟨by rw [C.o];rfl,aA.o⟩
   ·rw [J,Bool.true_and] at F;clear J;go_wp2;go_roundw
    case rel=>exact⟨j+1,by omega,by go_num,F,aA,Kn⟩
    case measure=>simp [intOf];omega
  ·obtain rfl:j=r.ZU.length:=by omega
   rw [List.drop_length] at I;rw [show r.ZU.all Zw=true from I.o,Bool.true_and] at E;have aP:=ce M 1;go_wp2;go_loopw [43] (fun i wr=> ∃ j:Nat,j<=r.ZY.length/\i=i6 j/\Hid (r.ZY.all (U9 r)=(r.ZY.drop j).all (U9 r))/\Hid (Bw w wr)/\Hid (ZP wr w.heap.size 30 [sl s r.ZU k0,sl A1 r.ZY k1])) (fun i _=>r.ZY.length - (intOf i).toNat)
   case atStart=>exact⟨0,Nat.zero_le _,rfl,hid (by rw [List.drop_zero]),G,M⟩
   case round=>
    clear G M aP;obtain⟨j,hj,rfl,I,G,M⟩:=hrel;by_cases hlt:j<r.ZY.length
    ·have F:=hid (I.o.trans (Vi (U9 r) r.ZY j hlt));have aw:=az.o _ (List.getElem_mem hlt);obtain⟨D,rfl,hB,aa⟩:=(ap.o.later G.o) (by omega);have a0:wr.cell? (D.add (j*2))=some (.string (Z2 r.ZY[j].ZQ)):=aa _ _ (by have:=Zl Mb.k r.ZY j 0 hlt (by omega);rw [Nat.add_zero] at this;rw [this];rfl)
     have a1:wr.cell? ⟨(D.add (j*2)).block,(D.add (j*2)).off+1,none⟩=some (.string (Z2 r.ZY[j].of)):=by rw [<-Yr D (j*2) 1 (by omega)];exact aa _ _ (by rw [Zl Mb.k r.ZY j 1 hlt (by omega)];rfl)
     clear aa hB;generalize r.ZY[j]=m at*;go_wp2_with fail;refine Wh _ fun V hV=> ?_
     have am:=bP hV;have PV:ZP V wr.heap.size 147 [sT m.ZQ,sT m.of]:=by rw [hV];exact ZP.new wr _ _
     have N:ZP V w.heap.size 30 [sl s r.ZU k0,sl (some D) r.ZY k1]:=by rw [hV];exact M.o.alloc _
     clear hV a0 a1;have aE:=PV.lt;have av:=N.lt;have Z:(fun w'=>Bw V w'/\w'.cell? (aN w 0)=some (sl s r.ZU k0)/\w'.cell? (aN w 1)=some (sl (some D) r.ZY k1)/\w'.cell? (aN wr 0)=some (sT m.ZQ)/\w'.cell? (aN wr 1)=some (sT m.of)) V.drew:=⟨br.drew,N.cell 0,N.cell 1,PV.cell 0,PV.cell 1⟩
     have af:Hid (∀ w1 w2,(fun w'=>Bw V w'/\w'.cell? (aN w 0)=some (sl s r.ZU k0)/\w'.cell? (aN w 1)=some (sl (some D) r.ZY k1)/\w'.cell? (aN wr 0)=some (sT m.ZQ)/\w'.cell? (aN wr 1)=some (sT m.of)) w1->Bw w1 w2->(fun w'=>Bw V w'/\w'.cell? (aN w 0)=some (sl s r.ZU k0)/\w'.cell? (aN w 1)=some (sl (some D) r.ZY k1)/\w'.cell? (aN wr 0)=some (sT m.ZQ)/\w'.cell? (aN wr 1)=some (sT m.of)) w2):=hid fun w1 w2 h h2=>by
      have h3:Bw V w2:=h.1.trans (h2.mono h.1.size);exact⟨h3,(h3.cell (p:=(aN w 0)) av).trans (N.cell 0),(h3.cell (p:=(aN w 1)) av).trans (N.cell 1),(h3.cell (p:=(aN wr 0)) aE).trans (PV.cell 0),(h3.cell (p:=(aN wr 1)) aE).trans (PV.cell 1)⟩
     have T:Hid (∀ W,Bw V W->Bw w W):=hid fun W h=>(G.o.trans (am.o.mono G.o.size)).trans (h.mono (by have:=G.o.size;have:=am.o.size;omega))
     have aH:Hid (∀ W,Bw V W->ZP W w.heap.size 30 [sl s r.ZU k0,sl (some D) r.ZY k1]):=hid fun W h=>N.below h av
     have ao:Hid (∀ W,Bw V W->cQ 30 #[sl s r.ZU k0,sT m.ZQ] W fun e w'=>e= .returned (.bool (r.ZU.contains m.ZQ))/\w'=W):=hid fun W h=>Zf r.ZU s k0 m.ZQ W (HN.o.later (T.o W h)) ax
     have aB:Hid (∀ W,Bw V W->cQ 30 #[sl s r.ZU k0,sT m.of] W fun e w'=>e= .returned (.bool (r.ZU.contains m.of))/\w'=W):=hid fun W h=>Zf r.ZU s k0 m.of W (HN.o.later (T.o W h)) ax
     have ab:Hid (∀ W,Bw V W->cQ 95 #[.agg #[sl s r.ZU k0,sl (some D) r.ZY k1],sT m.of] W (Ij r.ZY m.of W)):=hid fun W h=>OQ r.ZY s r.ZU.length k0 (some D) k1 m.of W (ap.o.later (T.o W h)) (by omega) az.o aw.2
     have L:Hid (U9 r m=(r.ZU.contains m.ZQ && (r.ZU.contains m.of && !(SP r.ZY m.of).contains m.ZQ))):=hid rfl;have aS:=aw.1;clear PV N aw M am;generalize r.ZU.contains m.ZQ=c1 at*;generalize r.ZU.contains m.of=c2 at*
     cases c1
     ·have C:Hid (res=false):=hid (by rw [E.o,F.o,L.o];rfl);clear F L I;refine wp_region_held_drew (S:=fun w'=>Bw V w'/\w'.cell? (aN w 0)=some (sl s r.ZU k0)/\w'.cell? (aN w 1)=some (sl (some D) r.ZY k1)/\w'.cell? (aN wr 0)=some (sT m.ZQ)/\w'.cell? (aN wr 1)=some (sT m.of)) (by kernel_rfl) Z (fun d=> ?_)
      (try simp only [pp]);refine tk 0 47 d ?_;refine tk 1 48 d ?_;refine tk 2 49 d ?_;refine tk 3 50 d ?_;refine on 4 51 fun K u=> ?_
      go_simp;go_at_call 30
      refine(ao.o _ d.1).mono ?_
      rintro e O ⟨rfl,rfl⟩;refine u.out _ _ d (fun d=> ?_);clear u K;(try simp only [pp])
      refine tk 5 52 d ?_;refine tk 6 53 d ?_;refine sk 7 54 d ?_;refine sk 8 55 d ?_;refine sk 9 56 d ?_;refine sk 10 57 d ?_;refine sk 11 58 d ?_;refine sk 12 59 d ?_;refine tk 13 60 d ?_;refine tk 14 61 d ?_;refine sk 15 62 d ?_;refine sk 16 63 d ?_;refine sk 17 64 d ?_;refine sk 18 65 d ?_;refine sk 19 66 d ?_;refine sk 20 67 d ?_;refine sk 21 68 d ?_;refine sk 22 69 d ?_;refine tk 23 70 d ?_;refine wpAnyH_done (by kernel_rfl) ?_ _
      have U:=hid (T.o _ d.1);clear d Z;go_wp2;go_ret;exact⟨by rw [C.o];rfl,U.o⟩
     cases c2
     ·have C:Hid (res=false):=hid (by rw [E.o,F.o,L.o];rfl);clear F L I;refine wp_region_held_drew (S:=fun w'=>Bw V w'/\w'.cell? (aN w 0)=some (sl s r.ZU k0)/\w'.cell? (aN w 1)=some (sl (some D) r.ZY k1)/\w'.cell? (aN wr 0)=some (sT m.ZQ)/\w'.cell? (aN wr 1)=some (sT m.of)) (by kernel_rfl) Z (fun d=> ?_)
      (try simp only [pp]);refine tk 0 47 d ?_;refine tk 1 48 d ?_;refine tk 2 49 d ?_;refine tk 3 50 d ?_;refine on 4 51 fun K u=> ?_
      go_simp;go_at_call 30
      refine(ao.o _ d.1).mono ?_
      rintro e O ⟨rfl,rfl⟩;refine u.out _ _ d (fun d=> ?_);clear u K;(try simp only [pp])
      refine tk 5 52 d ?_;refine tk 6 53 d ?_;refine tk 7 54 d ?_;refine tk 8 55 d ?_;refine tk 9 56 d ?_;refine tk 10 57 d ?_;refine on 11 58 fun K u=> ?_
      go_simp;go_at_call 30
      refine(aB.o _ d.1).mono ?_
      rintro e O ⟨rfl,rfl⟩;refine u.out _ _ d (fun d=> ?_);clear u K;(try simp only [pp])
      refine tk 12 59 d ?_;refine tk 13 60 d ?_;refine tk 14 61 d ?_;refine sk 15 62 d ?_;refine sk 16 63 d ?_;refine sk 17 64 d ?_;refine sk 18 65 d ?_;refine sk 19 66 d ?_;refine sk 20 67 d ?_;refine sk 21 68 d ?_;refine sk 22 69 d ?_;refine tk 23 70 d ?_;refine wpAnyH_done (by kernel_rfl) ?_ _
      have U:=hid (T.o _ d.1);clear d Z;go_wp2;go_ret;exact⟨by rw [C.o];rfl,U.o⟩
     ·rw [Bool.true_and,Bool.true_and] at L;refine wp_region_held_drew (S:=fun w'=>Bw V w'/\w'.cell? (aN w 0)=some (sl s r.ZU k0)/\w'.cell? (aN w 1)=some (sl (some D) r.ZY k1)/\w'.cell? (aN wr 0)=some (sT m.ZQ)/\w'.cell? (aN wr 1)=some (sT m.of)) (by kernel_rfl) Z (fun d=> ?_)
      (try simp only [pp]);refine tk 0 47 d ?_;refine tk 1 48 d ?_;refine tk 2 49 d ?_;refine tk 3 50 d ?_;refine on 4 51 fun K u=> ?_
      go_simp;go_at_call 30
      refine(ao.o _ d.1).mono ?_
      rintro e O ⟨rfl,rfl⟩;refine u.out _ _ d (fun d=> ?_);clear u K;(try simp only [pp])
      refine tk 5 52 d ?_;refine tk 6 53 d ?_;refine tk 7 54 d ?_;refine tk 8 55 d ?_;refine tk 9 56 d ?_;refine tk 10 57 d ?_;refine on 11 58 fun K u=> ?_
      go_simp;go_at_call 30
      refine(aB.o _ d.1).mono ?_
      rintro e O ⟨rfl,rfl⟩;refine u.out _ _ d (fun d=> ?_);clear u K;(try simp only [pp])
      refine tk 12 59 d ?_;refine tk 13 60 d ?_;refine tk 14 61 d ?_;refine tk 15 62 d ?_;refine tk 16 63 d ?_;refine tk 17 64 d ?_;refine tk 19 66 d ?_;refine tk 20 67 d ?_;refine on 18 65 fun K u=> ?_
      go_simp;go_at_call 95
      refine(ab.o _ d.1).mono ?_
      rintro e O ⟨fb,N5,f5,rfl,ar,aC,aF,au,aR⟩;have aG:=af.o _ _ d au;have aJ:=hid ar;have aQ:=aC m.ZQ;have ai:=hid (aF m.ZQ);have an:=hid au;have ag:(Instr.lookup 164 (.map (some fb)) (sT m.ZQ) false).run prog O= .ok (i6 (f5 m.ZQ)) O:=ar.look VQ underlying164 (by kernel_rfl) (x:=m.ZQ) (by unfold maxLen;omega)
      clear ar aC aF au;refine u.out _ _ aG (fun d=> ?_);clear u K;(try simp only [pp])
      refine on 21 68 fun K u=> ?_
      go_simp;refine u.out _ _ d (fun d=> ?_);clear u K;(try simp only [pp])
      refine tk 22 69 d ?_;refine tk 23 70 d ?_;refine wpAnyH_done (by kernel_rfl) ?_ _
      have U:=hid (T.o _ d.1);have aI:=hid (aH.o _ d.1);clear d Z ag aJ an;by_cases h0:f5 m.ZQ=0
      ·have aM: ¬ (0:Int)< (f5 m.ZQ:Int):=by omega
       have aq: ¬ (f5 m.ZQ:Int) > 0:=by omega
       have J:U9 r m=true:=by
        rw [L.o];have: ¬ m.ZQ∈SP r.ZY m.of:=fun h=>by have:=ai.o.2 h;omega
        simpa using this
       have aL:=hid (F.o.trans (by rw [J,Bool.true_and]));clear J F L I ai;go_wp2;go_roundw
       case rel=>exact⟨j+1,by omega,by go_num,aL,U,aI⟩
       case measure=>simp [intOf];omega
      ·have aM:(0:Int)< (f5 m.ZQ:Int):=by omega
       have aq:(f5 m.ZQ:Int) > 0:=by omega
       have J:U9 r m=false:=by
        rw [L.o];have:m.ZQ∈SP r.ZY m.of:=ai.o.1 (by omega);simpa using this
       have C:Hid (res=false):=hid (by rw [E.o,F.o,J];rfl);clear J F L I ai;go_wp2;go_ret;exact⟨by rw [C.o];rfl,U.o⟩
    ·obtain rfl:j=r.ZY.length:=by omega
     rw [List.drop_length] at I;have C:Hid (res=true):=hid (by rw [E.o,I.o];rfl)
     go_wp2;go_ret;exact⟨by rw [C.o];rfl,G.o⟩
end Go.Proofs.YtnhmoibjlakhjaaGreat
