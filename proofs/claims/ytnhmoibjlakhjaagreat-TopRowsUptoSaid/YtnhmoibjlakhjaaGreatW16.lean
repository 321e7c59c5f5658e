/- Lemmas, each under its own conditions. -/
import Derived.Deep.RegionHeld3
import Derived.Test.YtnhmoibjlakhjaaGreatW14
set_option linter.all false
namespace Go.Proofs.YtnhmoibjlakhjaaGreat
open Go.Proofs.Tryz
set_option maxRecDepth 100000
set_option maxHeartbeats 16000000
open Go.RowKit Le
def Nw (w:World)(base:Nat)(ts:List TypeId)(k:Nat):Prop:=base<=k/\ ∃ t,t∈ts/\ ∃ cs,w.heap[k]?=some (.cells cs t (0,0))
section
variable {w w' : World} {base base' : Nat} {ts ts' : List TypeId} {k : Nat}
theorem Nw.lt (h:Nw w base ts k):k<w.heap.size:=by
 obtain⟨_,t,_,cs,h⟩:=h;exact(Array.getElem?_eq_some_iff.1 h).1
theorem Nw.below (h:Nw w base ts k)(hb:Below w.heap.size w w'):Nw w' base ts k:=by
 have d:=h.lt;obtain⟨j,t,m,cs,h⟩:=h;exact⟨j,t,m,cs,(hb.block k d).trans h⟩
theorem Nw.mono (h:Nw w base ts k)(hb:base'<=base)(j: ∀ t,t∈ts->t∈ts'):Nw w base' ts' k:=by
 obtain⟨d,t,m,cs,h⟩:=h;exact⟨Nat.le_trans hb d,t,j t m,cs,h⟩
theorem ZT.Ph {l:List Sh}{ds:List (List Da)}{A:Option Addr}(h:ZT w (Nw w base ts) l ds A)(hb:Below w.heap.size w w'):ZT w' (Nw w' base ts) l ds A:=
 h.YW (fun _ h=>h.below hb) (fun _ d=>hb.cell d.lt)
theorem ZT.LG {l:List Sh}{ds:List (List Da)}{A:Option Addr}(h:ZT w (Nw w base ts) l ds A):ZT w (· < w.heap.size) l ds A:=
 h.YW (fun _ h=>h.lt) (fun _ _=>rfl)
theorem ZT.Tk {l:List Sh}{ds:List (List Da)}{A:Option Addr}(h:ZT w (Nw w base ts) l ds A)(hb:base'<=base)(d: ∀ t,t∈ts->t∈ts'):ZT w (Nw w base' ts') l ds A:=
 h.YW (fun _ h=>h.mono hb d) (fun _ _=>rfl)
theorem ZE.Ph {l:List Sh}{ds:List Da}{d:List Value}(h:ZE w (Nw w base ts) l ds d)(hb:Below w.heap.size w w'):ZE w' (Nw w' base ts) l ds d:=
 ZE.YW (fun _ h=>h.below hb) (fun _ j=>hb.cell j.lt) l ds d h
theorem ZE.LG {l:List Sh}{ds:List Da}{d:List Value}(h:ZE w (Nw w base ts) l ds d):ZE w (· < w.heap.size) l ds d:=
 ZE.YW (fun _ h=>h.lt) (fun _ _=>rfl) l ds d h
theorem ZE.Tk {l:List Sh}{ds:List Da}{d:List Value}(h:ZE w (Nw w base ts) l ds d)(hb:base'<=base)(j: ∀ t,t∈ts->t∈ts'):ZE w (Nw w base' ts') l ds d:=
 ZE.YW (fun _ h=>h.mono hb j) (fun _ _=>rfl) l ds d h
theorem ZS.step {ts:List TypeId}{w d:World}{g i:Nat}{t:TypeId}{u:Value}(j:ZS ts w d)(h:Za d g t)(m:t∈ts):ZS ts w (d.setCell ⟨g,i,none⟩ u):=j.trans (ZS.Zx h m u)
theorem Nw.keeps {us:List TypeId}(h:Nw w base ts k)(j:ZS us w w')(hd: ∀ t,t∈ts->t∉us):Nw w' base ts k/\w'.heap[k]?=w.heap[k]?:=by
 obtain⟨hb,t,d,cs,h⟩:=h;have e:=j.block k t ⟨_,_,h⟩ (hd t d);exact⟨⟨hb,t,d,cs,e.trans h⟩,e⟩
theorem ZT.VI {us:List TypeId}{l:List Sh}{ds:List (List Da)}{A:Option Addr}(h:ZT w (Nw w base ts) l ds A)(d:ZS us w w')(hd: ∀ t,t∈ts->t∉us):ZT w' (Nw w' base ts) l ds A:=
 h.YW (fun _ h=>(h.keeps d hd).1) (fun _ j=>World.cell?_of_block (j.keeps d hd).2)
theorem ZE.VI {us:List TypeId}{l:List Sh}{ds:List Da}{d:List Value}(h:ZE w (Nw w base ts) l ds d)(j:ZS us w w')(hd: ∀ t,t∈ts->t∉us):ZE w' (Nw w' base ts) l ds d:=
 ZE.YW (fun _ h=>(h.keeps j hd).1) (fun _ m=>World.cell?_of_block (m.keeps j hd).2) l ds d h
theorem ZT.X6 {B B':Nat}{l:List Sh}{ds:List (List Da)}{A:Option Addr}(h:ZT w (· < B) l ds A)(hb:B<=B'):ZT w (· < B') l ds A:=
 h.YW (fun _ h=>Nat.lt_of_lt_of_le h hb) (fun _ _=>rfl)
end
def FY (l:List Int):List Value:=l.map (Value.int .i64)
@[simp] theorem Fp (l:List Int):(FY l).length=l.length:=by simp [FY]
section
variable {w : World} {S : Nat -> Prop} {B : Nat} {l : List Int} {A : Option Addr}
theorem ZT.reads (h:ZT w S [.num] (Xq l) A)(I: ∀ k,S k->k<B):Reads w B A l.length (FY l):=by
 refine⟨by simp,fun K=> ?_⟩
 obtain⟨D,e,hb,J⟩:=h (by rw [Pi];exact K);refine⟨D,e,I _ hb,fun j u s=> ?_⟩
 simp only [FY,List.getElem?_map] at s
 cases hj:l[j]? with
 | none=>rw [hj] at s;simp at s
 | some n=>
  rw [hj] at s;simp only [Option.map_some,Option.some.injEq] at s;subst s;obtain⟨O,E,F⟩:=J j [.int n] (by simp [Xq,hj]);obtain⟨d,L,v,M,C,rfl,G,N⟩:=E.cons;obtain⟨m,rfl,rfl⟩:=G.num;injection C with C
  injection C with C
  subst C;have:=F 0 _ rfl;simpa using this
end
theorem WV (w:World)(t:TypeId)(B size:Nat)(d:B<=w.heap.size):(w.alloc (.cells #[] t)).ownsRow B t size (.slice (some ⟨w.heap.size,0,none⟩) 0 0) 0 []:=
 ⟨by simp,.inr ⟨w.heap.size,0,#[],rfl,d,heap_alloc_new w _,Nat.le_refl _,by simp [maxLen],by simp,by simp⟩⟩
def DO (w:World)(l:List Int)(e:Ending)(w':World):Prop:=
 ∃ A c,e= .returned (.slice A l.length c)/\ZT w' (Nw w' w.heap.size [3]) [.num] (Xq l) A/\Below w.heap.size w w'
open Lib (hid)
theorem RB {w:World}{S:Nat->Prop}{ns:List (List UInt8)}{A:Option Addr}(h:ZT w S [.Z2] (YV ns) A){j:Nat}(s:j<ns.length): ∃ d,A=some d/\w.cell? (d.add j)=some (.string (Z2 ns[j])):=by
 obtain⟨d,K,e,u,E⟩:=h.at_ (j:=j) (by simpa [YV] using s);have C:(YV ns)[j]'(by simpa [YV] using s)= [.Z2 ns[j]]:=by simp [YV]
 rw [C] at u;obtain⟨I,F,v0,G,hd,rfl,D,J⟩:=u.cons;injection hd with hd1 hd2
 subst hd1;obtain⟨b,m,rfl⟩:=D.T0;injection m with m
 subst m;exact⟨d,e,by simpa using E 0 _ rfl⟩
theorem IX:(prog.info? 62).map (fun i=>(i.zero,i.size,i.bytes))=some (some (.int .i64 0),1,8):=by kernel_rfl
def Pp (l:List Int):List Value:=l.map fun n=> .int .i64 n
theorem NS (l:List Cl)(ns:List (List UInt8))(A:Option Addr)(k:Nat)(B:Option Addr)(m:Nat)(w:World)(L:ZT w (· < w.heap.size) Zz (l.map Cl.da) A)(M:ZT w (· < w.heap.size) [.Z2] (YV ns) B)
  (hn:l.length<=1099511627776) (hm:ns.length<=1099511627776):
  Calls prog 236 #[.slice A l.length k,.slice B ns.length m] w fun e w'=> ∃ d c,e= .returned (.slice d (YP l ns).length c)/\w'.ownsRow w.heap.size 62 1 (.slice d (YP l ns).length c) (YP l ns).length (Pp (YP l ns))/\Below w.heap.size w w':=by
 have J:=hid L;have HB:=hid M;clear L M;obtain⟨i0,ab,ac,ae,af⟩:=info_parts IX;go_enter func236,ntmps236
 go_wp2;go_loopw [5,11] (fun s i wr=> ∃ (j:Nat) (d:Option Addr) (c:Nat),j<=ns.length/\i= .int .i64 j/\s= .slice d (YP l (ns.take j)).length c/\Hid (wr.ownsRow w.heap.size 62 1 (.slice d (YP l (ns.take j)).length c) (YP l (ns.take j)).length (Pp (YP l (ns.take j))))/\Hid (Below w.heap.size w wr)) (fun _ i _=>ns.length - (intOf i).toNat)
 case atStart=>exact⟨0,none,0,Nat.zero_le _,rfl,rfl,hid (World.ownsRow_nil _ w.heap.size 62 1),hid br⟩
 case round=>
  obtain⟨j,d,c,hj,rfl,rfl,E,u⟩:=hrel;by_cases hlt:j<ns.length
  ·obtain⟨ad,rfl,a0⟩:=RB (HB.out.below u.out) hlt;have K:=hid (LM l ns j hlt);have ah:(YP l (ns.take j)).length<=ns.length:=Nat.le_trans (List.length_filterMap_le _ _) (by simp;omega)
   have T:=hid (LN l ns[j]);have U:=hid (fun i=> @NU l ns[j] i);have O:=hid (XL l ns[j]);have e1:(YP l ns).length=(YP l ns).length:=rfl;generalize ns[j]=n at*;generalize hK:YP l (ns.take j)=xs at*;go_wp2_with fail;have F:=Xl (l.map Cl.da) A k n wr ((J.out.below u.out).YW (fun _ h=>Nat.lt_of_lt_of_le h u.out.size) fun _ _=>rfl) (by simpa using hn);rw [List.length_map,O.out] at F;refine F.mono ?_
   rintro e w2 ⟨rfl,hb⟩;have D:=bt u hb;have I:=hid (E.out.ZC hb);clear hb F E a0
   cases hc:Y7 l n with
   | none=>
    have C:Hid (YP l (ns.take (j+1))=xs):=hid (by rw [K.out,T.out hc];simp);go_wp2;go_roundw
    case rel=>exact⟨j+1,d,c,by omega,by go_num,by rw [C.out],hid (by rw [C.out];exact I.out),D⟩
    case measure=>simp [intOf];omega
   | some i=>
    obtain⟨hi,hk⟩:=U.out i hc;have C:Hid (YP l (ns.take (j+1))=xs ++ [l[i].ZV]):=hid (by rw [K.out,hk];rfl)
    obtain⟨ag,vs,rfl,G,N⟩:=(J.out.below D.out).at_ (j:=i) (by simpa using hi);rw [List.getElem_map] at G;generalize l[i]=cl at*;obtain rfl:=Cl.YY G;have a1:=ef (m:=i*3) N 1;rw [show WS (some i)=(i:Int) from rfl];clear G N;have hi':(0:Int)<=(i:Int):=by omega
    have Z:=D.out.size;go_wp2_with (at_builtin;refine JM rfl _ _ _ rfl w.heap.size 62 i0 _ 8 underlying275 ab ac ae af rfl _ _ _ rfl (I.out.alloc _) _ _ 1 1 _ rfl (Reads.DC w2 _ _) (DB _ _) (by unfold maxLen;omega) (by omega) (by simp;omega) w (D.out.alloc Z _) ?_;intro A2 c2 w3 V aa _);go_roundw
    case rel=>exact⟨j+1,A2,c2,by omega,by go_num,by rw [C.out];simp,hid (by rw [C.out];simpa [Pp] using V.out),hid aa⟩
    case measure=>simp [intOf];omega
  ·obtain rfl:j=ns.length:=by omega
   rw [List.take_length] at E ⊢;go_wp2;go_ret;exact⟨_,_,rfl,E.out,u.out⟩
theorem NV (ns:List (List UInt8))(A:Option Addr)(c:Nat)(x:List UInt8)(w:World)(u:ZT w (· < w.heap.size) [.Z2] (YV ns) A)(F:ns.length<=1099511627776):
  Calls prog 69 #[.slice A ns.length c,.string (Z2 x)] w fun e w'=>e= .returned (.int .i64 (Zd (fun n=>x == n) ns 0))/\w'=w:=by
 have C:=hid u;clear u;go_enter func69,ntmps69
 go_wp2;go_loopw [8] (fun i wr=> ∃ j:Nat,j<=ns.length/\i= .int .i64 j/\Hid (wr=w)/\Hid (Zd (fun n=>x == n) ns 0=Zd (fun n=>x == n) (ns.drop j) j)) (fun i _=>ns.length - (intOf i).toNat)
 case atStart=>exact⟨0,Nat.zero_le _,rfl,hid rfl,hid (by rw [List.drop_zero])⟩
 case round=>
  obtain⟨j,E,rfl,d,s⟩:=hrel;by_cases hlt:j<ns.length
  ·obtain⟨D,rfl,a0⟩:=RB (w:=wr) (by rw [d.out];exact C.out) hlt;have h:Hid (Zd (fun n=>x == n) ns 0=if(x == ns[j])=true then(j:Int) else Zd (fun n=>x == n) (ns.drop (j+1)) (j+1)):=hid (s.out.trans (WY hlt));generalize ns[j]=n at*
   cases hq:(x == n)
   ·rw [hq] at h;have m:Hid (Zd (fun n=>x == n) ns 0=Zd (fun n=>x == n) (ns.drop (j+1)) (j+1)):=hid h.out;go_wp2;go_roundw
    case rel=>exact⟨j+1,by omega,by go_num,d,m⟩
    case measure=>simp [intOf];omega
   ·rw [hq] at h;have m:Hid (Zd (fun n=>x == n) ns 0=(j:Int)):=hid h.out;go_wp2;go_ret;exact⟨by rw [m.out];rfl,d.out⟩
  ·obtain rfl:j=ns.length:=by omega
   rw [List.drop_length] at s;go_wp2;go_ret;exact⟨by rw [s.out];rfl,d.out⟩
theorem Zf (ns:List (List UInt8))(A:Option Addr)(c:Nat)(x:List UInt8)(w:World)(j:ZT w (· < w.heap.size) [.Z2] (YV ns) A)(m:ns.length<=1099511627776):
  Calls prog 30 #[.slice A ns.length c,.string (Z2 x)] w fun e w'=>e= .returned (.bool (ns.contains x))/\w'=w:=by
 have h:=NV ns A c x w j m;have d:Hid (decide (0<=Zd (fun n=>x == n) ns 0)=ns.contains x):=hid (by rw [WN,List.contains_eq_any_beq]);go_enter func30,ntmps30
 go_wp2_with fail;refine h.mono ?_
 rintro e s ⟨rfl,rfl⟩;go_wp2;go_ret;exact⟨by rw [<-d.out];rfl,rfl⟩
theorem Ty {α:Type}(c:α->α->Int)(l:List α)(j:Nat)(h:j+1<l.length):Zt c (l.drop j)=(decide (c l[j] l[j+1]<0) && Zt c (l.drop (j+1))):=by
 rw [List.drop_eq_getElem_cons (show j<l.length by omega),List.drop_eq_getElem_cons h];rfl
theorem SE {α:Type}(c:α->α->Int)(l:List α)(j:Nat)(h:l.length<=j+1):Zt c (l.drop j)=true:=by
 cases hd:l.drop j with
 | nil=>rfl
 | cons a r=>
  cases r with
  | nil=>rfl
  | cons b r=>
   have:=congrArg List.length hd;simp at this;omega
theorem Sc.YY {w:World}{S:Nat->Prop}{c:Sc}{j:List Value}(h:ZE w S Ze c.da j):j=c.cs:=by
 obtain⟨s,d,rfl⟩:=Sc.YG h
 cases c
 cases s
 simp [Sc.da] at d;obtain⟨rfl,rfl⟩:=d;rfl
theorem MQ (l:List Sc)(A:Option Addr)(k:Nat)(w:World)(hA:ZT w (· < w.heap.size) Ze (l.map Sc.da) A)(hn:l.length<=1099511627776):
  Calls prog 105 #[.slice A l.length k,.func (.func 106) #[] #[]] w fun e w'=>e= .returned (.bool (Zt Wk l))/\Below w.heap.size w w':=by
 have O:=hid hA;clear hA;go_enter func105,ntmps105
 go_wp2;go_loopw [10] (fun i wr=> ∃ j:Nat,(j+1<=l.length∨j=0)/\i= .int .i64 j/\Hid (Zt Wk l=Zt Wk (l.drop j))/\Hid (Below w.heap.size w wr)) (fun i _=>l.length - (intOf i).toNat)
 case atStart=>exact⟨0,Or.inr rfl,rfl,hid (by rw [List.drop_zero]),hid br⟩
 case round=>
  obtain⟨j,hj,rfl,T,s⟩:=hrel;by_cases hlt:j+1<l.length
  ·have ab:(j:Int)< (l.length:Int) - 1:=by omega
   have ai:(j:Int)+1< (l.length:Int):=by omega
   have aj:(0:Int)<=(j:Int)+1:=by omega
   have ak:((j:Int)+1).toNat=j+1:=by omega
   have am:(j:Int)< (l.length:Int):=by omega
   have an:IntKind.i64.wrap ((j:Int)+1)=(j:Int)+1:=by simp [IntKind.wrap,IntKind.bits,IntKind.signed];omega
   have ac:(max 0 ((l.length:Int) - 1))=(l.length:Int) - 1:=by omega
   obtain⟨d,vs,rfl,K,J⟩:=(O.out.below s.out).at_ (j:=j) (by simpa using (by omega:j<l.length));obtain⟨ah,ao,I,F,E⟩:=(O.out.below s.out).at_ (j:=j+1) (by simpa using hlt);injection I with I
   subst I;rw [List.getElem_map] at K F;have U:Hid (Zt Wk l=(decide (Wk l[j] l[j+1]<0) && Zt Wk (l.drop (j+1)))):=hid (T.out.trans (Ty Wk l j hlt));generalize l[j]=x at*;generalize l[j+1]=y at*;obtain rfl:=Sc.YY K;obtain rfl:=Sc.YY F;have a0:=e0 (m:=j*2) J;have a1:=ef (m:=j*2) J 1;have G:=e0 (m:=(j+1)*2) E;have V:=ef (m:=(j+1)*2) E 1;clear K F J E;rw [ac];have hz:=World.block_lt_of_cell? wr _ a0;have N:=World.block_lt_of_cell? wr _ G;have ae:Below wr.heap.size wr wr.drew:=Below.drew br;have aa:Hid (∀ u C,(fun w'=>Below wr.heap.size wr w'/\w'.cell? (d.add (j*2))=some (.string (Z2 x.name))/\w'.cell? ⟨(d.add (j*2)).block,(d.add (j*2)).off+1,none⟩=some (.string (Z2 x.ZN))/\w'.cell? (d.add ((j+1)*2))=some (.string (Z2 y.name))/\w'.cell? ⟨(d.add ((j+1)*2)).block,(d.add ((j+1)*2)).off+1,none⟩=some (.string (Z2 y.ZN))) u->Below u.heap.size u C->(fun w'=>Below wr.heap.size wr w'/\w'.cell? (d.add (j*2))=some (.string (Z2 x.name))/\w'.cell? ⟨(d.add (j*2)).block,(d.add (j*2)).off+1,none⟩=some (.string (Z2 x.ZN))/\w'.cell? (d.add ((j+1)*2))=some (.string (Z2 y.name))/\w'.cell? ⟨(d.add ((j+1)*2)).block,(d.add ((j+1)*2)).off+1,none⟩=some (.string (Z2 y.ZN))) C):=hid (by
    intro u C ⟨Z,_⟩ h2;have h:Below wr.heap.size wr C:=Z.trans (h2.mono Z.size);exact⟨h,ct a0 h hz,ct a1 h hz,ct G h N,ct V h N⟩)
   have L:=fun W=>JW x y W
   unfold Sc.cs at L;generalize Wk x y=r at*;go_wp2_with fail;go_region_held_law (fun w'=>Below wr.heap.size wr w'/\w'.cell? (d.add (j*2))=some (.string (Z2 x.name))/\w'.cell? ⟨(d.add (j*2)).block,(d.add (j*2)).off+1,none⟩=some (.string (Z2 x.ZN))/\w'.cell? (d.add ((j+1)*2))=some (.string (Z2 y.name))/\w'.cell? ⟨(d.add ((j+1)*2)).block,(d.add ((j+1)*2)).off+1,none⟩=some (.string (Z2 y.ZN)))
    (first | exact aa.out _ _ (by assumption) (by assumption) | exact⟨ae,a0,a1,G,V⟩)
    (first | (go_at_call 106;refine(L _).mono ?_;rintro e w' ⟨rfl,hb⟩))
   rename_i hS;have M:=bt s hS.1;clear hS;by_cases hq:r<0
   ·have D:Hid (Zt Wk l=Zt Wk (l.drop (j+1))):=hid (by rw [U.out];simp [hq]);have af: ¬ r>=0:=by omega
    have ag: ¬ 0<=r:=by omega
    go_wp2;go_roundw
    case rel=>exact⟨j+1,by omega,by go_num,D,M⟩
    case measure=>simp [intOf];omega
   ·have D:Hid (Zt Wk l=false):=hid (by rw [U.out];simp [hq]);have af:r>=0:=by omega
    have ag:0<=r:=by omega
    go_wp2;go_ret;exact⟨by rw [D.out];rfl,M.out⟩
  ·have HR:Hid (Zt Wk l=true):=hid (T.out.trans (SE Wk l j (by omega)));have ab: ¬ (j:Int)<max 0 ((l.length:Int) - 1):=by omega
   go_wp2;go_ret;exact⟨by rw [HR.out];rfl,s.out⟩
section
variable {P : Program} {ops : Array Oper} {Q : Exit -> Act -> World -> Prop} {md : Region.Mode} {S : World -> Prop}
def JJ (P:Program)(ops:Array Oper)(S:World->Prop)(o:Oper)(v:Value)(a:Act):Prop:=
 Region.wanted o (yielded ops a.tmps)=true/\ ∀ w,S w-> ∃ f args,(execOp a.eval o).run P w= .ok (.enter f args) w/\Calls P f args w fun e w'=>e= .returned v/\w'=w
theorem JJ.wpOp {i:Nat}{o:Oper}{v:Value}{a:Act}(m:ops[i]?=some o)(D:JJ P ops S o v a){K:Act->World->Prop}{w:World}(d:S w)(h:K (a.put o.dst v) w):wpOp P ops Q i K a w:=by
 obtain⟨C,u⟩:=D;obtain⟨f,args,s,j⟩:=u w d;unfold Go.wpOp;simp only [m,C,if_true,Oper.wp,s,Oper.upon];refine .inl (Calls.mono j ?_)
 rintro e w' ⟨rfl,rfl⟩;exact h
theorem Zg {op:Oper}{a:Act}(F:Region.wanted op (yielded ops a.tmps)=true)(m:TypeId)(x:Operand)(D:op.op= .load m x)(s:Addr)(G:a.eval x= .pointer (some s))(cs:List Value)(d:TypeDesc)
  (u: ∀ w,S w-> ∀ j v,cs[j]?=some v->w.cell? (s.add j)=some v) (E:P.underlying m=some d) (hd:d.isRow=true) (C:(P.info? m).map (·.size)=some cs.length):YieldsIf P ops S op (.agg cs.toArray) a:=
 .inl ⟨F,fun w h=>by
  unfold execOp;simp only [D,G,Instr.loadAt,Instr.sureAddr,Sem.run_bind,Sem.run_pure,Result.andThen_ok,Tv w s m cs d (u w h) E hd C]⟩
end
end Go.Proofs.YtnhmoibjlakhjaaGreat
