/- Lemmas, each under its own conditions. -/
import Derived.Test.YtnhmoibjlakhjaaGreatW21
import Derived.Shelf.SlSortCmp.WholeK
set_option linter.all false
namespace Go.Proofs.YtnhmoibjlakhjaaGreat
open Go.Proofs.Tryz
set_option maxRecDepth 100000
set_option maxHeartbeats 16000000
open Go.RowKit Go.Shelf Go.Sort Go.Lib
structure U3 {α:Type} (c:α->α->Int):Prop where
 MJ: ∀ a b,c b a= -(c a b)
 trans: ∀ a b d,c a b<=0->c b d<=0->c a d<=0
theorem U3.swo {α:Type}{c:α->α->Int}(h:U3 c):SWO (ltOf c) where
 irrefl x:=by
  have:=h.MJ x x;unfold ltOf;simp
  omega
 trans x y z h1 h2:=by
  unfold ltOf at*;simp only [decide_eq_true_eq] at*;have a1:=h.trans x y z (by omega) (by omega);rcases Int.lt_or_eq_of_le a1 with a2 | a2
  ·exact a2
  ·have a3:=h.MJ x z;have a4:=h.trans z x y (by omega) (by omega);have d:=h.MJ y z;omega
 ntrans x y z h1 h2:=by
  unfold ltOf at*;simp only [decide_eq_false_iff_not] at*;have a1:=h.MJ x y;have a2:=h.MJ y z;have a3:=h.trans z y x (by omega) (by omega);have a4:=h.MJ x z;omega
theorem U3.RI {α β:Type}{c:β->β->Int}(h:U3 c)(f:α->β):U3 fun x y=>c (f x) (f y):=⟨fun a b=>h.MJ _ _,fun a b d=>h.trans _ _ _⟩
theorem FH (a b:Int):Pf (-a) (-b)= -(Pf a b):=by
 unfold Pf;by_cases h:a=0
 ·rw [if_pos h,if_pos (by omega)]
 ·rw [if_neg h,if_neg (by omega)]
theorem U3.EW {α:Type}{c d:α->α->Int}(h:U3 c)(g:U3 d):U3 fun x y=>Pf (c x y) (d x y):=by
 refine⟨fun a b=>by show Pf (c b a) (d b a)=_;rw [h.MJ a b,g.MJ a b,FH],fun x y z m s=> ?_⟩
 have j: ∀ a b:Int,Pf a b<=0->a<=0:=fun a b u=>by
  unfold Pf at u;split at u <;> omega
 have a1:=h.trans x y z (j _ _ m) (j _ _ s);show Pf (c x z) (d x z)<=0
 by_cases hz:c x z=0
 ·have a2:=h.MJ x z;have E:=h.trans y z x (j _ _ s) (by omega);have F:=h.MJ y x;have G:=j _ _ m;have C:c x y=0:=by omega
  have I:=h.trans z x y (by omega) (j _ _ m);have J:=h.MJ z y;have K:=j _ _ s;have D:c y z=0:=by omega
  unfold Pf at m s ⊢;rw [if_pos C] at m;rw [if_pos D] at s;rw [if_pos hz];exact g.trans x y z m s
 ·unfold Pf;rw [if_neg hz];exact a1
theorem PQ: ∀ a b:lU,YR b a= -(YR a b)
 | [],[]=>rfl
 | [],_ ::_=>rfl
 | _ ::_,[]=>rfl
 | a ::l,b ::m=>by
  have h:=PQ l m;unfold YR at h ⊢;unfold Lib.compareBytes;simp only [UInt8.lt_iff_toNat_lt];by_cases h1:a.toNat<b.toNat
  ·rw [if_pos h1,if_neg (by omega),if_pos h1];rfl
  ·by_cases h2:b.toNat<a.toNat
   ·rw [if_pos h2,if_neg h1,if_pos h2]
   ·rw [if_neg h2,if_neg h1,if_neg h1,if_neg h2,h]
theorem PP: ∀ a b d:lU,YR a b<=0->YR b d<=0->YR a d<=0
 | [],_,[],_,_=>by simp [YR,Lib.compareBytes]
 | [],_,_ ::_,_,_=>by simp [YR,Lib.compareBytes]
 | _ ::_,[],_,h,_=>by simp [YR,Lib.compareBytes] at h
 | _ ::_,_ ::_,[],_,h=>by simp [YR,Lib.compareBytes] at h
 | a ::l,b ::m,d ::n,h1,h2=>by
  have ih:=PP l m n;unfold YR at ih h1 h2 ⊢;unfold Lib.compareBytes at h1 h2 ⊢;simp only [UInt8.lt_iff_toNat_lt] at*;by_cases x1:a.toNat<b.toNat
  ·by_cases x2:b.toNat<d.toNat
   ·rw [if_pos (by omega)];omega
   ·rw [if_neg x2] at h2;by_cases x3:d.toNat<b.toNat
    ·rw [if_pos x3] at h2;omega
    ·rw [if_pos (by omega)];omega
  ·rw [if_neg x1] at h1;by_cases x3:b.toNat<a.toNat
   ·rw [if_pos x3] at h1;omega
   ·rw [if_neg x3] at h1;by_cases x2:b.toNat<d.toNat
    ·rw [if_pos (by omega)];omega
    ·rw [if_neg x2] at h2;by_cases x4:d.toNat<b.toNat
     ·rw [if_pos x4] at h2;omega
     ·rw [if_neg x4] at h2;rw [if_neg (by omega),if_neg (by omega)];exact ih h1 h2
theorem Xx:U3 YR:=⟨PQ,PP⟩
theorem PK:U3 Lib.compareInt:=by
 refine⟨fun a b=> ?_,fun a b d h j=> ?_⟩
 ·unfold Lib.compareInt;split <;> split <;>(try split) <;> omega
 ·unfold Lib.compareInt at*;split at h <;> split at j <;> split <;>(try split) <;>(try split at h) <;>(try split at j) <;> omega
theorem OW:U3 Wk:=Xx.RI Sc.name
theorem GN:U3 (fun x y:YH=>WM x.1 y.1):=Xx.RI fun x:YH=>x.1.name
theorem Gv:U3 (fun x y:YX=>Xg x.1 y.1):=(Xx.RI fun x:YX=>x.1.Z9).EW (Xx.RI fun x:YX=>x.1.name)
theorem Hu:U3 RZ:=(Xx.RI Gr.Z9).EW ((Xx.RI Gr.ZZ).EW ((PK.RI Gr.right).EW ((Xx.RI Gr.ZM).EW (Xx.RI Gr.to))))
theorem IE (a b:Sc)(w:World):
  cQ 196 #[.agg (a.cs).toArray,.agg (b.cs).toArray] w fun e w'=>e= .returned (i6 (Wk a b))/\VZ w w':=by
 unfold Wk Sc.cs;have h:=fun W=>Xu a.name b.name W
 generalize YR a.name b.name=r at h ⊢;go_enter func196,ntmps196
 go_wp2_with fail;refine(h _).mono ?_
 rintro e w' ⟨rfl,rfl⟩;go_wp2;go_ret;exact⟨rfl,(VZ.alloc _ _).trans (VZ.alloc _ _)⟩
theorem IP (a b:Ru)(A:oA)(n:Nat)(B:oA)(m:Nat)(w:World):
  cQ 213 #[.agg (a.cs A n).toArray,.agg (b.cs B m).toArray] w fun e w'=>e= .returned (i6 (WM a b))/\VZ w w':=by
 unfold WM Ru.cs;have h:=fun W=>Xu a.name b.name W
 generalize YR a.name b.name=r at h ⊢;go_enter func213,ntmps213
 go_wp2_with fail;refine(h _).mono ?_
 rintro e w' ⟨rfl,rfl⟩;go_wp2;go_ret;exact⟨rfl,(VZ.alloc _ _).trans (VZ.alloc _ _)⟩
structure Vm (w w':World) (v:Value):Prop where
 size:w.heap.size<=w'.heap.size
 block: ∀ k,k<w.heap.size->v.ownBlock≠some k->w'.heap[k]?=w.heap[k]?
section
variable {α : Type} [Inhabited α] {enc : α -> List Value} {k : Nat}
theorem Py (j: ∀ x,(enc x).length=k)(d:Array α):(flatK enc k d).toList=d.toList.flatMap enc:=by
 apply List.ext_getElem?
 intro i;by_cases hi:i<d.size*k
 ·have D:0<k:=by
   rcases Nat.eq_zero_or_pos k with h | h
   ·subst h;simp at hi
   ·exact h
  have C:i / k<d.toList.length:=by rw [Array.length_toList];exact Nat.div_lt_of_lt_mul (by rwa [Nat.mul_comm])
  have m:=Nat.mod_lt i D;have s:=Zl j d.toList (i / k) (i % k) C m;rw [show i / k*k+i % k=i from by rw [Nat.mul_comm];exact Nat.div_add_mod i k] at s;rw [s,Array.getElem?_toList,Array.getElem?_eq_getElem (by rw [size_flatK];exact hi)];have u:=get_flatK enc k d i hi;rw [getElem!_pos _ i (by rw [size_flatK];exact hi),getElem!_pos d (i / k) (by simpa using C),getElem!_pos _ (i % k) (by rw [j];exact m)] at u;rw [u,List.getElem?_eq_getElem (by rw [j];exact m)];simp only [Array.getElem_toList]
 ·rw [List.getElem?_eq_none (by rw [Array.length_toList,size_flatK];omega),List.getElem?_eq_none (by rw [Zm j,Array.length_toList];omega)]
theorem Tj (C: ∀ x,(enc x).length=k){w:World}{base g n c:Nat}{T:TypeId}{l:List α}(h:w.ownsRow base T k (.slice (some (aD g 0)) n c) n (l.flatMap enc)):HoldsK enc k w g 0 l.toArray:=by
 intro j d;rw [size_flatK] at d;obtain⟨_,_,_,s,u⟩:=ZJ h;have D:=Py C l.toArray;have m:j< (flatK enc k l.toArray).size:=by rw [size_flatK];exact d
 refine⟨?_,by rw [Nat.zero_add];exact s j⟩
 rw [Nat.zero_add];refine u j _ ?_
 rw [getElem!_pos _ j m];have:(l.flatMap enc)=(flatK enc k l.toArray).toList:=by rw [D]
 rw [this,Array.getElem?_toList,Array.getElem?_eq_getElem m];rfl
theorem Ue (I: ∀ x,(enc x).length=k){w:World}{base g n c m:Nat}{T:TypeId}{l:List α}(h:w.ownsRow base T k (.slice (some (aD g 0)) n c) n (l.flatMap enc))(u:n=l.length)(d:Array α)(hd:d.size=l.length)(os:Array Obj):
  (sortWorldK enc k w g 0 m d os).ownsRow base T k (.slice (some (aD g 0)) n c) n (d.toList.flatMap enc)/\Below base w (sortWorldK enc k w g 0 m d os)/\ZS [T] w (sortWorldK enc k w g 0 m d os)/\Vm w (sortWorldK enc k w g 0 m d os) (.slice (some (aD g 0)) n c):=by
 obtain⟨hb,M,O,_,_⟩:=ZJ h;have hF:=Py I d;have aa:(flatK enc k d).size=n*k:=by rw [size_flatK,hd,u]
 have WT: ∀ j,j<w.heap.size->j≠g->(sortWorldK enc k w g 0 m d os).heap[j]?=w.heap[j]?:=fun j s E=>by
  show (((putRow id (Sort.ahead w m) g 0 (flatK enc k d)).heap ++os))[j]?=_
  rw [Array.getElem?_append_left (by rw [size_putRow];exact s)];show (w.heap.modify g _)[j]?=_
  rw [Array.getElem?_modify,if_neg (fun e=>E e.symm)]
 have C:w.heap.size<=(sortWorldK enc k w g 0 m d os).heap.size:=by
  show _<=(((putRow id (Sort.ahead w m) g 0 (flatK enc k d)).heap ++os)).size
  rw [Array.size_append,size_putRow];exact Nat.le_add_right _ _
 refine⟨?_,⟨rfl,rfl,rfl,C,fun j s=>WT j (by omega) (by omega)⟩,⟨C,fun j t s u=>WT j s.lt (fun e=>u (by rw [e] at s;rw [s.same O];simp))⟩,⟨C,fun j s E=>WT j s (fun e=>E (by rw [e];rfl))⟩⟩
 obtain⟨hl,K⟩:=h;refine⟨by rw [Zm I,Array.length_toList,hd,u],?_⟩
 rcases K with ⟨J,_⟩ | ⟨g',cap,D,U,V,N,F,L,G,h6⟩
 ·cases J
 ·injection U with hv1 hv2 hv3
  injection hv1 with hv1
  injection hv1 with hv1
  subst hv1;subst hv3;refine .inr ⟨g,c,putCells id 0 (flatK enc k d) D,rfl,hb,?_,F,L,by simp [putCells,G],?_⟩
  ·show (((putRow id (Sort.ahead w m) g 0 (flatK enc k d)).heap ++os))[g]?=_
   rw [Array.getElem?_append_left (by rw [size_putRow];exact M)];show (w.heap.modify g _)[g]?=_
   rw [Array.getElem?_modify,if_pos rfl,N];rfl
  ·have Z:n*k<=D.size:=by rw [G];exact Nat.mul_le_mul_right _ F
   apply List.ext_getElem?
   intro i;rw [<-hF,List.getElem?_take];by_cases hi:i<n*k
   ·rw [if_pos hi,Array.getElem?_toList,Array.getElem?_toList];unfold putCells;rw [Array.getElem?_mapIdx,Array.getElem?_eq_getElem (show i<D.size by omega),Array.getElem?_eq_getElem (show i< (flatK enc k d).size by omega)];simp only [Option.map_some,Nat.zero_le,true_and,Nat.zero_add,Nat.sub_zero,id];rw [if_pos (by omega),getElem!_pos _ i (by omega)]
   ·rw [if_neg hi,List.getElem?_eq_none (by rw [Array.length_toList];omega)]
end
def JG {α:Type}(enc:α->lV)(cf:α->α->Int)(T:TypeId)(k base:Nat)(A:oA)(c:Nat)(l:List α)(w:World)(e:Ending)(w':World):Prop:=
 e= .returned (.tuple #[])/\ ∃ l':List α,l'.Perm l/\(∀ (i j:Nat) (hi:i<l'.length) (hj:j<l'.length),i<j->0<=cf l'[j] l'[i])/\w'.ownsRow base T k (.slice A l.length c) l.length (l'.flatMap enc)/\Below base w w'/\ZS [T] w w'/\Vm w w' (.slice A l.length c)
theorem Td {α:Type} [Inhabited α]{u:α->α->Int}{l:List α}{d:Array α}(K:PermIn 0 l.toArray.size l.toArray d)(L:SortedIn (ltOf u) 0 l.toArray.size d):
  d.size=l.length/\d.toList.Perm l/\ ∀ (i j:Nat) (D:i<d.toList.length) (E:j<d.toList.length),i<j->0<=u d.toList[j] d.toList[i]:=by
 obtain⟨m,_,C⟩:=K;have G:d.size=l.length:=by simpa using m
 refine⟨G,?_,fun i j D E F=> ?_⟩
 ·have I:d.extract 0 l.toArray.size=d:=by
   rw [<-m];exact Array.extract_size
  have J:l.toArray.extract 0 l.toArray.size=l.toArray:=Array.extract_size;rw [I,J] at C;simpa using C
 ·have hi':i<d.size:=by simpa using D
  have s:j<d.size:=by simpa using E
  have h:=L i j (Nat.zero_le _) F (by rw [<-m];exact s);rw [getElem!_pos d i hi',getElem!_pos d j s] at h;unfold ltOf at h;simp only [decide_eq_false_iff_not] at h;rw [Array.getElem_toList,Array.getElem_toList];omega
theorem Tryz.WA {α:Type}{a:Option α}{b c:α}(h:a=some b)(e:b=c:=by kernel_rfl):a=some c:=h.trans (congrArg some e)
def Tryz.ON:Go.Shelf.Ren:=⟨fun|6=>195|15=>148|14=>258|28=>225|29=>226|20=>275|21=>276|22=>277|23=>278|24=>279|25=>280|26=>281|27=>282|46=>303|47=>265|48=>266|49=>304|50=>305|57=>312|n=>n,fun|22=>23|24=>89|25=>174|3=>3|39=>202|0=>0|53=>267|55=>269|4=>4|46=>261|45=>260|50=>122|5=>5|9=>9|66=>293|70=>297|76=>316|77=>317|n=>n,fun|n=>n⟩
theorem Tryz.Uc:Go.Proofs.SlLaysF0.n6 prog Tryz.ON:={
 mixed:=by kernel_rfl
 f6:=⟨Tryz.f195.name,by decide,Tryz.WA func195⟩
 f14:=⟨Tryz.f258.name,by decide,Tryz.WA func258⟩
 f15:=Tryz.WA func148
 f20:=⟨Tryz.f275.name,by decide,Tryz.WA func275⟩
 f21:=⟨Tryz.f276.name,by decide,Tryz.WA func276⟩
 f22:=⟨Tryz.f277.name,by decide,Tryz.WA func277⟩
 f23:=⟨Tryz.f278.name,by decide,Tryz.WA func278⟩
 f24:=⟨Tryz.f279.name,by decide,Tryz.WA func279⟩
 f25:=⟨Tryz.f280.name,by decide,Tryz.WA func280⟩
 f26:=⟨Tryz.f281.name,by decide,Tryz.WA func281⟩
 f27:=⟨Tryz.f282.name,by decide,Tryz.WA func282⟩
 f28:=Tryz.WA func225
 f29:=Tryz.WA func226
 f46:=⟨Tryz.f303.name,by decide,Tryz.WA func303⟩
 f47:=Tryz.WA func265
 f48:=Tryz.WA func266
 f49:=⟨Tryz.f304.name,by decide,Tryz.WA func304⟩
 f50:=⟨Tryz.f305.name,by decide,Tryz.WA func305⟩
 f57:=⟨Tryz.f312.name,by decide,Tryz.WA func312⟩
 t0:=underlying0
 a0:=Tryz.isAgg0
 z0:=Tryz.sizeOf0
 v0:=Tryz.zeroValue0
 t3:=underlying3
 a3:=Tryz.isAgg3
 z3:=Tryz.sizeOf3
 v3:=Tryz.zeroValue3
 t4:=underlying4
 a4:=Tryz.isAgg4
 z4:=Tryz.sizeOf4
 v4:=Tryz.zeroValue4
 t5:=underlying5
 a5:=Tryz.isAgg5
 z5:=Tryz.sizeOf5
 v5:=Tryz.zeroValue5
 t9:=underlying9
 a9:=Tryz.isAgg9
 z9:=Tryz.sizeOf9
 v9:=Tryz.zeroValue9
 t22:=underlying23
 a22:=Tryz.isAgg23
 z22:=Tryz.sizeOf23
 v22:=Tryz.zeroValue23
 t25:=underlying174
 a25:=Tryz.isAgg174
 z25:=Tryz.sizeOf174
 v25:=Tryz.zeroValue174
 t39:=underlying202
 a39:=Tryz.isAgg202
 z39:=Tryz.sizeOf202
 v39:=Tryz.zeroValue202
 t45:=underlying260
 a45:=Tryz.isAgg260
 z45:=Tryz.sizeOf260
 v45:=Tryz.zeroValue260
 t46:=underlying261
 a46:=Tryz.isAgg261
 z46:=Tryz.sizeOf261
 v46:=Tryz.zeroValue261
 t50:=underlying122
 a50:=Tryz.isAgg122
 z50:=Tryz.sizeOf122
 v50:=Tryz.zeroValue122
 t53:=underlying267
 a53:=Tryz.isAgg267
 z53:=Tryz.sizeOf267
 v53:=Tryz.zeroValue267
 t55:=underlying269
 a55:=Tryz.isAgg269
 z55:=Tryz.sizeOf269
 v55:=Tryz.zeroValue269
 t66:=underlying293
 a66:=Tryz.isAgg293
 z66:=Tryz.sizeOf293
 v66:=Tryz.zeroValue293
 t70:=underlying297
 a70:=Tryz.isAgg297
 z70:=Tryz.sizeOf297
 v70:=Tryz.zeroValue297
 t76:=underlying316
 a76:=Tryz.isAgg316
 z76:=Tryz.sizeOf316
 v76:=Tryz.zeroValue316
 t77:=underlying317
 a77:=Tryz.isAgg317
 z77:=Tryz.sizeOf317
 v77:=Tryz.zeroValue317}
theorem Lm (base:Nat)(l:List Sc)(A:oA)(c:Nat)(w:World)(h:w.ownsRow base 89 2 (.slice A l.length c) l.length (l.flatMap Sc.cs))(C:0<l.length)(V:l.length<=1099511627776):
  cQ 195 #[.slice A l.length c,.func (.func 196) #[] #[]] w (JG Sc.cs Wk 89 2 base A c l w):=by
 ·obtain⟨g,rfl⟩: ∃ g,A=some (aD g 0):=by
   obtain⟨g,cap,T,_,_⟩:=h.form C;exact⟨g,by injection T⟩
  have u: ∀ args w,(callFunc 196 args).run prog w= .ok (.enter 196 args) w:=enters_of func196 (by kernel_rfl) rfl;have s:CmpLays prog 196 #[] Sc.cs 2 Wk g 0 l.toArray.size w:=fun m os U _ x y=>(IE x y _).mono fun e w' ⟨L,M⟩=>⟨L,M.grown⟩
  have d:=AnyQ.slices_SortFunc Tryz.Uc 2 (fun w=>by kernel_rfl) (fun w=>by kernel_rfl) Sc.cs Sc.k Sc.one Wk (OW.swo) 196 #[] g 0 c l.toArray w u s (Tj Sc.k h) (ZJ h).2.1 (by simp;omega);change cQ 195 _ _ _ at d
  refine d.mono ?_
  rintro e w' ⟨rfl,j,m,os,N,O,rfl⟩;obtain⟨D,E,F⟩:=Td N O;obtain⟨G,I,J,K⟩:=Ue (m:=m) Sc.k h rfl j D os;exact⟨rfl,j.toList,E,F,G,I,J,K⟩
def Tryz.MN:Go.Shelf.Ren:=⟨fun|6=>212|15=>148|14=>263|28=>225|29=>226|20=>291|21=>292|22=>293|23=>294|24=>295|25=>296|26=>297|27=>298|46=>309|47=>265|48=>266|49=>310|50=>311|57=>314|n=>n,fun|22=>71|24=>40|25=>216|3=>3|39=>202|0=>0|53=>267|55=>269|4=>4|46=>261|45=>260|50=>122|5=>5|9=>9|66=>293|70=>297|76=>316|77=>317|n=>n,fun|n=>n⟩
theorem Tryz.Gw:Go.Proofs.SlLaysF0.n6 prog Tryz.MN:={Tryz.Uc with
 mixed:=by kernel_rfl
 f6:=⟨Tryz.f212.name,by decide,Tryz.WA func212⟩
 f14:=⟨Tryz.f263.name,by decide,Tryz.WA func263⟩
 f20:=⟨Tryz.f291.name,by decide,Tryz.WA func291⟩
 f21:=⟨Tryz.f292.name,by decide,Tryz.WA func292⟩
 f22:=⟨Tryz.f293.name,by decide,Tryz.WA func293⟩
 f23:=⟨Tryz.f294.name,by decide,Tryz.WA func294⟩
 f24:=⟨Tryz.f295.name,by decide,Tryz.WA func295⟩
 f25:=⟨Tryz.f296.name,by decide,Tryz.WA func296⟩
 f26:=⟨Tryz.f297.name,by decide,Tryz.WA func297⟩
 f27:=⟨Tryz.f298.name,by decide,Tryz.WA func298⟩
 f46:=⟨Tryz.f309.name,by decide,Tryz.WA func309⟩
 f49:=⟨Tryz.f310.name,by decide,Tryz.WA func310⟩
 f50:=⟨Tryz.f311.name,by decide,Tryz.WA func311⟩
 f57:=⟨Tryz.f314.name,by decide,Tryz.WA func314⟩
 t22:=underlying71
 a22:=Tryz.isAgg71
 z22:=Tryz.sizeOf71
 v22:=Tryz.zeroValue71
 t25:=underlying216
 a25:=Tryz.isAgg216
 z25:=Tryz.sizeOf216
 v25:=Tryz.zeroValue216}
theorem Nz (base:Nat)(l:List YH)(A:oA)(c:Nat)(w:World)(h:w.ownsRow base 40 8 (.slice A l.length c) l.length (l.flatMap YH.cs))(C:0<l.length)(V:l.length<=1099511627776):
  cQ 212 #[.slice A l.length c,.func (.func 213) #[] #[]] w (JG YH.cs (fun x y:YH=>WM x.1 y.1) 40 8 base A c l w):=by
 ·obtain⟨g,rfl⟩: ∃ g,A=some (aD g 0):=by
   obtain⟨g,cap,T,_,_⟩:=h.form C;exact⟨g,by injection T⟩
  have u: ∀ args w,(callFunc 213 args).run prog w= .ok (.enter 213 args) w:=enters_of func213 (by kernel_rfl) rfl;have s:CmpLays prog 213 #[] YH.cs 8 (fun x y:YH=>WM x.1 y.1) g 0 l.toArray.size w:=fun m os U _ x y=>(IP x.1 y.1 x.2.1 x.2.2 y.2.1 y.2.2 _).mono fun e w' ⟨L,M⟩=>⟨L,M.grown⟩
  have d:=AnyQ.slices_SortFunc Tryz.Gw 8 (fun w=>by kernel_rfl) (fun w=>by kernel_rfl) YH.cs YH.k YH.one (fun x y:YH=>WM x.1 y.1) (GN.swo) 213 #[] g 0 c l.toArray w u s (Tj YH.k h) (ZJ h).2.1 (by simp;omega);change cQ 212 _ _ _ at d
  refine d.mono ?_
  rintro e w' ⟨rfl,j,m,os,N,O,rfl⟩;obtain⟨D,E,F⟩:=Td N O;obtain⟨G,I,J,K⟩:=Ue (m:=m) YH.k h rfl j D os;exact⟨rfl,j.toList,E,F,G,I,J,K⟩
def Tryz.Oq:Go.Shelf.Ren:=⟨fun|6=>200|15=>148|14=>259|28=>225|29=>226|20=>283|21=>284|22=>285|23=>286|24=>287|25=>288|26=>289|27=>290|46=>306|47=>265|48=>266|49=>307|50=>308|57=>313|n=>n,fun|22=>24|24=>73|25=>171|3=>3|39=>202|0=>0|53=>267|55=>269|4=>4|46=>261|45=>260|50=>122|5=>5|9=>9|66=>293|70=>297|76=>316|77=>317|n=>n,fun|n=>n⟩
theorem Tryz.Iz:Go.Proofs.SlLaysF0.n6 prog Tryz.Oq:={Tryz.Uc with
 mixed:=by kernel_rfl
 f6:=⟨Tryz.f200.name,by decide,Tryz.WA func200⟩
 f14:=⟨Tryz.f259.name,by decide,Tryz.WA func259⟩
 f20:=⟨Tryz.f283.name,by decide,Tryz.WA func283⟩
 f21:=⟨Tryz.f284.name,by decide,Tryz.WA func284⟩
 f22:=⟨Tryz.f285.name,by decide,Tryz.WA func285⟩
 f23:=⟨Tryz.f286.name,by decide,Tryz.WA func286⟩
 f24:=⟨Tryz.f287.name,by decide,Tryz.WA func287⟩
 f25:=⟨Tryz.f288.name,by decide,Tryz.WA func288⟩
 f26:=⟨Tryz.f289.name,by decide,Tryz.WA func289⟩
 f27:=⟨Tryz.f290.name,by decide,Tryz.WA func290⟩
 f46:=⟨Tryz.f306.name,by decide,Tryz.WA func306⟩
 f49:=⟨Tryz.f307.name,by decide,Tryz.WA func307⟩
 f50:=⟨Tryz.f308.name,by decide,Tryz.WA func308⟩
 f57:=⟨Tryz.f313.name,by decide,Tryz.WA func313⟩
 t22:=underlying24
 a22:=Tryz.isAgg24
 z22:=Tryz.sizeOf24
 v22:=Tryz.zeroValue24
 t25:=underlying171
 a25:=Tryz.isAgg171
 z25:=Tryz.sizeOf171
 v25:=Tryz.zeroValue171}
theorem JS (base:Nat)(l:List YX)(A:oA)(c:Nat)(w:World)(h:w.ownsRow base 73 5 (.slice A l.length c) l.length (l.flatMap YX.cs))(C:0<l.length)(V:l.length<=1099511627776):
  cQ 200 #[.slice A l.length c,.func (.func 104) #[] #[]] w (JG YX.cs (fun x y:YX=>Xg x.1 y.1) 73 5 base A c l w):=by
 ·obtain⟨g,rfl⟩: ∃ g,A=some (aD g 0):=by
   obtain⟨g,cap,T,_,_⟩:=h.form C;exact⟨g,by injection T⟩
  have u: ∀ args w,(callFunc 104 args).run prog w= .ok (.enter 104 args) w:=enters_of func104 (by kernel_rfl) rfl;have s:CmpLays prog 104 #[] YX.cs 5 (fun x y:YX=>Xg x.1 y.1) g 0 l.toArray.size w:=fun m os U _ x y=>(Ll x.1 y.1 x.2.1 x.2.2.1 x.2.2.2.1 x.2.2.2.2 y.2.1 y.2.2.1 y.2.2.2.1 y.2.2.2.2 _).mono fun e w' ⟨L,M⟩=>⟨L,M.grown⟩
  have d:=AnyQ.slices_SortFunc Tryz.Iz 5 (fun w=>by kernel_rfl) (fun w=>by kernel_rfl) YX.cs YX.k YX.one (fun x y:YX=>Xg x.1 y.1) (Gv.swo) 104 #[] g 0 c l.toArray w u s (Tj YX.k h) (ZJ h).2.1 (by simp;omega);change cQ 200 _ _ _ at d
  refine d.mono ?_
  rintro e w' ⟨rfl,j,m,os,N,O,rfl⟩;obtain⟨D,E,F⟩:=Td N O;obtain⟨G,I,J,K⟩:=Ue (m:=m) YX.k h rfl j D os;exact⟨rfl,j.toList,E,F,G,I,J,K⟩
def Tryz.Ot:Go.Shelf.Ren:=⟨fun|6=>89|15=>148|14=>147|28=>225|29=>226|20=>217|21=>218|22=>219|23=>220|24=>221|25=>222|26=>223|27=>224|46=>264|47=>265|48=>266|49=>267|50=>268|57=>299|n=>n,fun|22=>31|24=>53|25=>159|3=>3|39=>202|0=>0|53=>267|55=>269|4=>4|46=>261|45=>260|50=>122|5=>5|9=>9|66=>293|70=>297|76=>316|77=>317|n=>n,fun|n=>n⟩
theorem Tryz.NB:Go.Proofs.SlLaysF0.n6 prog Tryz.Ot:={Tryz.Uc with
 mixed:=by kernel_rfl
 f6:=⟨Tryz.f89.name,by decide,Tryz.WA func89⟩
 f14:=⟨Tryz.f147.name,by decide,Tryz.WA func147⟩
 f20:=⟨Tryz.f217.name,by decide,Tryz.WA func217⟩
 f21:=⟨Tryz.f218.name,by decide,Tryz.WA func218⟩
 f22:=⟨Tryz.f219.name,by decide,Tryz.WA func219⟩
 f23:=⟨Tryz.f220.name,by decide,Tryz.WA func220⟩
 f24:=⟨Tryz.f221.name,by decide,Tryz.WA func221⟩
 f25:=⟨Tryz.f222.name,by decide,Tryz.WA func222⟩
 f26:=⟨Tryz.f223.name,by decide,Tryz.WA func223⟩
 f27:=⟨Tryz.f224.name,by decide,Tryz.WA func224⟩
 f46:=⟨Tryz.f264.name,by decide,Tryz.WA func264⟩
 f49:=⟨Tryz.f267.name,by decide,Tryz.WA func267⟩
 f50:=⟨Tryz.f268.name,by decide,Tryz.WA func268⟩
 f57:=⟨Tryz.f299.name,by decide,Tryz.WA func299⟩
 t22:=underlying31
 a22:=Tryz.isAgg31
 z22:=Tryz.sizeOf31
 v22:=Tryz.zeroValue31
 t25:=underlying159
 a25:=Tryz.isAgg159
 z25:=Tryz.sizeOf159
 v25:=Tryz.zeroValue159}
theorem JT (base:Nat)(l:List Gr)(A:oA)(c:Nat)(w:World)(h:w.ownsRow base 53 6 (.slice A l.length c) l.length (l.flatMap Gr.cs))(C:0<l.length)(V:l.length<=1099511627776):
  cQ 89 #[.slice A l.length c,.func (.func 90) #[] #[]] w (JG Gr.cs RZ 53 6 base A c l w):=by
 ·obtain⟨g,rfl⟩: ∃ g,A=some (aD g 0):=by
   obtain⟨g,cap,T,_,_⟩:=h.form C;exact⟨g,by injection T⟩
  have u: ∀ args w,(callFunc 90 args).run prog w= .ok (.enter 90 args) w:=enters_of func90 (by kernel_rfl) rfl;have s:CmpLays prog 90 #[] Gr.cs 6 RZ g 0 l.toArray.size w:=fun m os U _ x y=>(RY x y _).mono fun e w' ⟨L,M⟩=>⟨L,M.grown⟩
  have d:=AnyQ.slices_SortFunc Tryz.NB 6 (fun w=>by kernel_rfl) (fun w=>by kernel_rfl) Gr.cs Gr.k Gr.one RZ (Hu.swo) 90 #[] g 0 c l.toArray w u s (Tj Gr.k h) (ZJ h).2.1 (by simp;omega);change cQ 89 _ _ _ at d
  refine d.mono ?_
  rintro e w' ⟨rfl,j,m,os,N,O,rfl⟩;obtain⟨D,E,F⟩:=Td N O;obtain⟨G,I,J,K⟩:=Ue (m:=m) Gr.k h rfl j D os;exact⟨rfl,j.toList,E,F,G,I,J,K⟩
end Go.Proofs.YtnhmoibjlakhjaaGreat
