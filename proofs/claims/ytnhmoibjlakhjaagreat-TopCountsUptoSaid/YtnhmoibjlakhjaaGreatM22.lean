/- Lemmas of the proof. No condition but each theorem's own. -/
import Derived.Test.YtnhmoibjlakhjaaGreatM21
import Derived.Shelf.SlSortCmp.WholeK
import Derived.Shelf.Lay
import Derived.Ground.SlsfProg
set_option linter.unusedVariables false
set_option linter.unusedSimpArgs false
namespace Go.Proofs.YtnhmoibjlakhjaaGreat
set_option maxRecDepth 100000
set_option maxHeartbeats 16000000
open Go.RowKit Go.Shelf Go.Sort Go.Lib
structure UM {α:Type} (c:α→α→Int):Prop where
 NE: ∀ a b,c b a= -(c a b)
 trans: ∀ a b d,c a b≤0→c b d≤0→c a d≤0
theorem UM.swo {α:Type}{c:α→α→Int}(h:UM c):SWO (ltOf c) where
 irrefl x:=by
  have:=h.NE x x;unfold ltOf;simp
  omega
 trans x y z h1 h2:=by
  unfold ltOf at*;simp only [decide_eq_true_eq] at*;have a1:=h.trans x y z (by omega) (by omega);rcases Int.lt_or_eq_of_le a1 with a2 | a2
  ·exact a2
  ·have a3:=h.NE x z;have a4:=h.trans z x y (by omega) (by omega);have a5:=h.NE y z;omega
 ntrans x y z h1 h2:=by
  unfold ltOf at*;simp only [decide_eq_false_iff_not] at*;have a1:=h.NE x y;have a2:=h.NE y z;have a3:=h.trans z y x (by omega) (by omega);have a4:=h.NE x z;omega
theorem UM.S6 {α β:Type}{c:β→β→Int}(h:UM c)(f:α→β):UM fun x y=>c (f x) (f y):=⟨fun a b=>h.NE _ _,fun a b d=>h.trans _ _ _⟩
theorem J5 (a b:Int):QO (-a) (-b)= -(QO a b):=by
 unfold QO;by_cases h:a=0
 ·rw [if_pos h,if_pos (by omega)]
 ·rw [if_neg h,if_neg (by omega)]
theorem UM.Jn {α:Type}{c d:α→α→Int}(h:UM c)(g:UM d):UM fun x y=>QO (c x y) (d x y):=by
 refine⟨fun a b=>by show QO (c b a) (d b a)=_;rw [h.NE a b,g.NE a b,J5],fun x y z h1 h2=> ?_⟩
 have lec: ∀ a b:Int,QO a b≤0→a≤0:=fun a b hab=>by
  unfold QO at hab;split at hab <;> omega
 have a1:=h.trans x y z (lec _ _ h1) (lec _ _ h2);show QO (c x z) (d x z)≤0
 by_cases hz:c x z=0
 ·have a2:=h.NE x z;have b1:=h.trans y z x (lec _ _ h2) (by omega);have b2:=h.NE y x;have b3:=lec _ _ h1;have b4:c x y=0:=by omega
  have e1:=h.trans z x y (by omega) (lec _ _ h1);have e2:=h.NE z y;have e3:=lec _ _ h2;have e4:c y z=0:=by omega
  unfold QO at h1 h2 ⊢;rw [if_pos b4] at h1;rw [if_pos e4] at h2;rw [if_pos hz];exact g.trans x y z h1 h2
 ·unfold QO;rw [if_neg hz];exact a1
theorem Sj: ∀ a b:List UInt8,Y3 b a= -(Y3 a b)
 | [],[]=>rfl
 | [],_ ::_=>rfl
 | _ ::_,[]=>rfl
 | a ::l,b ::m=>by
  have h:=Sj l m;unfold Y3 at h ⊢;unfold Lib.compareBytes;simp only [UInt8.lt_iff_toNat_lt];by_cases h1:a.toNat<b.toNat
  ·rw [if_pos h1,if_neg (by omega),if_pos h1];rfl
  ·by_cases h2:b.toNat<a.toNat
   ·rw [if_pos h2,if_neg h1,if_pos h2]
   ·rw [if_neg h2,if_neg h1,if_neg h1,if_neg h2,h]
theorem Sn: ∀ a b d:List UInt8,Y3 a b≤0→Y3 b d≤0→Y3 a d≤0
 | [],_,[],_,_=>by simp [Y3,Lib.compareBytes]
 | [],_,_ ::_,_,_=>by simp [Y3,Lib.compareBytes]
 | _ ::_,[],_,h,_=>by simp [Y3,Lib.compareBytes] at h
 | _ ::_,_ ::_,[],_,h=>by simp [Y3,Lib.compareBytes] at h
 | a ::l,b ::m,d ::n,h1,h2=>by
  have ih:=Sn l m n;unfold Y3 at ih h1 h2 ⊢;unfold Lib.compareBytes at h1 h2 ⊢;simp only [UInt8.lt_iff_toNat_lt] at*;by_cases x1:a.toNat<b.toNat
  ·by_cases x2:b.toNat<d.toNat
   ·rw [if_pos (by omega)];omega
   ·rw [if_neg x2] at h2;by_cases x3:d.toNat<b.toNat
    ·rw [if_pos x3] at h2;omega
    ·rw [if_pos (by omega)];omega
  ·rw [if_neg x1] at h1;by_cases x3:b.toNat<a.toNat
   ·rw [if_pos x3] at h1;omega
   ·rw [if_neg x3] at h1;by_cases x2:b.toNat<d.toNat
    ·rw [if_pos (by omega)];omega
    ·rw [if_neg x2] at h2;by_cases x4:d.toNat<b.toNat
     ·rw [if_pos x4] at h2;omega
     ·rw [if_neg x4] at h2;rw [if_neg (by omega),if_neg (by omega)];exact ih h1 h2
theorem XI:UM Y3:=⟨Sj,Sn⟩
theorem RZ:UM Lib.compareInt:=by
 refine⟨fun a b=> ?_,fun a b d h1 h2=> ?_⟩
 ·unfold Lib.compareInt;split <;> split <;>(try split) <;> omega
 ·unfold Lib.compareInt at*;split at h1 <;> split at h2 <;> split <;>(try split) <;>(try split at h1) <;>(try split at h2) <;> omega
theorem KU:UM WJ:=XI.S6 Sc.name
theorem Lk:UM (fun x y:Yw=>WR x.1 y.1):=XI.S6 fun x:Yw=>x.1.name
theorem LC:UM (fun x y:Za=>Xn x.1 y.1):=(XI.S6 fun x:Za=>x.1.Z8).Jn (XI.S6 fun x:Za=>x.1.name)
theorem LN:UM TV:=(XI.S6 Gr.Z8).Jn ((XI.S6 Gr.ZX).Jn ((RZ.S6 Gr.right).Jn ((XI.S6 Gr.ZM).Jn (XI.S6 Gr.to))))
theorem Mu (a b:Sc)(w:World):
  Calls Tryz.prog 196 #[.agg (a.cs).toArray,.agg (b.cs).toArray] w fun e w'=>e= .returned (.int .i64 (WJ a b))∧WT w w':=by
 unfold WJ Sc.cs;have h:=fun W=>XS a.name b.name W
 generalize Y3 a.name b.name=r at h ⊢;go_enter Tryz.func196,Tryz.ntmps196
 go_wp2_with fail;refine(h _).mono ?_
 rintro e w' ⟨rfl,rfl⟩;go_wp2;go_ret;exact⟨rfl,(WT.alloc _ _).trans (WT.alloc _ _)⟩
theorem LQ (a b:Ru)(A:Option Addr)(n:Nat)(B:Option Addr)(m:Nat)(w:World):
  Calls Tryz.prog 213 #[.agg (a.cs A n).toArray,.agg (b.cs B m).toArray] w fun e w'=>e= .returned (.int .i64 (WR a b))∧WT w w':=by
 unfold WR Ru.cs;have h:=fun W=>XS a.name b.name W
 generalize Y3 a.name b.name=r at h ⊢;go_enter Tryz.func213,Tryz.ntmps213
 go_wp2_with fail;refine(h _).mono ?_
 rintro e w' ⟨rfl,rfl⟩;go_wp2;go_ret;exact⟨rfl,(WT.alloc _ _).trans (WT.alloc _ _)⟩
structure VZ (w w':World) (v:Value):Prop where
 size:w.heap.size≤w'.heap.size
 block: ∀ k,k<w.heap.size→v.ownBlock≠some k→w'.heap[k]?=w.heap[k]?
section
variable {α : Type} [Inhabited α] {enc : α → List Value} {k : Nat}
theorem RC (hk: ∀ x,(enc x).length=k)(d:Array α):(flatK enc k d).toList=d.toList.flatMap enc:=by
 apply List.ext_getElem?
 intro i;by_cases hi:i<d.size*k
 ·have hk0:0<k:=by
   rcases Nat.eq_zero_or_pos k with h | h
   ·subst h;simp at hi
   ·exact h
  have hj:i / k<d.toList.length:=by rw [Array.length_toList];exact Nat.div_lt_of_lt_mul (by rwa [Nat.mul_comm])
  have hm:=Nat.mod_lt i hk0;have h1:=Zi hk d.toList (i / k) (i % k) hj hm;rw [show i / k*k+i % k=i from by rw [Nat.mul_comm];exact Nat.div_add_mod i k] at h1;rw [h1,Array.getElem?_toList,Array.getElem?_eq_getElem (by rw [size_flatK];exact hi)];have h2:=get_flatK enc k d i hi;rw [getElem!_pos _ i (by rw [size_flatK];exact hi),getElem!_pos d (i / k) (by simpa using hj),getElem!_pos _ (i % k) (by rw [hk];exact hm)] at h2;rw [h2,List.getElem?_eq_getElem (by rw [hk];exact hm)];simp only [Array.getElem_toList]
 ·rw [List.getElem?_eq_none (by rw [Array.length_toList,size_flatK];omega),List.getElem?_eq_none (by rw [Zo hk,Array.length_toList];omega)]
theorem UC (hk: ∀ x,(enc x).length=k){w:World}{base g n c:Nat}{T:TypeId}{l:List α}(h:w.ownsRow base T k (.slice (some ⟨g,0,none⟩) n c) n (l.flatMap enc)):HoldsK enc k w g 0 l.toArray:=by
 intro j hj;rw [size_flatK] at hj;obtain⟨_,_,_,h4,h5⟩:=ZL h;have hl:=RC hk l.toArray;have hs:j< (flatK enc k l.toArray).size:=by rw [size_flatK];exact hj
 refine⟨?_,by rw [Nat.zero_add];exact h4 j⟩
 rw [Nat.zero_add];refine h5 j _ ?_
 rw [getElem!_pos _ j hs];have:(l.flatMap enc)=(flatK enc k l.toArray).toList:=by rw [hl]
 rw [this,Array.getElem?_toList,Array.getElem?_eq_getElem hs];rfl
theorem Vg (hk: ∀ x,(enc x).length=k){w:World}{base g n c m:Nat}{T:TypeId}{l:List α}(h:w.ownsRow base T k (.slice (some ⟨g,0,none⟩) n c) n (l.flatMap enc))(hn:n=l.length)(d':Array α)(hd:d'.size=l.length)(os:Array Obj):
  (sortWorldK enc k w g 0 m d' os).ownsRow base T k (.slice (some ⟨g,0,none⟩) n c) n (d'.toList.flatMap enc)∧Below base w (sortWorldK enc k w g 0 m d' os)∧ZS [T] w (sortWorldK enc k w g 0 m d' os)∧VZ w (sortWorldK enc k w g 0 m d' os) (.slice (some ⟨g,0,none⟩) n c):=by
 obtain⟨hb,hg,ht,_,_⟩:=ZL h;have hF:=RC hk d';have hsz:(flatK enc k d').size=n*k:=by rw [size_flatK,hd,hn]
 have Xo: ∀ j,j<w.heap.size→j≠g→(sortWorldK enc k w g 0 m d' os).heap[j]?=w.heap[j]?:=fun j hj hne=>by
  show (((putRow id (Sort.ahead w m) g 0 (flatK enc k d')).heap ++os))[j]?=_
  rw [Array.getElem?_append_left (by rw [size_putRow];exact hj)];show (w.heap.modify g _)[j]?=_
  rw [Array.getElem?_modify,if_neg (fun e=>hne e.symm)]
 have hsize:w.heap.size≤(sortWorldK enc k w g 0 m d' os).heap.size:=by
  show _≤(((putRow id (Sort.ahead w m) g 0 (flatK enc k d')).heap ++os)).size
  rw [Array.size_append,size_putRow];exact Nat.le_add_right _ _
 refine⟨?_,⟨rfl,rfl,rfl,hsize,fun j hj=>Xo j (by omega) (by omega)⟩,⟨hsize,fun j t hj hn=>Xo j hj.lt (fun e=>hn (by rw [e] at hj;rw [hj.same ht];simp))⟩,⟨hsize,fun j hj hne=>Xo j hj (fun e=>hne (by rw [e];rfl))⟩⟩
 obtain⟨hl,h2⟩:=h;refine⟨by rw [Zo hk,Array.length_toList,hd,hn],?_⟩
 rcases h2 with ⟨h0,_⟩ | ⟨g',cap,cur,hv,hb',hh,h3,h4,h5,h6⟩
 ·cases h0
 ·injection hv with hv1 hv2 hv3
  injection hv1 with hv1
  injection hv1 with hv1
  subst hv1;subst hv3;refine .inr ⟨g,c,putCells id 0 (flatK enc k d') cur,rfl,hb,?_,h3,h4,by simp [putCells,h5],?_⟩
  ·show (((putRow id (Sort.ahead w m) g 0 (flatK enc k d')).heap ++os))[g]?=_
   rw [Array.getElem?_append_left (by rw [size_putRow];exact hg)];show (w.heap.modify g _)[g]?=_
   rw [Array.getElem?_modify,if_pos rfl,hh];rfl
  ·have hnk:n*k≤cur.size:=by rw [h5];exact Nat.mul_le_mul_right _ h3
   apply List.ext_getElem?
   intro i;rw [←hF,List.getElem?_take];by_cases hi:i<n*k
   ·rw [if_pos hi,Array.getElem?_toList,Array.getElem?_toList];unfold putCells;rw [Array.getElem?_mapIdx,Array.getElem?_eq_getElem (show i<cur.size by omega),Array.getElem?_eq_getElem (show i< (flatK enc k d').size by omega)];simp only [Option.map_some,Nat.zero_le,true_and,Nat.zero_add,Nat.sub_zero,id];rw [if_pos (by omega),getElem!_pos _ i (by omega)]
   ·rw [if_neg hi,List.getElem?_eq_none (by rw [Array.length_toList];omega)]
end
def MP {α:Type}(enc:α→List Value)(cf:α→α→Int)(T:TypeId)(k base:Nat)(A:Option Addr)(c:Nat)(l:List α)(w:World)(e:Ending)(w':World):Prop:=
 e= .returned (.tuple #[])∧ ∃ l':List α,l'.Perm l∧(∀ (i j:Nat) (hi:i<l'.length) (hj:j<l'.length),i<j→0≤cf l'[j] l'[i])∧w'.ownsRow base T k (.slice A l.length c) l.length (l'.flatMap enc)∧Below base w w'∧ZS [T] w w'∧VZ w w' (.slice A l.length c)
theorem Uz {α:Type} [Inhabited α]{cf:α→α→Int}{l:List α}{d':Array α}(hp:PermIn 0 l.toArray.size l.toArray d')(hs:SortedIn (ltOf cf) 0 l.toArray.size d'):
  d'.size=l.length∧d'.toList.Perm l∧ ∀ (i j:Nat) (hi:i<d'.toList.length) (hj:j<d'.toList.length),i<j→0≤cf d'.toList[j] d'.toList[i]:=by
 obtain⟨h1,_,h3⟩:=hp;have hsz:d'.size=l.length:=by simpa using h1
 refine⟨hsz,?_,fun i j hi hj hij=> ?_⟩
 ·have e1:d'.extract 0 l.toArray.size=d':=by
   rw [←h1];exact Array.extract_size
  have e2:l.toArray.extract 0 l.toArray.size=l.toArray:=Array.extract_size;rw [e1,e2] at h3;simpa using h3
 ·have hi':i<d'.size:=by simpa using hi
  have hj':j<d'.size:=by simpa using hj
  have h:=hs i j (Nat.zero_le _) hij (by rw [←h1];exact hj');rw [getElem!_pos d' i hi',getElem!_pos d' j hj'] at h;unfold ltOf at h;simp only [decide_eq_false_iff_not] at h;rw [Array.getElem_toList,Array.getElem_toList];omega
shelf_lay_g SlLaysF0.n6 Slsf 6 at Tryz 195 as Tryz.sortSchema
theorem OV (base:Nat)(l:List Sc)(A:Option Addr)(c:Nat)(w:World)(h:w.ownsRow base 89 2 (.slice A l.length c) l.length (l.flatMap Sc.cs))(h0:0<l.length)(hl:l.length≤1099511627776):
  Calls Tryz.prog 195 #[.slice A l.length c,.func (.func 196) #[] #[]] w (MP Sc.cs WJ 89 2 base A c l w):=by
 ·obtain⟨g,rfl⟩: ∃ g,A=some ⟨g,0,none⟩:=by
   obtain⟨g,cap,hv,_,_⟩:=h.form h0;exact⟨g,by injection hv⟩
  have eg: ∀ args w,(callFunc 196 args).run Tryz.prog w= .ok (.enter 196 args) w:=enters_of Tryz.func196 (by kernel_rfl) rfl;have hcl:CmpLays Tryz.prog 196 #[] Sc.cs 2 WJ g 0 l.toArray.size w:=fun m os dk _ x y=>(Mu x y _).mono fun e w' ⟨he,hm⟩=>⟨he,hm.grown⟩
  have hcon:=AnyQ.slices_SortFunc Tryz.sortSchema 2 (fun w=>by kernel_rfl) (fun w=>by kernel_rfl) Sc.cs Sc.k Sc.one WJ (KU.swo) 196 #[] g 0 c l.toArray w eg hcl (UC Sc.k h) (ZL h).2.1 (by simp;omega);change Calls Tryz.prog 195 _ _ _ at hcon
  refine hcon.mono ?_
  rintro e w' ⟨rfl,d',m,os,hp,hs,rfl⟩;obtain⟨h1,h2,h3⟩:=Uz hp hs;obtain⟨h4,h5,h6,h7⟩:=Vg (m:=m) Sc.k h rfl d' h1 os;exact⟨rfl,d'.toList,h2,h3,h4,h5,h6,h7⟩
shelf_lay_g SlLaysF0.n6 Slsf 6 at Tryz 212 as Tryz.sortRule
theorem Qj (base:Nat)(l:List Yw)(A:Option Addr)(c:Nat)(w:World)(h:w.ownsRow base 40 8 (.slice A l.length c) l.length (l.flatMap Yw.cs))(h0:0<l.length)(hl:l.length≤1099511627776):
  Calls Tryz.prog 212 #[.slice A l.length c,.func (.func 213) #[] #[]] w (MP Yw.cs (fun x y:Yw=>WR x.1 y.1) 40 8 base A c l w):=by
 ·obtain⟨g,rfl⟩: ∃ g,A=some ⟨g,0,none⟩:=by
   obtain⟨g,cap,hv,_,_⟩:=h.form h0;exact⟨g,by injection hv⟩
  have eg: ∀ args w,(callFunc 213 args).run Tryz.prog w= .ok (.enter 213 args) w:=enters_of Tryz.func213 (by kernel_rfl) rfl;have hcl:CmpLays Tryz.prog 213 #[] Yw.cs 8 (fun x y:Yw=>WR x.1 y.1) g 0 l.toArray.size w:=fun m os dk _ x y=>(LQ x.1 y.1 x.2.1 x.2.2 y.2.1 y.2.2 _).mono fun e w' ⟨he,hm⟩=>⟨he,hm.grown⟩
  have hcon:=AnyQ.slices_SortFunc Tryz.sortRule 8 (fun w=>by kernel_rfl) (fun w=>by kernel_rfl) Yw.cs Yw.k Yw.one (fun x y:Yw=>WR x.1 y.1) (Lk.swo) 213 #[] g 0 c l.toArray w eg hcl (UC Yw.k h) (ZL h).2.1 (by simp;omega);change Calls Tryz.prog 212 _ _ _ at hcon
  refine hcon.mono ?_
  rintro e w' ⟨rfl,d',m,os,hp,hs,rfl⟩;obtain⟨h1,h2,h3⟩:=Uz hp hs;obtain⟨h4,h5,h6,h7⟩:=Vg (m:=m) Yw.k h rfl d' h1 os;exact⟨rfl,d'.toList,h2,h3,h4,h5,h6,h7⟩
shelf_lay_g SlLaysF0.n6 Slsf 6 at Tryz 200 as Tryz.sortTable
theorem Nd (base:Nat)(l:List Za)(A:Option Addr)(c:Nat)(w:World)(h:w.ownsRow base 73 5 (.slice A l.length c) l.length (l.flatMap Za.cs))(h0:0<l.length)(hl:l.length≤1099511627776):
  Calls Tryz.prog 200 #[.slice A l.length c,.func (.func 104) #[] #[]] w (MP Za.cs (fun x y:Za=>Xn x.1 y.1) 73 5 base A c l w):=by
 ·obtain⟨g,rfl⟩: ∃ g,A=some ⟨g,0,none⟩:=by
   obtain⟨g,cap,hv,_,_⟩:=h.form h0;exact⟨g,by injection hv⟩
  have eg: ∀ args w,(callFunc 104 args).run Tryz.prog w= .ok (.enter 104 args) w:=enters_of Tryz.func104 (by kernel_rfl) rfl;have hcl:CmpLays Tryz.prog 104 #[] Za.cs 5 (fun x y:Za=>Xn x.1 y.1) g 0 l.toArray.size w:=fun m os dk _ x y=>(Oe x.1 y.1 x.2.1 x.2.2.1 x.2.2.2.1 x.2.2.2.2 y.2.1 y.2.2.1 y.2.2.2.1 y.2.2.2.2 _).mono fun e w' ⟨he,hm⟩=>⟨he,hm.grown⟩
  have hcon:=AnyQ.slices_SortFunc Tryz.sortTable 5 (fun w=>by kernel_rfl) (fun w=>by kernel_rfl) Za.cs Za.k Za.one (fun x y:Za=>Xn x.1 y.1) (LC.swo) 104 #[] g 0 c l.toArray w eg hcl (UC Za.k h) (ZL h).2.1 (by simp;omega);change Calls Tryz.prog 200 _ _ _ at hcon
  refine hcon.mono ?_
  rintro e w' ⟨rfl,d',m,os,hp,hs,rfl⟩;obtain⟨h1,h2,h3⟩:=Uz hp hs;obtain⟨h4,h5,h6,h7⟩:=Vg (m:=m) Za.k h rfl d' h1 os;exact⟨rfl,d'.toList,h2,h3,h4,h5,h6,h7⟩
shelf_lay_g SlLaysF0.n6 Slsf 6 at Tryz 89 as Tryz.sortGrant
theorem Nb (base:Nat)(l:List Gr)(A:Option Addr)(c:Nat)(w:World)(h:w.ownsRow base 53 6 (.slice A l.length c) l.length (l.flatMap Gr.cs))(h0:0<l.length)(hl:l.length≤1099511627776):
  Calls Tryz.prog 89 #[.slice A l.length c,.func (.func 90) #[] #[]] w (MP Gr.cs TV 53 6 base A c l w):=by
 ·obtain⟨g,rfl⟩: ∃ g,A=some ⟨g,0,none⟩:=by
   obtain⟨g,cap,hv,_,_⟩:=h.form h0;exact⟨g,by injection hv⟩
  have eg: ∀ args w,(callFunc 90 args).run Tryz.prog w= .ok (.enter 90 args) w:=enters_of Tryz.func90 (by kernel_rfl) rfl;have hcl:CmpLays Tryz.prog 90 #[] Gr.cs 6 TV g 0 l.toArray.size w:=fun m os dk _ x y=>(Tt x y _).mono fun e w' ⟨he,hm⟩=>⟨he,hm.grown⟩
  have hcon:=AnyQ.slices_SortFunc Tryz.sortGrant 6 (fun w=>by kernel_rfl) (fun w=>by kernel_rfl) Gr.cs Gr.k Gr.one TV (LN.swo) 90 #[] g 0 c l.toArray w eg hcl (UC Gr.k h) (ZL h).2.1 (by simp;omega);change Calls Tryz.prog 89 _ _ _ at hcon
  refine hcon.mono ?_
  rintro e w' ⟨rfl,d',m,os,hp,hs,rfl⟩;obtain⟨h1,h2,h3⟩:=Uz hp hs;obtain⟨h4,h5,h6,h7⟩:=Vg (m:=m) Gr.k h rfl d' h1 os;exact⟨rfl,d'.toList,h2,h3,h4,h5,h6,h7⟩
end Go.Proofs.YtnhmoibjlakhjaaGreat
