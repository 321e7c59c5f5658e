/- Lemmas of the proof. No condition but each theorem's own. -/
import Derived.Test.YtnhmoibjlakhjaaGreatM21
import Derived.Shelf.SlSortCmp.WholeK
import Derived.Ground.SlsfProg
set_option linter.unusedVariables false
set_option linter.unusedSimpArgs false
namespace Go.Proofs.YtnhmoibjlakhjaaGreat
set_option maxRecDepth 100000
set_option maxHeartbeats 16000000
open Go.RowKit Go.Shelf Go.Sort Go.Lib
structure UW {α:Type} (c:α→α→Int):Prop where
 M5: ∀ a b,c b a= -(c a b)
 trans: ∀ a b d,c a b≤0→c b d≤0→c a d≤0
theorem UW.swo {α:Type}{c:α→α→Int}(h:UW c):SWO (ltOf c) where
 irrefl x:=by
  have:=h.M5 x x;unfold ltOf;simp
  omega
 trans x y z h1 h2:=by
  unfold ltOf at*;simp only [decide_eq_true_eq] at*;have a1:=h.trans x y z (by omega) (by omega);rcases Int.lt_or_eq_of_le a1 with a2 | a2
  ·exact a2
  ·have a3:=h.M5 x z;have a4:=h.trans z x y (by omega) (by omega);have a5:=h.M5 y z;omega
 ntrans x y z h1 h2:=by
  unfold ltOf at*;simp only [decide_eq_false_iff_not] at*;have a1:=h.M5 x y;have a2:=h.M5 y z;have a3:=h.trans z y x (by omega) (by omega);have a4:=h.M5 x z;omega
theorem UW.Tf {α β:Type}{c:β→β→Int}(h:UW c)(f:α→β):UW fun x y=>c (f x) (f y):=⟨fun a b=>h.M5 _ _,fun a b d=>h.trans _ _ _⟩
theorem JX (a b:Int):QK (-a) (-b)= -(QK a b):=by
 unfold QK;by_cases h:a=0
 ·rw [if_pos h,if_pos (by omega)]
 ·rw [if_neg h,if_neg (by omega)]
theorem UW.Js {α:Type}{c d:α→α→Int}(h:UW c)(g:UW d):UW fun x y=>QK (c x y) (d x y):=by
 refine⟨fun a b=>by show QK (c b a) (d b a)=_;rw [h.M5 a b,g.M5 a b,JX],fun x y z h1 h2=> ?_⟩
 have lec: ∀ a b:Int,QK a b≤0→a≤0:=fun a b hab=>by
  unfold QK at hab;split at hab <;> omega
 have a1:=h.trans x y z (lec _ _ h1) (lec _ _ h2);show QK (c x z) (d x z)≤0
 by_cases hz:c x z=0
 ·have a2:=h.M5 x z;have b1:=h.trans y z x (lec _ _ h2) (by omega);have b2:=h.M5 y x;have b3:=lec _ _ h1;have b4:c x y=0:=by omega
  have e1:=h.trans z x y (by omega) (lec _ _ h1);have e2:=h.M5 z y;have e3:=lec _ _ h2;have e4:c y z=0:=by omega
  unfold QK at h1 h2 ⊢;rw [if_pos b4] at h1;rw [if_pos e4] at h2;rw [if_pos hz];exact g.trans x y z h1 h2
 ·unfold QK;rw [if_neg hz];exact a1
theorem Se: ∀ a b:List UInt8,Y3 b a= -(Y3 a b)
 | [],[]=>rfl
 | [],_ ::_=>rfl
 | _ ::_,[]=>rfl
 | a ::l,b ::m=>by
  have h:=Se l m;unfold Y3 at h ⊢;unfold Lib.compareBytes;simp only [UInt8.lt_iff_toNat_lt];by_cases h1:a.toNat<b.toNat
  ·rw [if_pos h1,if_neg (by omega),if_pos h1];rfl
  ·by_cases h2:b.toNat<a.toNat
   ·rw [if_pos h2,if_neg h1,if_pos h2]
   ·rw [if_neg h2,if_neg h1,if_neg h1,if_neg h2,h]
theorem Sd: ∀ a b d:List UInt8,Y3 a b≤0→Y3 b d≤0→Y3 a d≤0
 | [],_,[],_,_=>by simp [Y3,Lib.compareBytes]
 | [],_,_ ::_,_,_=>by simp [Y3,Lib.compareBytes]
 | _ ::_,[],_,h,_=>by simp [Y3,Lib.compareBytes] at h
 | _ ::_,_ ::_,[],_,h=>by simp [Y3,Lib.compareBytes] at h
 | a ::l,b ::m,d ::n,h1,h2=>by
  have ih:=Sd l m n;unfold Y3 at ih h1 h2 ⊢;unfold Lib.compareBytes at h1 h2 ⊢;simp only [UInt8.lt_iff_toNat_lt] at*;by_cases x1:a.toNat<b.toNat
  ·by_cases x2:b.toNat<d.toNat
   ·rw [if_pos (by omega)];omega
   ·rw [if_neg x2] at h2;by_cases x3:d.toNat<b.toNat
    ·rw [if_pos x3] at h2;omega
    ·rw [if_pos (by omega)];omega
  ·rw [if_neg x1] at h1;by_cases x3:b.toNat<a.toNat
   ·rw [if_pos x3] at h1;omega
   ·rw [if_neg x3] at h1;by_cases x2:b.toNat<d.toNat
    ·rw [if_pos (by omega)];omega
    ·rw [if_neg x2] at h2;by_cases x4:d.toNat<b.toNat
     ·rw [if_pos x4] at h2;omega
     ·rw [if_neg x4] at h2;rw [if_neg (by omega),if_neg (by omega)];exact ih h1 h2
theorem XK:UW Y3:=⟨Se,Sd⟩
theorem RZ:UW Lib.compareInt:=by
 refine⟨fun a b=> ?_,fun a b d h1 h2=> ?_⟩
 ·unfold Lib.compareInt;split <;> split <;>(try split) <;> omega
 ·unfold Lib.compareInt at*;split at h1 <;> split at h2 <;> split <;>(try split) <;>(try split at h1) <;>(try split at h2) <;> omega
theorem KN:UW WM:=XK.Tf Sc.name
theorem KY:UW (fun x y:Yx=>WO x.1 y.1):=XK.Tf fun x:Yx=>x.1.name
theorem KF:UW (fun x y:Za=>Xn x.1 y.1):=(XK.Tf fun x:Za=>x.1.Z8).Js (XK.Tf fun x:Za=>x.1.name)
theorem Ln:UW TG:=(XK.Tf Gr.Z8).Js ((XK.Tf Gr.ZX).Js ((RZ.Tf Gr.right).Js ((XK.Tf Gr.ZM).Js (XK.Tf Gr.to))))
theorem LT (a b:Sc)(w:World):
  Calls Tryz.prog 196 #[.agg (a.cs).toArray,.agg (b.cs).toArray] w fun e w'=>e= .returned (.int .i64 (WM a b))∧WT w w':=by
 unfold WM Sc.cs;have h:=fun W=>XP a.name b.name W
 generalize Y3 a.name b.name=r at h ⊢;go_enter Tryz.func196,Tryz.ntmps196
 go_wp2_with fail;refine(h _).mono ?_
 rintro e w' ⟨rfl,rfl⟩;go_wp2;go_ret;exact⟨rfl,(WT.alloc _ _).trans (WT.alloc _ _)⟩
theorem LZ (a b:Ru)(A:Option Addr)(n:Nat)(B:Option Addr)(m:Nat)(w:World):
  Calls Tryz.prog 213 #[.agg (a.cs A n).toArray,.agg (b.cs B m).toArray] w fun e w'=>e= .returned (.int .i64 (WO a b))∧WT w w':=by
 unfold WO Ru.cs;have h:=fun W=>XP a.name b.name W
 generalize Y3 a.name b.name=r at h ⊢;go_enter Tryz.func213,Tryz.ntmps213
 go_wp2_with fail;refine(h _).mono ?_
 rintro e w' ⟨rfl,rfl⟩;go_wp2;go_ret;exact⟨rfl,(WT.alloc _ _).trans (WT.alloc _ _)⟩
structure Wd (w w':World) (v:Value):Prop where
 size:w.heap.size≤w'.heap.size
 block: ∀ k,k<w.heap.size→v.ownBlock≠some k→w'.heap[k]?=w.heap[k]?
section
variable {α : Type} [Inhabited α] {enc : α → List Value} {k : Nat}
theorem RP (hk: ∀ x,(enc x).length=k)(d:Array α):(flatK enc k d).toList=d.toList.flatMap enc:=by
 apply List.ext_getElem?
 intro i;by_cases hi:i<d.size*k
 ·have hk0:0<k:=by
   rcases Nat.eq_zero_or_pos k with h | h
   ·subst h;simp at hi
   ·exact h
  have hj:i / k<d.toList.length:=by rw [Array.length_toList];exact Nat.div_lt_of_lt_mul (by rwa [Nat.mul_comm])
  have hm:=Nat.mod_lt i hk0;have h1:=Zi hk d.toList (i / k) (i % k) hj hm;rw [show i / k*k+i % k=i from by rw [Nat.mul_comm];exact Nat.div_add_mod i k] at h1;rw [h1,Array.getElem?_toList,Array.getElem?_eq_getElem (by rw [size_flatK];exact hi)];have h2:=get_flatK enc k d i hi;rw [getElem!_pos _ i (by rw [size_flatK];exact hi),getElem!_pos d (i / k) (by simpa using hj),getElem!_pos _ (i % k) (by rw [hk];exact hm)] at h2;rw [h2,List.getElem?_eq_getElem (by rw [hk];exact hm)];simp only [Array.getElem_toList]
 ·rw [List.getElem?_eq_none (by rw [Array.length_toList,size_flatK];omega),List.getElem?_eq_none (by rw [Zp hk,Array.length_toList];omega)]
theorem UB (hk: ∀ x,(enc x).length=k){w:World}{base g n c:Nat}{T:TypeId}{l:List α}(h:w.ownsRow base T k (.slice (some ⟨g,0,none⟩) n c) n (l.flatMap enc)):HoldsK enc k w g 0 l.toArray:=by
 intro j hj;rw [size_flatK] at hj;obtain⟨_,_,_,h4,h5⟩:=ZL h;have hl:=RP hk l.toArray;have hs:j< (flatK enc k l.toArray).size:=by rw [size_flatK];exact hj
 refine⟨?_,by rw [Nat.zero_add];exact h4 j⟩
 rw [Nat.zero_add];refine h5 j _ ?_
 rw [getElem!_pos _ j hs];have:(l.flatMap enc)=(flatK enc k l.toArray).toList:=by rw [hl]
 rw [this,Array.getElem?_toList,Array.getElem?_eq_getElem hs];rfl
theorem U8 (hk: ∀ x,(enc x).length=k){w:World}{base g n c m:Nat}{T:TypeId}{l:List α}(h:w.ownsRow base T k (.slice (some ⟨g,0,none⟩) n c) n (l.flatMap enc))(hn:n=l.length)(d':Array α)(hd:d'.size=l.length)(os:Array Obj):
  (sortWorldK enc k w g 0 m d' os).ownsRow base T k (.slice (some ⟨g,0,none⟩) n c) n (d'.toList.flatMap enc)∧Below base w (sortWorldK enc k w g 0 m d' os)∧ZS [T] w (sortWorldK enc k w g 0 m d' os)∧Wd w (sortWorldK enc k w g 0 m d' os) (.slice (some ⟨g,0,none⟩) n c):=by
 obtain⟨hb,hg,ht,_,_⟩:=ZL h;have hF:=RP hk d';have hsz:(flatK enc k d').size=n*k:=by rw [size_flatK,hd,hn]
 have Xo: ∀ j,j<w.heap.size→j≠g→(sortWorldK enc k w g 0 m d' os).heap[j]?=w.heap[j]?:=fun j hj hne=>by
  show (((putRow id (Sort.ahead w m) g 0 (flatK enc k d')).heap ++os))[j]?=_
  rw [Array.getElem?_append_left (by rw [size_putRow];exact hj)];show (w.heap.modify g _)[j]?=_
  rw [Array.getElem?_modify,if_neg (fun e=>hne e.symm)]
 have hsize:w.heap.size≤(sortWorldK enc k w g 0 m d' os).heap.size:=by
  show _≤(((putRow id (Sort.ahead w m) g 0 (flatK enc k d')).heap ++os)).size
  rw [Array.size_append,size_putRow];exact Nat.le_add_right _ _
 refine⟨?_,⟨rfl,rfl,rfl,hsize,fun j hj=>Xo j (by omega) (by omega)⟩,⟨hsize,fun j t hj hn=>Xo j hj.lt (fun e=>hn (by rw [e] at hj;rw [hj.same ht];simp))⟩,⟨hsize,fun j hj hne=>Xo j hj (fun e=>hne (by rw [e];rfl))⟩⟩
 obtain⟨hl,h2⟩:=h;refine⟨by rw [Zp hk,Array.length_toList,hd,hn],?_⟩
 rcases h2 with ⟨h0,_⟩ | ⟨g',cap,cur,hv,hb',hh,h3,h4,h5,h6⟩
 ·cases h0
 ·injection hv with hv1 hv2 hv3
  injection hv1 with hv1
  injection hv1 with hv1
  subst hv1;subst hv3;refine .inr ⟨g,c,putCells id 0 (flatK enc k d') cur,rfl,hb,?_,h3,h4,by simp [putCells,h5],?_⟩
  ·show (((putRow id (Sort.ahead w m) g 0 (flatK enc k d')).heap ++os))[g]?=_
   rw [Array.getElem?_append_left (by rw [size_putRow];exact hg)];show (w.heap.modify g _)[g]?=_
   rw [Array.getElem?_modify,if_pos rfl,hh];rfl
  ·have hnk:n*k≤cur.size:=by rw [h5];exact Nat.mul_le_mul_right _ h3
   apply List.ext_getElem?
   intro i;rw [←hF,List.getElem?_take];by_cases hi:i<n*k
   ·rw [if_pos hi,Array.getElem?_toList,Array.getElem?_toList];unfold putCells;rw [Array.getElem?_mapIdx,Array.getElem?_eq_getElem (show i<cur.size by omega),Array.getElem?_eq_getElem (show i< (flatK enc k d').size by omega)];simp only [Option.map_some,Nat.zero_le,true_and,Nat.zero_add,Nat.sub_zero,id];rw [if_pos (by omega),getElem!_pos _ i (by omega)]
   ·rw [if_neg hi,List.getElem?_eq_none (by rw [Array.length_toList];omega)]
end
def MP {α:Type}(enc:α→List Value)(cf:α→α→Int)(T:TypeId)(k base:Nat)(A:Option Addr)(c:Nat)(l:List α)(w:World)(e:Ending)(w':World):Prop:=
 e= .returned (.tuple #[])∧ ∃ l':List α,l'.Perm l∧(∀ (i j:Nat) (hi:i<l'.length) (hj:j<l'.length),i<j→0≤cf l'[j] l'[i])∧w'.ownsRow base T k (.slice A l.length c) l.length (l'.flatMap enc)∧Below base w w'∧ZS [T] w w'∧Wd w w' (.slice A l.length c)
theorem Uy {α:Type} [Inhabited α]{cf:α→α→Int}{l:List α}{d':Array α}(hp:PermIn 0 l.toArray.size l.toArray d')(hs:SortedIn (ltOf cf) 0 l.toArray.size d'):
  d'.size=l.length∧d'.toList.Perm l∧ ∀ (i j:Nat) (hi:i<d'.toList.length) (hj:j<d'.toList.length),i<j→0≤cf d'.toList[j] d'.toList[i]:=by
 obtain⟨h1,_,h3⟩:=hp;have hsz:d'.size=l.length:=by simpa using h1
 refine⟨hsz,?_,fun i j hi hj hij=> ?_⟩
 ·have e1:d'.extract 0 l.toArray.size=d':=by
   rw [←h1];exact Array.extract_size
  have e2:l.toArray.extract 0 l.toArray.size=l.toArray:=Array.extract_size;rw [e1,e2] at h3;simpa using h3
 ·have hi':i<d'.size:=by simpa using hi
  have hj':j<d'.size:=by simpa using hj
  have h:=hs i j (Nat.zero_le _) hij (by rw [←h1];exact hj');rw [getElem!_pos d' i hi',getElem!_pos d' j hj'] at h;unfold ltOf at h;simp only [decide_eq_false_iff_not] at h;rw [Array.getElem_toList,Array.getElem_toList];omega
def Tryz.Rl : Go.Shelf.Ren := ⟨fun | 6 => 195 | 15 => 148 | 14 => 258 | 28 => 225 | 29 => 226 | 20 => 275 | 21 => 276 | 22 => 277 | 23 => 278 | 24 => 279 | 25 => 280 | 26 => 281 | 27 => 282 | 46 => 303 | 47 => 265 | 48 => 266 | 49 => 304 | 50 => 305 | 57 => 312 | n => n, fun | 22 => 23 | 24 => 89 | 25 => 174 | 3 => 3 | 39 => 202 | 0 => 0 | 53 => 267 | 55 => 269 | 4 => 4 | 46 => 261 | 45 => 260 | 50 => 122 | 5 => 5 | 9 => 9 | 66 => 293 | 70 => 297 | 76 => 316 | 77 => 317 | n => n, fun | n => n⟩
theorem Tryz.M9 : Go.Proofs.SlLaysF0.n6 Tryz.prog Tryz.Rl := {
 mixed := by kernel_rfl
 f6 := ⟨Tryz.f195.name, by decide, Tryz.func195.trans (congrArg some (by kernel_rfl))⟩
 f14 := ⟨Tryz.f258.name, by decide, Tryz.func258.trans (congrArg some (by kernel_rfl))⟩
 f15 := Tryz.func148.trans (congrArg some (by kernel_rfl))
 f20 := ⟨Tryz.f275.name, by decide, Tryz.func275.trans (congrArg some (by kernel_rfl))⟩
 f21 := ⟨Tryz.f276.name, by decide, Tryz.func276.trans (congrArg some (by kernel_rfl))⟩
 f22 := ⟨Tryz.f277.name, by decide, Tryz.func277.trans (congrArg some (by kernel_rfl))⟩
 f23 := ⟨Tryz.f278.name, by decide, Tryz.func278.trans (congrArg some (by kernel_rfl))⟩
 f24 := ⟨Tryz.f279.name, by decide, Tryz.func279.trans (congrArg some (by kernel_rfl))⟩
 f25 := ⟨Tryz.f280.name, by decide, Tryz.func280.trans (congrArg some (by kernel_rfl))⟩
 f26 := ⟨Tryz.f281.name, by decide, Tryz.func281.trans (congrArg some (by kernel_rfl))⟩
 f27 := ⟨Tryz.f282.name, by decide, Tryz.func282.trans (congrArg some (by kernel_rfl))⟩
 f28 := Tryz.func225.trans (congrArg some (by kernel_rfl))
 f29 := Tryz.func226.trans (congrArg some (by kernel_rfl))
 f46 := ⟨Tryz.f303.name, by decide, Tryz.func303.trans (congrArg some (by kernel_rfl))⟩
 f47 := Tryz.func265.trans (congrArg some (by kernel_rfl))
 f48 := Tryz.func266.trans (congrArg some (by kernel_rfl))
 f49 := ⟨Tryz.f304.name, by decide, Tryz.func304.trans (congrArg some (by kernel_rfl))⟩
 f50 := ⟨Tryz.f305.name, by decide, Tryz.func305.trans (congrArg some (by kernel_rfl))⟩
 f57 := ⟨Tryz.f312.name, by decide, Tryz.func312.trans (congrArg some (by kernel_rfl))⟩
 t0 := Tryz.underlying0
 a0 := Tryz.isAgg0
 z0 := Tryz.sizeOf0
 v0 := Tryz.zeroValue0
 t3 := Tryz.underlying3
 a3 := Tryz.isAgg3
 z3 := Tryz.sizeOf3
 v3 := Tryz.zeroValue3
 t4 := Tryz.underlying4
 a4 := Tryz.isAgg4
 z4 := Tryz.sizeOf4
 v4 := Tryz.zeroValue4
 t5 := Tryz.underlying5
 a5 := Tryz.isAgg5
 z5 := Tryz.sizeOf5
 v5 := Tryz.zeroValue5
 t9 := Tryz.underlying9
 a9 := Tryz.isAgg9
 z9 := Tryz.sizeOf9
 v9 := Tryz.zeroValue9
 t22 := Tryz.underlying23
 a22 := Tryz.isAgg23
 z22 := Tryz.sizeOf23
 v22 := Tryz.zeroValue23
 t25 := Tryz.underlying174
 a25 := Tryz.isAgg174
 z25 := Tryz.sizeOf174
 v25 := Tryz.zeroValue174
 t39 := Tryz.underlying202
 a39 := Tryz.isAgg202
 z39 := Tryz.sizeOf202
 v39 := Tryz.zeroValue202
 t45 := Tryz.underlying260
 a45 := Tryz.isAgg260
 z45 := Tryz.sizeOf260
 v45 := Tryz.zeroValue260
 t46 := Tryz.underlying261
 a46 := Tryz.isAgg261
 z46 := Tryz.sizeOf261
 v46 := Tryz.zeroValue261
 t50 := Tryz.underlying122
 a50 := Tryz.isAgg122
 z50 := Tryz.sizeOf122
 v50 := Tryz.zeroValue122
 t53 := Tryz.underlying267
 a53 := Tryz.isAgg267
 z53 := Tryz.sizeOf267
 v53 := Tryz.zeroValue267
 t55 := Tryz.underlying269
 a55 := Tryz.isAgg269
 z55 := Tryz.sizeOf269
 v55 := Tryz.zeroValue269
 t66 := Tryz.underlying293
 a66 := Tryz.isAgg293
 z66 := Tryz.sizeOf293
 v66 := Tryz.zeroValue293
 t70 := Tryz.underlying297
 a70 := Tryz.isAgg297
 z70 := Tryz.sizeOf297
 v70 := Tryz.zeroValue297
 t76 := Tryz.underlying316
 a76 := Tryz.isAgg316
 z76 := Tryz.sizeOf316
 v76 := Tryz.zeroValue316
 t77 := Tryz.underlying317
 a77 := Tryz.isAgg317
 z77 := Tryz.sizeOf317
 v77 := Tryz.zeroValue317 }
theorem Oa (base:Nat)(l:List Sc)(A:Option Addr)(c:Nat)(w:World)(h:w.ownsRow base 89 2 (.slice A l.length c) l.length (l.flatMap Sc.cs))(h0:0<l.length)(hl:l.length≤1099511627776):
  Calls Tryz.prog 195 #[.slice A l.length c,.func (.func 196) #[] #[]] w (MP Sc.cs WM 89 2 base A c l w):=by
 ·obtain⟨g,rfl⟩: ∃ g,A=some ⟨g,0,none⟩:=by
   obtain⟨g,cap,hv,_,_⟩:=h.form h0;exact⟨g,by injection hv⟩
  have eg: ∀ args w,(callFunc 196 args).run Tryz.prog w= .ok (.enter 196 args) w:=enters_of Tryz.func196 (by kernel_rfl) rfl;have hcl:CmpLays Tryz.prog 196 #[] Sc.cs 2 WM g 0 l.toArray.size w:=fun m os dk _ x y=>(LT x y _).mono fun e w' ⟨he,hm⟩=>⟨he,hm.grown⟩
  have hcon:=AnyQ.slices_SortFunc Tryz.M9 2 (fun w=>by kernel_rfl) (fun w=>by kernel_rfl) Sc.cs Sc.k Sc.one WM (KN.swo) 196 #[] g 0 c l.toArray w eg hcl (UB Sc.k h) (ZL h).2.1 (by simp;omega);change Calls Tryz.prog 195 _ _ _ at hcon
  refine hcon.mono ?_
  rintro e w' ⟨rfl,d',m,os,hp,hs,rfl⟩;obtain⟨h1,h2,h3⟩:=Uy hp hs;obtain⟨h4,h5,h6,h7⟩:=U8 (m:=m) Sc.k h rfl d' h1 os;exact⟨rfl,d'.toList,h2,h3,h4,h5,h6,h7⟩
def Tryz.Ph : Go.Shelf.Ren := ⟨fun | 6 => 212 | 15 => 148 | 14 => 263 | 28 => 225 | 29 => 226 | 20 => 291 | 21 => 292 | 22 => 293 | 23 => 294 | 24 => 295 | 25 => 296 | 26 => 297 | 27 => 298 | 46 => 309 | 47 => 265 | 48 => 266 | 49 => 310 | 50 => 311 | 57 => 314 | n => n, fun | 22 => 71 | 24 => 40 | 25 => 216 | 3 => 3 | 39 => 202 | 0 => 0 | 53 => 267 | 55 => 269 | 4 => 4 | 46 => 261 | 45 => 260 | 50 => 122 | 5 => 5 | 9 => 9 | 66 => 293 | 70 => 297 | 76 => 316 | 77 => 317 | n => n, fun | n => n⟩
theorem Tryz.KG : Go.Proofs.SlLaysF0.n6 Tryz.prog Tryz.Ph := {
 mixed := by kernel_rfl
 f6 := ⟨Tryz.f212.name, by decide, Tryz.func212.trans (congrArg some (by kernel_rfl))⟩
 f14 := ⟨Tryz.f263.name, by decide, Tryz.func263.trans (congrArg some (by kernel_rfl))⟩
 f15 := Tryz.func148.trans (congrArg some (by kernel_rfl))
 f20 := ⟨Tryz.f291.name, by decide, Tryz.func291.trans (congrArg some (by kernel_rfl))⟩
 f21 := ⟨Tryz.f292.name, by decide, Tryz.func292.trans (congrArg some (by kernel_rfl))⟩
 f22 := ⟨Tryz.f293.name, by decide, Tryz.func293.trans (congrArg some (by kernel_rfl))⟩
 f23 := ⟨Tryz.f294.name, by decide, Tryz.func294.trans (congrArg some (by kernel_rfl))⟩
 f24 := ⟨Tryz.f295.name, by decide, Tryz.func295.trans (congrArg some (by kernel_rfl))⟩
 f25 := ⟨Tryz.f296.name, by decide, Tryz.func296.trans (congrArg some (by kernel_rfl))⟩
 f26 := ⟨Tryz.f297.name, by decide, Tryz.func297.trans (congrArg some (by kernel_rfl))⟩
 f27 := ⟨Tryz.f298.name, by decide, Tryz.func298.trans (congrArg some (by kernel_rfl))⟩
 f28 := Tryz.func225.trans (congrArg some (by kernel_rfl))
 f29 := Tryz.func226.trans (congrArg some (by kernel_rfl))
 f46 := ⟨Tryz.f309.name, by decide, Tryz.func309.trans (congrArg some (by kernel_rfl))⟩
 f47 := Tryz.func265.trans (congrArg some (by kernel_rfl))
 f48 := Tryz.func266.trans (congrArg some (by kernel_rfl))
 f49 := ⟨Tryz.f310.name, by decide, Tryz.func310.trans (congrArg some (by kernel_rfl))⟩
 f50 := ⟨Tryz.f311.name, by decide, Tryz.func311.trans (congrArg some (by kernel_rfl))⟩
 f57 := ⟨Tryz.f314.name, by decide, Tryz.func314.trans (congrArg some (by kernel_rfl))⟩
 t0 := Tryz.underlying0
 a0 := Tryz.isAgg0
 z0 := Tryz.sizeOf0
 v0 := Tryz.zeroValue0
 t3 := Tryz.underlying3
 a3 := Tryz.isAgg3
 z3 := Tryz.sizeOf3
 v3 := Tryz.zeroValue3
 t4 := Tryz.underlying4
 a4 := Tryz.isAgg4
 z4 := Tryz.sizeOf4
 v4 := Tryz.zeroValue4
 t5 := Tryz.underlying5
 a5 := Tryz.isAgg5
 z5 := Tryz.sizeOf5
 v5 := Tryz.zeroValue5
 t9 := Tryz.underlying9
 a9 := Tryz.isAgg9
 z9 := Tryz.sizeOf9
 v9 := Tryz.zeroValue9
 t22 := Tryz.underlying71
 a22 := Tryz.isAgg71
 z22 := Tryz.sizeOf71
 v22 := Tryz.zeroValue71
 t25 := Tryz.underlying216
 a25 := Tryz.isAgg216
 z25 := Tryz.sizeOf216
 v25 := Tryz.zeroValue216
 t39 := Tryz.underlying202
 a39 := Tryz.isAgg202
 z39 := Tryz.sizeOf202
 v39 := Tryz.zeroValue202
 t45 := Tryz.underlying260
 a45 := Tryz.isAgg260
 z45 := Tryz.sizeOf260
 v45 := Tryz.zeroValue260
 t46 := Tryz.underlying261
 a46 := Tryz.isAgg261
 z46 := Tryz.sizeOf261
 v46 := Tryz.zeroValue261
 t50 := Tryz.underlying122
 a50 := Tryz.isAgg122
 z50 := Tryz.sizeOf122
 v50 := Tryz.zeroValue122
 t53 := Tryz.underlying267
 a53 := Tryz.isAgg267
 z53 := Tryz.sizeOf267
 v53 := Tryz.zeroValue267
 t55 := Tryz.underlying269
 a55 := Tryz.isAgg269
 z55 := Tryz.sizeOf269
 v55 := Tryz.zeroValue269
 t66 := Tryz.underlying293
 a66 := Tryz.isAgg293
 z66 := Tryz.sizeOf293
 v66 := Tryz.zeroValue293
 t70 := Tryz.underlying297
 a70 := Tryz.isAgg297
 z70 := Tryz.sizeOf297
 v70 := Tryz.zeroValue297
 t76 := Tryz.underlying316
 a76 := Tryz.isAgg316
 z76 := Tryz.sizeOf316
 v76 := Tryz.zeroValue316
 t77 := Tryz.underlying317
 a77 := Tryz.isAgg317
 z77 := Tryz.sizeOf317
 v77 := Tryz.zeroValue317 }
theorem PQ (base:Nat)(l:List Yx)(A:Option Addr)(c:Nat)(w:World)(h:w.ownsRow base 40 8 (.slice A l.length c) l.length (l.flatMap Yx.cs))(h0:0<l.length)(hl:l.length≤1099511627776):
  Calls Tryz.prog 212 #[.slice A l.length c,.func (.func 213) #[] #[]] w (MP Yx.cs (fun x y:Yx=>WO x.1 y.1) 40 8 base A c l w):=by
 ·obtain⟨g,rfl⟩: ∃ g,A=some ⟨g,0,none⟩:=by
   obtain⟨g,cap,hv,_,_⟩:=h.form h0;exact⟨g,by injection hv⟩
  have eg: ∀ args w,(callFunc 213 args).run Tryz.prog w= .ok (.enter 213 args) w:=enters_of Tryz.func213 (by kernel_rfl) rfl;have hcl:CmpLays Tryz.prog 213 #[] Yx.cs 8 (fun x y:Yx=>WO x.1 y.1) g 0 l.toArray.size w:=fun m os dk _ x y=>(LZ x.1 y.1 x.2.1 x.2.2 y.2.1 y.2.2 _).mono fun e w' ⟨he,hm⟩=>⟨he,hm.grown⟩
  have hcon:=AnyQ.slices_SortFunc Tryz.KG 8 (fun w=>by kernel_rfl) (fun w=>by kernel_rfl) Yx.cs Yx.k Yx.one (fun x y:Yx=>WO x.1 y.1) (KY.swo) 213 #[] g 0 c l.toArray w eg hcl (UB Yx.k h) (ZL h).2.1 (by simp;omega);change Calls Tryz.prog 212 _ _ _ at hcon
  refine hcon.mono ?_
  rintro e w' ⟨rfl,d',m,os,hp,hs,rfl⟩;obtain⟨h1,h2,h3⟩:=Uy hp hs;obtain⟨h4,h5,h6,h7⟩:=U8 (m:=m) Yx.k h rfl d' h1 os;exact⟨rfl,d'.toList,h2,h3,h4,h5,h6,h7⟩
def Tryz.QG : Go.Shelf.Ren := ⟨fun | 6 => 200 | 15 => 148 | 14 => 259 | 28 => 225 | 29 => 226 | 20 => 283 | 21 => 284 | 22 => 285 | 23 => 286 | 24 => 287 | 25 => 288 | 26 => 289 | 27 => 290 | 46 => 306 | 47 => 265 | 48 => 266 | 49 => 307 | 50 => 308 | 57 => 313 | n => n, fun | 22 => 24 | 24 => 73 | 25 => 171 | 3 => 3 | 39 => 202 | 0 => 0 | 53 => 267 | 55 => 269 | 4 => 4 | 46 => 261 | 45 => 260 | 50 => 122 | 5 => 5 | 9 => 9 | 66 => 293 | 70 => 297 | 76 => 316 | 77 => 317 | n => n, fun | n => n⟩
theorem Tryz.LN : Go.Proofs.SlLaysF0.n6 Tryz.prog Tryz.QG := {
 mixed := by kernel_rfl
 f6 := ⟨Tryz.f200.name, by decide, Tryz.func200.trans (congrArg some (by kernel_rfl))⟩
 f14 := ⟨Tryz.f259.name, by decide, Tryz.func259.trans (congrArg some (by kernel_rfl))⟩
 f15 := Tryz.func148.trans (congrArg some (by kernel_rfl))
 f20 := ⟨Tryz.f283.name, by decide, Tryz.func283.trans (congrArg some (by kernel_rfl))⟩
 f21 := ⟨Tryz.f284.name, by decide, Tryz.func284.trans (congrArg some (by kernel_rfl))⟩
 f22 := ⟨Tryz.f285.name, by decide, Tryz.func285.trans (congrArg some (by kernel_rfl))⟩
 f23 := ⟨Tryz.f286.name, by decide, Tryz.func286.trans (congrArg some (by kernel_rfl))⟩
 f24 := ⟨Tryz.f287.name, by decide, Tryz.func287.trans (congrArg some (by kernel_rfl))⟩
 f25 := ⟨Tryz.f288.name, by decide, Tryz.func288.trans (congrArg some (by kernel_rfl))⟩
 f26 := ⟨Tryz.f289.name, by decide, Tryz.func289.trans (congrArg some (by kernel_rfl))⟩
 f27 := ⟨Tryz.f290.name, by decide, Tryz.func290.trans (congrArg some (by kernel_rfl))⟩
 f28 := Tryz.func225.trans (congrArg some (by kernel_rfl))
 f29 := Tryz.func226.trans (congrArg some (by kernel_rfl))
 f46 := ⟨Tryz.f306.name, by decide, Tryz.func306.trans (congrArg some (by kernel_rfl))⟩
 f47 := Tryz.func265.trans (congrArg some (by kernel_rfl))
 f48 := Tryz.func266.trans (congrArg some (by kernel_rfl))
 f49 := ⟨Tryz.f307.name, by decide, Tryz.func307.trans (congrArg some (by kernel_rfl))⟩
 f50 := ⟨Tryz.f308.name, by decide, Tryz.func308.trans (congrArg some (by kernel_rfl))⟩
 f57 := ⟨Tryz.f313.name, by decide, Tryz.func313.trans (congrArg some (by kernel_rfl))⟩
 t0 := Tryz.underlying0
 a0 := Tryz.isAgg0
 z0 := Tryz.sizeOf0
 v0 := Tryz.zeroValue0
 t3 := Tryz.underlying3
 a3 := Tryz.isAgg3
 z3 := Tryz.sizeOf3
 v3 := Tryz.zeroValue3
 t4 := Tryz.underlying4
 a4 := Tryz.isAgg4
 z4 := Tryz.sizeOf4
 v4 := Tryz.zeroValue4
 t5 := Tryz.underlying5
 a5 := Tryz.isAgg5
 z5 := Tryz.sizeOf5
 v5 := Tryz.zeroValue5
 t9 := Tryz.underlying9
 a9 := Tryz.isAgg9
 z9 := Tryz.sizeOf9
 v9 := Tryz.zeroValue9
 t22 := Tryz.underlying24
 a22 := Tryz.isAgg24
 z22 := Tryz.sizeOf24
 v22 := Tryz.zeroValue24
 t25 := Tryz.underlying171
 a25 := Tryz.isAgg171
 z25 := Tryz.sizeOf171
 v25 := Tryz.zeroValue171
 t39 := Tryz.underlying202
 a39 := Tryz.isAgg202
 z39 := Tryz.sizeOf202
 v39 := Tryz.zeroValue202
 t45 := Tryz.underlying260
 a45 := Tryz.isAgg260
 z45 := Tryz.sizeOf260
 v45 := Tryz.zeroValue260
 t46 := Tryz.underlying261
 a46 := Tryz.isAgg261
 z46 := Tryz.sizeOf261
 v46 := Tryz.zeroValue261
 t50 := Tryz.underlying122
 a50 := Tryz.isAgg122
 z50 := Tryz.sizeOf122
 v50 := Tryz.zeroValue122
 t53 := Tryz.underlying267
 a53 := Tryz.isAgg267
 z53 := Tryz.sizeOf267
 v53 := Tryz.zeroValue267
 t55 := Tryz.underlying269
 a55 := Tryz.isAgg269
 z55 := Tryz.sizeOf269
 v55 := Tryz.zeroValue269
 t66 := Tryz.underlying293
 a66 := Tryz.isAgg293
 z66 := Tryz.sizeOf293
 v66 := Tryz.zeroValue293
 t70 := Tryz.underlying297
 a70 := Tryz.isAgg297
 z70 := Tryz.sizeOf297
 v70 := Tryz.zeroValue297
 t76 := Tryz.underlying316
 a76 := Tryz.isAgg316
 z76 := Tryz.sizeOf316
 v76 := Tryz.zeroValue316
 t77 := Tryz.underlying317
 a77 := Tryz.isAgg317
 z77 := Tryz.sizeOf317
 v77 := Tryz.zeroValue317 }
theorem M7 (base:Nat)(l:List Za)(A:Option Addr)(c:Nat)(w:World)(h:w.ownsRow base 73 5 (.slice A l.length c) l.length (l.flatMap Za.cs))(h0:0<l.length)(hl:l.length≤1099511627776):
  Calls Tryz.prog 200 #[.slice A l.length c,.func (.func 104) #[] #[]] w (MP Za.cs (fun x y:Za=>Xn x.1 y.1) 73 5 base A c l w):=by
 ·obtain⟨g,rfl⟩: ∃ g,A=some ⟨g,0,none⟩:=by
   obtain⟨g,cap,hv,_,_⟩:=h.form h0;exact⟨g,by injection hv⟩
  have eg: ∀ args w,(callFunc 104 args).run Tryz.prog w= .ok (.enter 104 args) w:=enters_of Tryz.func104 (by kernel_rfl) rfl;have hcl:CmpLays Tryz.prog 104 #[] Za.cs 5 (fun x y:Za=>Xn x.1 y.1) g 0 l.toArray.size w:=fun m os dk _ x y=>(N9 x.1 y.1 x.2.1 x.2.2.1 x.2.2.2.1 x.2.2.2.2 y.2.1 y.2.2.1 y.2.2.2.1 y.2.2.2.2 _).mono fun e w' ⟨he,hm⟩=>⟨he,hm.grown⟩
  have hcon:=AnyQ.slices_SortFunc Tryz.LN 5 (fun w=>by kernel_rfl) (fun w=>by kernel_rfl) Za.cs Za.k Za.one (fun x y:Za=>Xn x.1 y.1) (KF.swo) 104 #[] g 0 c l.toArray w eg hcl (UB Za.k h) (ZL h).2.1 (by simp;omega);change Calls Tryz.prog 200 _ _ _ at hcon
  refine hcon.mono ?_
  rintro e w' ⟨rfl,d',m,os,hp,hs,rfl⟩;obtain⟨h1,h2,h3⟩:=Uy hp hs;obtain⟨h4,h5,h6,h7⟩:=U8 (m:=m) Za.k h rfl d' h1 os;exact⟨rfl,d'.toList,h2,h3,h4,h5,h6,h7⟩
def Tryz.QH : Go.Shelf.Ren := ⟨fun | 6 => 89 | 15 => 148 | 14 => 147 | 28 => 225 | 29 => 226 | 20 => 217 | 21 => 218 | 22 => 219 | 23 => 220 | 24 => 221 | 25 => 222 | 26 => 223 | 27 => 224 | 46 => 264 | 47 => 265 | 48 => 266 | 49 => 267 | 50 => 268 | 57 => 299 | n => n, fun | 22 => 31 | 24 => 53 | 25 => 159 | 3 => 3 | 39 => 202 | 0 => 0 | 53 => 267 | 55 => 269 | 4 => 4 | 46 => 261 | 45 => 260 | 50 => 122 | 5 => 5 | 9 => 9 | 66 => 293 | 70 => 297 | 76 => 316 | 77 => 317 | n => n, fun | n => n⟩
theorem Tryz.PR : Go.Proofs.SlLaysF0.n6 Tryz.prog Tryz.QH := {
 mixed := by kernel_rfl
 f6 := ⟨Tryz.f89.name, by decide, Tryz.func89.trans (congrArg some (by kernel_rfl))⟩
 f14 := ⟨Tryz.f147.name, by decide, Tryz.func147.trans (congrArg some (by kernel_rfl))⟩
 f15 := Tryz.func148.trans (congrArg some (by kernel_rfl))
 f20 := ⟨Tryz.f217.name, by decide, Tryz.func217.trans (congrArg some (by kernel_rfl))⟩
 f21 := ⟨Tryz.f218.name, by decide, Tryz.func218.trans (congrArg some (by kernel_rfl))⟩
 f22 := ⟨Tryz.f219.name, by decide, Tryz.func219.trans (congrArg some (by kernel_rfl))⟩
 f23 := ⟨Tryz.f220.name, by decide, Tryz.func220.trans (congrArg some (by kernel_rfl))⟩
 f24 := ⟨Tryz.f221.name, by decide, Tryz.func221.trans (congrArg some (by kernel_rfl))⟩
 f25 := ⟨Tryz.f222.name, by decide, Tryz.func222.trans (congrArg some (by kernel_rfl))⟩
 f26 := ⟨Tryz.f223.name, by decide, Tryz.func223.trans (congrArg some (by kernel_rfl))⟩
 f27 := ⟨Tryz.f224.name, by decide, Tryz.func224.trans (congrArg some (by kernel_rfl))⟩
 f28 := Tryz.func225.trans (congrArg some (by kernel_rfl))
 f29 := Tryz.func226.trans (congrArg some (by kernel_rfl))
 f46 := ⟨Tryz.f264.name, by decide, Tryz.func264.trans (congrArg some (by kernel_rfl))⟩
 f47 := Tryz.func265.trans (congrArg some (by kernel_rfl))
 f48 := Tryz.func266.trans (congrArg some (by kernel_rfl))
 f49 := ⟨Tryz.f267.name, by decide, Tryz.func267.trans (congrArg some (by kernel_rfl))⟩
 f50 := ⟨Tryz.f268.name, by decide, Tryz.func268.trans (congrArg some (by kernel_rfl))⟩
 f57 := ⟨Tryz.f299.name, by decide, Tryz.func299.trans (congrArg some (by kernel_rfl))⟩
 t0 := Tryz.underlying0
 a0 := Tryz.isAgg0
 z0 := Tryz.sizeOf0
 v0 := Tryz.zeroValue0
 t3 := Tryz.underlying3
 a3 := Tryz.isAgg3
 z3 := Tryz.sizeOf3
 v3 := Tryz.zeroValue3
 t4 := Tryz.underlying4
 a4 := Tryz.isAgg4
 z4 := Tryz.sizeOf4
 v4 := Tryz.zeroValue4
 t5 := Tryz.underlying5
 a5 := Tryz.isAgg5
 z5 := Tryz.sizeOf5
 v5 := Tryz.zeroValue5
 t9 := Tryz.underlying9
 a9 := Tryz.isAgg9
 z9 := Tryz.sizeOf9
 v9 := Tryz.zeroValue9
 t22 := Tryz.underlying31
 a22 := Tryz.isAgg31
 z22 := Tryz.sizeOf31
 v22 := Tryz.zeroValue31
 t25 := Tryz.underlying159
 a25 := Tryz.isAgg159
 z25 := Tryz.sizeOf159
 v25 := Tryz.zeroValue159
 t39 := Tryz.underlying202
 a39 := Tryz.isAgg202
 z39 := Tryz.sizeOf202
 v39 := Tryz.zeroValue202
 t45 := Tryz.underlying260
 a45 := Tryz.isAgg260
 z45 := Tryz.sizeOf260
 v45 := Tryz.zeroValue260
 t46 := Tryz.underlying261
 a46 := Tryz.isAgg261
 z46 := Tryz.sizeOf261
 v46 := Tryz.zeroValue261
 t50 := Tryz.underlying122
 a50 := Tryz.isAgg122
 z50 := Tryz.sizeOf122
 v50 := Tryz.zeroValue122
 t53 := Tryz.underlying267
 a53 := Tryz.isAgg267
 z53 := Tryz.sizeOf267
 v53 := Tryz.zeroValue267
 t55 := Tryz.underlying269
 a55 := Tryz.isAgg269
 z55 := Tryz.sizeOf269
 v55 := Tryz.zeroValue269
 t66 := Tryz.underlying293
 a66 := Tryz.isAgg293
 z66 := Tryz.sizeOf293
 v66 := Tryz.zeroValue293
 t70 := Tryz.underlying297
 a70 := Tryz.isAgg297
 z70 := Tryz.sizeOf297
 v70 := Tryz.zeroValue297
 t76 := Tryz.underlying316
 a76 := Tryz.isAgg316
 z76 := Tryz.sizeOf316
 v76 := Tryz.zeroValue316
 t77 := Tryz.underlying317
 a77 := Tryz.isAgg317
 z77 := Tryz.sizeOf317
 v77 := Tryz.zeroValue317 }
theorem M8 (base:Nat)(l:List Gr)(A:Option Addr)(c:Nat)(w:World)(h:w.ownsRow base 53 6 (.slice A l.length c) l.length (l.flatMap Gr.cs))(h0:0<l.length)(hl:l.length≤1099511627776):
  Calls Tryz.prog 89 #[.slice A l.length c,.func (.func 90) #[] #[]] w (MP Gr.cs TG 53 6 base A c l w):=by
 ·obtain⟨g,rfl⟩: ∃ g,A=some ⟨g,0,none⟩:=by
   obtain⟨g,cap,hv,_,_⟩:=h.form h0;exact⟨g,by injection hv⟩
  have eg: ∀ args w,(callFunc 90 args).run Tryz.prog w= .ok (.enter 90 args) w:=enters_of Tryz.func90 (by kernel_rfl) rfl;have hcl:CmpLays Tryz.prog 90 #[] Gr.cs 6 TG g 0 l.toArray.size w:=fun m os dk _ x y=>(TF x y _).mono fun e w' ⟨he,hm⟩=>⟨he,hm.grown⟩
  have hcon:=AnyQ.slices_SortFunc Tryz.PR 6 (fun w=>by kernel_rfl) (fun w=>by kernel_rfl) Gr.cs Gr.k Gr.one TG (Ln.swo) 90 #[] g 0 c l.toArray w eg hcl (UB Gr.k h) (ZL h).2.1 (by simp;omega);change Calls Tryz.prog 89 _ _ _ at hcon
  refine hcon.mono ?_
  rintro e w' ⟨rfl,d',m,os,hp,hs,rfl⟩;obtain⟨h1,h2,h3⟩:=Uy hp hs;obtain⟨h4,h5,h6,h7⟩:=U8 (m:=m) Gr.k h rfl d' h1 os;exact⟨rfl,d'.toList,h2,h3,h4,h5,h6,h7⟩
end Go.Proofs.YtnhmoibjlakhjaaGreat
