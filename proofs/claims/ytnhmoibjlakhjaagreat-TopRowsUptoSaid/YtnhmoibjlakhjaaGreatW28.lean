/- Lemmas, each under its own conditions. -/
import Derived.Test.YtnhmoibjlakhjaaGreatW26
import Derived.WideKeyEntry
import Derived.DeepKeys4
set_option linter.all false
namespace Go.Proofs.YtnhmoibjlakhjaaGreat
open Go.Proofs.Tryz
set_option maxRecDepth 100000
set_option maxHeartbeats 16000000
open Go.RowKit Go.Maps Go.ChangeMaps Go.MapKept
section
variable {P : Program} {k t e : TypeId} {κ : Type} {kv : κ -> Value} {kl : κ -> Lit} {dom : κ -> Prop} {w w' : World} {z : Value} {b n : Nat} {f : κ -> Value}
theorem YQ.entry [DecidableEq κ](h:YQ P k kl w z b n f)(Z:Go.WideMaps.KeyLaw P k)(K:Jg P k kv kl dom)(G:P.underlying t=some (.map k e))(hz: ∀ u,(zeroValue e).run P u= .ok z u)(hn:n<maxLen){x:κ}(I:dom x):
  ∃ (v0:Value) (st:Nat) (E:World),(Instr.mapEntry t (.map (some b)) (kv x)).run P w= .ok (.tuple #[v0,goInt st]) E/\w.grownBy E (some b)/\
   ∀ (d:World) (v:Value),d.heap[b]?=E.heap[b]?-> ∃ m,(Instr.entryStore t (.map (some b)) (goInt st) v).run P d= .ok () m/\YQ P k kl m z b (n+1) (fun y=>if y=x then v else f y)/\d.grownBy m (some b):=by
 have h0:=h;obtain⟨D,⟨es,clock,hb,F,hs,hD⟩,hf⟩:=h;obtain⟨v0,st,N,J,M,_,L⟩:=Go.WideElems.entry_then_store (R:=Jw) Z G hz hb F (K.key x I);refine⟨v0,st,_,M,⟨rfl,rfl,rfl,by simp [setBlock],fun i _ C=>heap_setBlock_other hb _ (fun e=>C (by rw [e]))⟩,fun d v V=> ?_⟩
 have s:d.heap[b]?=some (.map N J):=V.trans (heap_setBlock_same hb _);obtain⟨ab,aa,T,U⟩:=L d v s;obtain⟨m,j,O,ac⟩:=h0.put K G hn I v;rw [U] at j;injection j with _ j
 subst j;refine⟨_,T,O.same ?_,⟨rfl,rfl,rfl,by simp [setBlock],fun i _ C=>heap_setBlock_other s _ (fun e=>C (by rw [e]))⟩⟩
 rw [heap_setBlock_same s,heap_setBlock_same hb]
end
def Ql:Type:= { t:List UInt8×List UInt8×Int×List UInt8×List UInt8 // t.1.length<=maxLen/\t.2.1.length<=maxLen/\(Lit.int .i64 t.2.2.1).wf=true/\t.2.2.2.1.length<=maxLen/\t.2.2.2.2.length<=maxLen}
instance :DecidableEq Ql:=fun a b=>decidable_of_iff (a.1=b.1) Subtype.ext_iff.symm
def PB (x:Ql):Value:= .agg #[.string (Z2 x.1.1),.string (Z2 x.1.2.1),.int .i64 x.1.2.2.1,.string (Z2 x.1.2.2.2.1),.string (Z2 x.1.2.2.2.2)]
theorem LW:156<prog.types.size:=of_decide_eq_true (by kernel_rfl)
theorem Pz:Go.WideMaps.KeyLaw prog 156:=deep_law_laid (by kernel_rfl) (m:=20) (by decide) LW (by kernel_rfl) (by kernel_rfl)
theorem Sg (x:Ql): ∃ l,keyOf prog 156 (PB x)=some l:=by
 obtain⟨⟨a,b,n,c,d⟩,j,s,u,C,D⟩:=x;have h:=underlying156;have L:=underlying9;have K:=underlying41;have I:prog.keyType 156=true:=by kernel_rfl
 have E:prog.cellsOf 156=5:=by kernel_rfl
 unfold PB keyOf;rw [h];simp only [I,Value.formed,h,E,Value.cells,Bool.true_and];obtain⟨m,J⟩: ∃ m,prog.types.size=m+1:=⟨prog.types.size - 1,by have:=LW;omega⟩
 have G:prog.cellsOf 9=1:=by kernel_rfl
 have F:prog.cellsOf 41=1:=by kernel_rfl
 simp only at j s u C D;rw [J];simp [Program.keyLits,h,L,K,E,G,F,Yk,j,s,u,C,D]
noncomputable def QT (x:Ql):Lit:=Classical.choose (Sg x)
theorem M6:Jg prog 156 PB QT (fun _=>True) where
 law:=Keyed.of_law Pz
 key x _:=Classical.choose_spec (Sg x)
 inj x y h:=by
  have s:keyOf prog 156 (PB x)=some (QT x):=Classical.choose_spec (Sg x);have G:keyOf prog 156 (PB y)=some (QT y):=Classical.choose_spec (Sg y);rw [h] at s;have m:=Pz.inj s G;obtain⟨⟨a,b,n,c,d⟩,_⟩:=x;obtain⟨⟨I,J,M,K,L⟩,_⟩:=y;have j: ∀ {p q:List UInt8},Z2 p=Z2 q->p=q:=fun {p q} e=>by rw [<-QK p,<-QK q,e]
  simp only [PB,Value.agg.injEq,Array.mk.injEq,List.cons.injEq,Value.string.injEq,Value.int.injEq,and_true,true_and] at m;obtain⟨u,C,D,E,F⟩:=m;apply Subtype.ext
  simp only [j u,j C,D,j E,j F]
theorem YQ.WT {P:Program}{k:TypeId}{κ:Type}{kl:κ->Lit}{w:World}{z:Value}{b n:Nat}{f:κ->Value}(h:YQ P k kl w z b n f){p:Addr}{v:Value}(d:w.cell? p=some v):p.block≠b:=by
 rintro rfl;obtain⟨D,⟨es,clock,hb,_⟩,_⟩:=h;simp [World.cell?,hb] at d
theorem FF {w:World}{l:List Gr}{A:Option Addr}{B:Nat}(h:Zj w B A Gr.cs l):ZT w (· < B) Ya (l.map Gr.da) A:=by
 intro E;have s:0<l.length:=by simpa using E
 obtain⟨D,rfl,F,I⟩:=h s;refine⟨D,rfl,F,fun j d hd=> ?_⟩
 rw [List.getElem?_map] at hd
 cases hj:l[j]? with
 | none=>rw [hj] at hd;simp at hd
 | some a=>
  rw [hj] at hd;simp only [Option.map_some,Option.some.injEq] at hd;subst hd;obtain⟨C,rfl⟩:=List.getElem?_eq_some_iff.1 hj
  refine⟨Gr.cs l[j],Gr.VW _,fun i u m=> ?_⟩
  have G:i<6:=(List.getElem?_eq_some_iff.1 m).1;exact I _ u (by rw [show j*Ya.length+i=j*6+i from rfl,Zl Gr.k l j i C G];exact m)
def Sw (w:World)(B:Nat)(r:Ro)(ZQ:List UInt8)(v:Value):Prop:= ∃ A c,v= .slice A (XN r ZQ).length c/\Zj w B A Yy (XN r ZQ)
theorem Zj.but {α:Type}{enc:α->List Value}{w w':World}{B:Nat}{A:Option Addr}{l:List α}(h:Zj w B A enc l)(hb: ∀ p v,w.cell? p=some v->p.block<B->w'.cell? p=some v):Zj w' B A enc l:=fun m=>by
 obtain⟨j,e,d,s⟩:=h m;exact⟨j,e,d,fun i u C=>hb _ _ (s i u C) (by rw [ZL];exact d)⟩
def EE (gs l:List Gr):Nat:=(gs.filter fun g=> !(l.any fun x=>Yq x == Yq g)).length
theorem LI {d l:List Gr}{g:Gr}(h:g∈d)(u:(l.any fun x=>Yq x == Yq g)=false):EE d (l ++ [g])+1<=EE d l:=by
 unfold EE;induction d with
 | nil=>cases h
 | cons a d ih=>
  have step: ∀ x:Gr,(!((l ++ [g]).any fun y=>Yq y == Yq x))=true->(!(l.any fun y=>Yq y == Yq x))=true:=by
   intro x j;rw [List.any_append] at j;simp only [Bool.not_eq_true',Bool.or_eq_false_iff] at j ⊢;exact j.1
  have mono: ∀ d:List Gr,(d.filter fun x=> !((l ++ [g]).any fun y=>Yq y == Yq x)).length<=(d.filter fun x=> !(l.any fun y=>Yq y == Yq x)).length:=by
   intro d;induction d with
   | nil=>exact Nat.le_refl _
   | cons b d ihb=>
    simp only [List.filter_cons];by_cases hb:(!((l ++ [g]).any fun y=>Yq y == Yq b))=true
    ·rw [if_pos hb,if_pos (step b hb)];simpa using ihb
    ·rw [if_neg hb];split
     ·simp only [List.length_cons];omega
     ·exact ihb
  simp only [List.filter_cons];rcases List.mem_cons.1 h with rfl | h
  ·have m: ¬ (!((l ++ [g]).any fun y=>Yq y == Yq g))=true:=by rw [List.any_append];simp
   have s:(!(l.any fun y=>Yq y == Yq g))=true:=by rw [u];rfl
   rw [if_neg m,if_pos s];have:=mono d;simp only [List.length_cons];omega
  ·have:=ih h;by_cases hb:(!((l ++ [g]).any fun y=>Yq y == Yq a))=true
   ·rw [if_pos hb,if_pos (step a hb)];simp only [List.length_cons];omega
   ·rw [if_neg hb];split
    ·simp only [List.length_cons];omega
    ·exact this
theorem FQ (d:List Gr):EE d []=d.length:=by
 unfold EE;simp
theorem Oz {c:Ca}{l:List Gr}(h:c.Z4.find? (XU c l)=none): ∀ n,XQ c n l=l
 | 0=>rfl
 | n+1=>by rw [XQ,h]
theorem SV {c:Ca}{l:List Gr}{g:Gr}(h:c.Z4.find? (XU c l)=some g)(n:Nat):XQ c (n+1) l=XQ c n (l ++ [g]):=by rw [XQ,h]
structure Im (c:Ca) (w wr:World) (im j:Nat) (nx:List UInt8->Value):Prop where
 below:Below w.heap.size w wr
 map:YQ prog 9 Uw wr (.slice none 0 0) im j nx
 all: ∀ ZQ,nx ZQ= .slice none 0 0∨Sw wr wr.heap.size c.ro ZQ (nx ZQ)
 met: ∀ i (hi:i<c.Z4.length),i<j->Sw wr wr.heap.size c.ro c.Z4[i].ZM (nx c.Z4[i].ZM)
theorem Sw.later {w w':World}{r:Ro}{ZQ:List UInt8}{v:Value}(h:Sw w w.heap.size r ZQ v)(hb:Below w.heap.size w w'):Sw w' w'.heap.size r ZQ v:=by
 obtain⟨A,c,d,j⟩:=h;exact⟨A,c,d,j.later hb⟩
theorem Sw.but {w w':World}{r:Ro}{ZQ:List UInt8}{v:Value}{b:Nat}(h:Sw w w.heap.size r ZQ v)(j:w.grownBy w' (some b))(hb: ∀ p u,w.cell? p=some u->p.block≠b):Sw w' w'.heap.size r ZQ v:=by
 obtain⟨A,c,E,F⟩:=h;refine⟨A,c,E,fun D=> ?_⟩
 obtain⟨C,e,d,m⟩:=F D;exact⟨C,e,Nat.lt_of_lt_of_le d j.size,fun i u s=>(j.cell_far _ (by rw [ZL];exact d) (fun e=>hb _ _ (m i u s) (by injection e))).trans (m i u s)⟩
theorem Im.later {c:Ca}{w wr w':World}{d j:Nat}{m:List UInt8->Value}(h:Im c w wr d j m)(hb:Below wr.heap.size wr w'):Im c w w' d j m:=
 ⟨h.below.trans (hb.mono h.below.size),h.map.later hb,fun r=>(h.all r).imp id fun h=>h.later hb,fun i s u=>(h.met i s u).later hb⟩
theorem Im.put {c:Ca}{w wr w':World}{d j:Nat}{s:List UInt8->Value}(h:Im c w wr d j s)(M:j<c.Z4.length)(L:w.heap.size<=d){v:Value}(F:Sw wr wr.heap.size c.ro c.Z4[j].ZM v)
  (I:YQ prog 9 Uw w' (.slice none 0 0) d (j+1) (fun y=>if y=c.Z4[j].ZM then v else s y)) (m:wr.grownBy w' (some d)):Im c w w' d (j+1) (fun y=>if y=c.Z4[j].ZM then v else s y):=by
 have C: ∀ p u,wr.cell? p=some u->p.block≠d:=fun p u J=>h.map.WT J
 refine⟨h.below.grown m h.below.size (fun k E=>by injection E with E;omega),I,fun r=> ?_,fun i G K=> ?_⟩
 ·show (if r=_ then v else s r)=_∨_
  by_cases hr:r=c.Z4[j].ZM
  ·right
   rw [if_pos hr,hr];exact F.but m C
  ·rw [if_neg hr];exact(h.all r).imp id fun h=>h.but m C
 ·show Sw _ _ _ _ (if c.Z4[i].ZM=c.Z4[j].ZM then v else s c.Z4[i].ZM)
  by_cases hr:c.Z4[i].ZM=c.Z4[j].ZM
  ·rw [if_pos hr,hr];exact F.but m C
  ·rw [if_neg hr];have:i<j:=by
    rcases Nat.lt_or_ge i j with D | D
    ·exact D
    ·have:i=j:=by omega
     subst this;exact absurd rfl hr
   exact(h.met i G this).but m C
theorem Im.keep {c:Ca}{w wr:World}{s j:Nat}{d:List UInt8->Value}(h:Im c w wr s j d)(E:j<c.Z4.length)(C:d c.Z4[j].ZM≠ .slice none 0 0):Im c w wr s (j+1) d:=
 ⟨h.below,h.map.mono (Nat.le_succ _),h.all,fun i u D=>by
  rcases Nat.lt_or_ge i j with m | m
  ·exact h.met i u m
  ·have:i=j:=by omega
   subst this;exact(h.all _).resolve_left C⟩
theorem X5 {s:List UInt8}(h:Zw s=true):s.length<=16:=by
 unfold Zw at h;simp only [Bool.and_eq_true,decide_eq_true_eq] at h;omega
theorem QC (c:Ca)(p:Option Gr)(a:Gr)(l:List Gr):Yu c p (a ::l)=(Uj c a && (match p with | some q=> !(Yq a == Yq q) && !decide (0<RZ q a) | none=>true) && Yu c (some a) l):=rfl
theorem SX {c:Ca} : ∀ {l:List Gr}{p:Option Gr},Yu c p l=true-> ∀ g∈l,Uj c g=true
 | [],_,_,g,d=>by cases d
 | a ::l,p,h,g,d=>by
  rw [QC,Bool.and_eq_true,Bool.and_eq_true] at h;rcases List.mem_cons.1 d with rfl | d
  ·exact h.1.1
  ·exact SX h.2 g d
theorem Yl {c:Ca}(h:Xz c=true):c.Z4.length<=64/\Zc c.ob=true/\Yc c.ro=true/\c.ro.ZU.contains Yi=true/\UQ c=true/\Yu c none c.Z4=true:=by
 unfold Xz at h;simp only [Bool.and_eq_true,decide_eq_true_eq] at h;obtain⟨⟨⟨⟨⟨d,j⟩,m⟩,s⟩,u⟩,C⟩:=h;exact⟨d,j,m,s,u,C⟩
theorem Vr {r:Ro}(h:Yc r=true):r.ZU.length<=16/\r.ZY.length<=256/\(∀ n∈r.ZU,Zw n=true)/\ ∀ m∈r.ZY,m.ZQ∈r.ZU/\m.of∈r.ZU:=by
 unfold Yc at h;simp only [Bool.and_eq_true,decide_eq_true_eq,List.all_eq_true] at h;obtain⟨⟨⟨⟨⟨d,j⟩,_⟩,_⟩,s⟩,u⟩:=h;exact⟨d,j,s,fun m C=>by simpa using (u m C).1⟩
theorem Rc {c:Ca}{s n:List UInt8}{t:Tb}(h:Uu c s n=some t):t∈c.ob.Z8/\t.Z9=s/\t.name=n:=by
 unfold Uu at h;have d:=List.find?_some h
 simp only [Bool.and_eq_true,beq_iff_eq] at d;exact⟨List.mem_of_find?_eq_some h,d.1,d.2⟩
theorem Vv {o:Ob}(h:Zc o=true):o.Z7.length<=8/\o.Z8.length<=64/\(∀ s∈o.Z7,Zw s.name=true/\Zw s.ZN=true)/\ ∀ t∈o.Z8,YN o t=true:=by
 unfold Zc at h;simp only [Bool.and_eq_true,decide_eq_true_eq,List.all_eq_true] at h;obtain⟨⟨⟨⟨⟨d,j⟩,_⟩,_⟩,m⟩,u⟩:=h;exact⟨d,j,fun s C=>(m s C).1,u⟩
theorem SQ {o:Ob}{t:Tb}(h:YN o t=true):Zw t.name=true/\Zw t.ZN=true/\t.Z3.length<=8/\t.ZW.length<=8/\(Xd o.Z7 t.Z9).isSome=true/\ ∀ r∈t.ZW,YA t.Z3 r=true:=by
 unfold YN at h;simp only [Bool.and_eq_true,decide_eq_true_eq,List.all_eq_true] at h;obtain⟨⟨⟨⟨⟨⟨j,m⟩,d⟩,s⟩,u⟩,C⟩,_⟩:=h;unfold YJ at d;simp only [Bool.and_eq_true,decide_eq_true_eq] at d;refine⟨j,m,d.1.2,s,u,fun r D=> ?_⟩
 have:=C r D;unfold U4 at this;simp only [Bool.and_eq_true] at this;exact this.1
theorem IC {l:List Sc}{n:List UInt8}(h:(Xd l n).isSome=true): ∃ s∈l,s.name=n:=by
 unfold Xd at h;rw [List.findIdx?_isSome,List.any_eq_true] at h;obtain⟨s,d,h⟩:=h;exact⟨s,d,by simpa using h⟩
theorem LZ {l:List Cl}{r:Ru}(h:YA l r=true):r.name.length<=16/\r.Z3.length<=l.length/\r.Z9.length<=16/\r.ZZ.length<=16/\r.key.length<=16:=by
 unfold YA at h;simp only [Bool.and_eq_true,decide_eq_true_eq] at h;obtain⟨⟨⟨⟨j,_⟩,m⟩,_⟩,d⟩:=h;have hb:QX r=true->r.Z9.length<=16/\r.ZZ.length<=16/\r.key.length<=16:=fun h=>by
  unfold QX at h;simp only [beq_iff_eq,List.append_eq_nil_iff] at h;obtain⟨⟨j,s⟩,m⟩:=h;rw [j,s,m];exact⟨by simp,by simp,by simp⟩
 refine⟨X5 j,m,?_⟩
 unfold Tn at d;split at d
 ·simp only [Bool.and_eq_true] at d;exact hb d.1.1.1
 ·split at d
  ·simp only [Bool.and_eq_true] at d;exact⟨X5 d.1.1.1.1,X5 d.1.1.1.2,X5 d.1.1.2⟩
  ·split at d
   ·simp only [Bool.and_eq_true] at d;exact hb d.1.1
   ·cases d
theorem UU {o:Ob}(h:Zc o=true):o.Zo 64:=by
 obtain⟨D,E,F,d⟩:=Vv h;refine⟨by omega,by omega,fun t s=> ?_⟩
 obtain⟨_,_,G,I,_,j⟩:=SQ (d t s);refine⟨by omega,by omega,fun r m=> ?_⟩
 obtain⟨_,J,K,u,C⟩:=LZ (j r m);exact⟨by omega,by omega,by omega,by omega⟩
theorem XD {r:Ro}(h:Yc r=true):r.Zo 256:=by
 obtain⟨C,D,d,j⟩:=Vr h;refine⟨by omega,by omega,fun n u=> ?_,fun m s=> ?_⟩
 ·have:=X5 (d n u);omega
 ·have E:=X5 (d _ (j m s).1);have F:=X5 (d _ (j m s).2);omega
theorem Ub {c:Ca}(h:Xz c=true){g:Gr}(J:g∈c.Z4):g.Z9.length<=16/\g.ZZ.length<=16/\(g.right=1∨g.right=2)/\g.ZM.length<=16/\g.to.length<=16/\ ∃ t i,Uu c g.Z9 g.ZZ=some t/\Xd c.ob.Z7 t.Z9=some i:=by
 obtain⟨_,F,G,_,_,I⟩:=Yl h;have d:=SX I g J;unfold Uj at d;simp only [Bool.and_eq_true] at d;obtain⟨⟨⟨⟨k1,k2⟩,_⟩,k4⟩,L⟩:=d;obtain⟨t,j⟩:=Option.isSome_iff_exists.1 k1;obtain⟨C,D,E⟩:=Rc j;obtain⟨_,_,n1,_⟩:=Vr G;obtain⟨_,_,N,O⟩:=Vv F;obtain⟨M,_,_,_,m,_⟩:=SQ (O t C);obtain⟨sc,u,s⟩:=IC m;obtain⟨i,K⟩:=Option.isSome_iff_exists.1 m;refine⟨?_,?_,?_,?_,?_,t,i,j,K⟩
 ·rw [<-D,<-s];exact X5 (N sc u).1
 ·rw [<-E];exact X5 M
 ·unfold RR at k2;simpa using k2
 ·exact X5 (n1 _ (by simpa using k4))
 ·exact X5 (n1 _ (by simpa using L))
theorem QL {c:Ca}(h:Xz c=true):c.Zo 256:=by
 obtain⟨D,j,m,_,_,_⟩:=Yl h;have d:=UU j;refine⟨⟨by have:=d.1;omega,by have:=d.2.1;omega,fun t C=> ?_⟩,XD m,by omega⟩
 obtain⟨a,b,k⟩:=d.2.2 t C;exact⟨by omega,by omega,fun r s=>by obtain⟨p,q,u,v⟩:=k r s;exact⟨by omega,by omega,by omega,by omega⟩⟩
theorem RX {c:Ca} : ∀ (n:Nat)(l:List Gr),(XQ c n l).length<=n+l.length
 | 0,l=>by rw [XQ];omega
 | n+1,l=>by
  rw [XQ]
  cases hf:c.Z4.find? (XU c l) with
  | none=>simp only;omega
  | some a=>
   have:=RX (c:=c) n (l ++ [a]);simp only [List.length_append,List.length_cons,List.length_nil] at this ⊢;omega
theorem NZ {c:Ca} :(Vd c).length<=c.Z4.length:=by
 unfold Vd;split
 ·simpa using RX (c:=c) c.Z4.length []
 ·simp
section
variable {P : Program} {k t e : TypeId} {κ : Type} {kv : κ -> Value} {kl : κ -> Lit} {dom : κ -> Prop} {w w' : World} {z : Value} {b n : Nat} {f : κ -> Value}
theorem Mg {R:Value->Option (DataW Value×List MemPlace)}{es:Array MapEntry}{clock:Nat}(m:Go.WideMaps.KeyLaw P k)(D:P.underlying t=some (.map k e))(L: ∀ u,(zeroValue e).run P u= .ok z u)(hb:w.heap[b]?=some (.map es clock))(F:Go.WideElems.Fit P k R es clock)
  {key:Value} {J:Lit} (d:keyOf P k key=some J) {v:Value} {E:World} (h:(Instr.mapEntry t (.map (some b)) key).run P w= .ok v E):E.heap[b]?=w.heap[b]?∨(Instr.mapUpdate t (.map (some b)) key z).run P w= .ok () E:=by
 rcases m.find w d es.toList F.keys with ⟨s,C⟩ | ⟨j,e0,s,C,G⟩
 ·right
  simp [Instr.mapEntry,run_underlying D,MapKept.run_getObj_map hb,m.check w false d,s,L,MapKept.run_setObj_map _ hb,Result.andThen,setBlock] at h;simp [Instr.mapUpdate,run_underlying D,MapKept.run_getObj_map hb,m.check w false d,s,MapKept.run_setObj_map _ hb,Result.andThen,setBlock];exact h.2
 ·left
  have K:es[j]?=some e0:=by simpa using C
  have I:es.modify j (fun e=> { e with key:=key})=es:=by
   apply Array.ext'
   rw [Array.toList_modify,modify_eq_set _ _ _ _ C];have:({ e0 with key:=key} :MapEntry)=e0:=by rw [<-G]
   rw [this];exact Go.WideElems.set_self _ _ _ C
  simp [Instr.mapEntry,run_underlying D,MapKept.run_getObj_map hb,m.check w false d,s,K,G,m.stays w d,I,MapKept.run_setObj_map _ hb,Result.andThen,setBlock] at h;obtain⟨_,rfl⟩:=h;exact(heap_setBlock_same hb _).trans hb.symm
theorem YQ.E9 [DecidableEq κ](h:YQ P k kl w z b n f)(I:Go.WideMaps.KeyLaw P k)(K:Jg P k kv kl dom)(s:P.underlying t=some (.map k e))(N: ∀ u,(zeroValue e).run P u= .ok z u)(M:n<maxLen){x:κ}(C:dom x)(O:f x=z):
  ∃ (v0:Value) (st:Nat) (d:World),(Instr.mapEntry t (.map (some b)) (kv x)).run P w= .ok (.tuple #[v0,goInt st]) d/\w.grownBy d (some b)/\YQ P k kl d z b (n+1) f/\
   ∀ (E:World) (v:Value),E.heap[b]?=d.heap[b]?-> ∃ G,(Instr.entryStore t (.map (some b)) (goInt st) v).run P E= .ok () G/\YQ P k kl G z b (n+1) (fun y=>if y=x then v else f y)/\E.grownBy G (some b):=by
 obtain⟨v0,st,d,L,T,U⟩:=h.entry I K s N M C;refine⟨v0,st,d,L,T,?_,U⟩
 have J:=h;obtain⟨D,⟨es,clock,hb,F,hs,Z⟩,hf⟩:=h;rcases Mg I s N hb F (K.key x C) L with m | m
 ·exact(J.same m).mono (Nat.le_succ _)
 ·obtain⟨w4,j,V,_⟩:=J.put K s M C z;rw [m] at j;injection j with _ j
  subst j;have:(fun y=>if y=x then z else f y)=f:=by
   funext y
   by_cases hy:y=x
   ·rw [if_pos hy,hy,O]
   ·rw [if_neg hy]
  rwa [this] at V
end
def EX:Value->Nat
 | .slice _ n _=>n
 | _=>0
def Gr.FJ (g:Gr):Prop:=g.Z9.length<=maxLen/\g.ZZ.length<=maxLen/\(Lit.int .i64 g.right).wf=true/\g.ZM.length<=maxLen/\g.to.length<=maxLen
def Si (g:Gr)(h:g.FJ):Ql:=⟨Yq g,h⟩
theorem PA (g:Gr)(h:g.FJ):PB (Si g h)= .agg (Xm g).toArray:=rfl
theorem ER {c:Ca}(h:Xz c=true){g:Gr}(j:g∈c.Z4):g.FJ:=by
 obtain⟨m,s,d,u,C,_⟩:=Ub h j;refine⟨by unfold maxLen;omega,by unfold maxLen;omega,?_,by unfold maxLen;omega,by unfold maxLen;omega⟩
 rcases d with d | d <;> rw [d] <;> decide
def QR (l:List Gr):Ql->Value:=fun x=> .int .i64 (if(l.any fun y=>Yq y == x.1)=true then 1 else 0)
theorem Pr {l:List Gr}{g:Gr}(h:g.FJ)(d:(l.any fun y=>Yq y == Yq g)=false):QR l (Si g h)= .int .i64 0:=by
 show Value.int .i64 (if(l.any fun y=>Yq y == Yq g)=true then 1 else 0)=_
 rw [d];rfl
theorem IZ {l:List Gr}{g:Gr}(h:g.FJ)(d:(l.any fun y=>Yq y == Yq g)=true):QR l (Si g h)= .int .i64 1:=by
 show Value.int .i64 (if(l.any fun y=>Yq y == Yq g)=true then 1 else 0)=_
 rw [d];rfl
theorem Kr (l:List Gr)(g:Gr)(h:g.FJ):(fun y=>if y=Si g h then Value.int .i64 1 else QR l y)=QR (l ++ [g]):=by
 funext y
 unfold QR;rw [List.any_append];by_cases hy:y=Si g h
 ·subst hy;have:(Yq g ==(Si g h).1)=true:=by show (Yq g == Yq g)=true;simp
  simp [this]
 ·have:(Yq g == y.1)=false:=by
   have: ¬ Yq g=y.1:=fun e=>hy (Subtype.ext e.symm)
   simpa using this
  rw [if_neg hy];simp [this]
structure Wx (hm:Nat) (lh l:List Gr) (v:Value) (w3 wr:World):Prop where
 bx:Y6 w3.heap.size (some hm) w3 wr
 held:YQ prog 156 QT wr (.int .i64 0) hm lh.length (QR lh)
 own:wr.ownsRow w3.heap.size 53 6 v l.length (l.flatMap Gr.cs)
theorem Wx.later {d:Nat}{j l:List Gr}{v:Value}{m wr w':World}(h:Wx d j l v m wr)(hb:Below wr.heap.size wr w'):Wx d j l v m w':=
 ⟨h.bx.post (hb.mono h.bx.size),h.held.later hb,TA h.own fun g s=>hb.block g (YB h.own s)⟩
theorem Wx.look {j:Nat}{s l:List Gr}{v:Value}{u wr:World}(h:Wx j s l v u wr)(g:Gr)(d:g.FJ)(b:Bool)(m:(s.any fun y=>Yq y == Yq g)=b):
  (Instr.lookup 153 (.map (some j)) (.agg (Xm g).toArray) false).run prog wr= .ok (.int .i64 (if b=true then 1 else 0)) wr:=by
 have:=h.held.look M6 underlying153 (by kernel_rfl) (x:=Si g d) trivial;rw [PA] at this;rw [this]
 cases b
 ·rw [Pr d m];rfl
 ·rw [IZ d m];rfl
theorem Wx.bump {d:Nat}{E l:List Gr}{v:Value}{F wr:World}(h:Wx d E l v F wr)(aa:d<F.heap.size)(g:Gr)(C:g.FJ)(L:(E.any fun y=>Yq y == Yq g)=false)(hl:E.length<maxLen):
  ∃ (v0:Value) (st:Nat) (j s:World),(Instr.mapEntry 153 (.map (some d)) (.agg (Xm g).toArray)).run prog wr= .ok (.tuple #[v0,goInt st]) j/\
   (Instr.lookup 153 (.map (some d)) (.agg (Xm g).toArray) false).run prog j= .ok (.int .i64 0) j/\
   (Instr.entryStore 153 (.map (some d)) (goInt st) (.int .i64 1)).run prog j= .ok () s/\Wx d (E ++ [g]) l v F s/\wr.grownBy j (some d)/\wr.grownBy s (some d):=by
 obtain⟨v0,st,j,G,I,T,U⟩:=h.held.E9 Pz M6 underlying153 (by intro u;kernel_rfl) hl (x:=Si g C) trivial (Pr C L);obtain⟨s,V,J,Z⟩:=U j (.int .i64 1) rfl;rw [PA] at G;rw [Kr] at J;have K:=T.look M6 underlying153 (by kernel_rfl) (x:=Si g C) trivial;rw [PA,Pr C L] at K;have m:wr.grownBy s (some d):=I.trans Z;have O: ∀ k,v.ownBlock=some k->s.heap[k]?=wr.heap[k]?:=fun k D=>by
  have N:=YB h.own D;refine m.block k N fun e=> ?_
  injection e with e
  have:=ZD h.own k D;omega
 refine⟨v0,st,j,s,G,K,V,⟨⟨?_,?_,?_,?_,?_⟩,by rw [List.length_append];exact J,TA h.own O⟩,I,m⟩
 ·exact m.os.trans h.bx.os
 ·exact m.tape.trans h.bx.tape
 ·exact m.output.trans h.bx.output
 ·exact Nat.le_trans h.bx.size m.size
 ·exact fun k D M=>(m.block k (by have:=h.bx.size;omega) (fun e=>M e.symm)).trans (h.bx.block k D M)
theorem Wx.Do {u:Nat}{C l j:List Gr}{v E:Value}{m wr w':World}(h:Wx u C l v m wr)(I:w'.ownsRow m.heap.size 53 6 E j.length (j.flatMap Gr.cs))(d:wr.grownBy w' v.ownBlock):Wx u C j E m w':=by
 refine⟨⟨?_,?_,?_,?_,?_⟩,?_,I⟩
 ·exact d.os.trans h.bx.os
 ·exact d.tape.trans h.bx.tape
 ·exact d.output.trans h.bx.output
 ·exact Nat.le_trans h.bx.size d.size
 ·exact fun k G J=>(d.block k (by have:=h.bx.size;omega) (fun e=>by have:=ZD h.own k e.symm;omega)).trans (h.bx.block k G J)
 ·refine h.held.grown d fun e=> ?_
  obtain⟨cs,K,F⟩:=Yx h.own e.symm;obtain⟨D,⟨es,clock,s,_⟩,_⟩:=h.held;rw [F] at s
  cases s
theorem Sw.round {r:Ro}{ZQ:List UInt8}{v:Value}{d wr:World}{C:Nat}{f:Ql->Value}{n:Nat}(h:Sw d d.heap.size r ZQ v)(hb:Y6 d.heap.size (some C) d wr)(D:YQ prog 156 QT d (.int .i64 0) C n f):Sw wr wr.heap.size r ZQ v:=by
 obtain⟨A,c,F,G⟩:=h;refine⟨A,c,F,fun E=> ?_⟩
 obtain⟨m,e,s,I⟩:=G E;refine⟨m,e,Nat.lt_of_lt_of_le s hb.size,fun i u J=> ?_⟩
 have j:=I i u J;have K:=D.WT j;have:=hb.block (m.add i).block (by rw [ZL];exact s) (fun e=>K (by injection e with e;exact e.symm));unfold World.cell? at j ⊢;rw [this];exact j
theorem I5 {c:Ca}{l:List Gr}(h: ∀ i (d:i<c.Z4.length),XU c l c.Z4[i]=false):c.Z4.find? (XU c l)=none:=by
 rw [List.find?_eq_none];intro g j;obtain⟨i,d,rfl⟩:=List.getElem_of_mem j;simpa using h i d
theorem KH {c:Ca}{l:List Gr}{j:Nat}(s:j<c.Z4.length)(h: ∀ i (d:i<c.Z4.length),i<j->XU c l c.Z4[i]=false)(m:XU c l c.Z4[j]=true):c.Z4.find? (XU c l)=some c.Z4[j]:=by
 rw [List.find?_eq_some_iff_getElem];exact⟨m,j,s,rfl,fun i d=>by simpa using h i (by omega) d⟩
end Go.Proofs.YtnhmoibjlakhjaaGreat
