/- Lemmas of the proof. No condition but each theorem's own. -/
import Derived.Test.YtnhmoibjlakhjaaGreatR28
import Derived.DeepKeys4
import Derived.Maps.AppendAt
import Derived.Test.YtnhmoibjlakhjaaGreatR17
import Derived.Test.YtnhmoibjlakhjaaGreatR03
set_option linter.unusedVariables false
set_option linter.unusedSimpArgs false
namespace Go.Proofs.YtnhmoibjlakhjaaGreat
set_option maxRecDepth 100000
set_option maxHeartbeats 16000000
open Go.RowKit Go.Maps
def Sr:Type:= { t:List UInt8×List UInt8×Int×List UInt8×List UInt8 // t.1.length≤maxLen∧t.2.1.length≤maxLen∧(Lit.int .i64 t.2.2.1).wf=true∧t.2.2.2.1.length≤maxLen∧t.2.2.2.2.length≤maxLen}
instance :DecidableEq Sr:=fun a b=>decidable_of_iff (a.1=b.1) Subtype.ext_iff.symm
def RU (x:Sr):Value:= .agg #[.string (Z9 x.1.1),.string (Z9 x.1.2.1),.int .i64 x.1.2.2.1,.string (Z9 x.1.2.2.2.1),.string (Z9 x.1.2.2.2.2)]
theorem OK:156<Tryz.prog.types.size:=of_decide_eq_true (by kernel_rfl)
theorem RR:Go.WideMaps.KeyLaw Tryz.prog 156:=deep_law_laid (by kernel_rfl) (m:=20) (by decide) OK (by kernel_rfl) (by kernel_rfl)
theorem TE (x:Sr): ∃ l,keyOf Tryz.prog 156 (RU x)=some l:=by
 obtain⟨⟨a,b,n,c,d⟩,h1,h2,h3,h4,h5⟩:=x;have hu:=Tryz.underlying156;have hs:=Tryz.underlying9;have hr:=Tryz.underlying41;have hk:Tryz.prog.keyType 156=true:=by kernel_rfl
 have hc:Tryz.prog.cellsOf 156=5:=by kernel_rfl
 unfold RU keyOf;rw [hu];simp only [hk,Value.formed,hu,hc,Value.cells,Bool.true_and];obtain⟨m,hm⟩: ∃ m,Tryz.prog.types.size=m+1:=⟨Tryz.prog.types.size - 1,by have:=OK;omega⟩
 have hc9:Tryz.prog.cellsOf 9=1:=by kernel_rfl
 have hc41:Tryz.prog.cellsOf 41=1:=by kernel_rfl
 simp only at h1 h2 h3 h4 h5;rw [hm];simp [Program.keyLits,hu,hs,hr,hc,hc9,hc41,YA,h1,h2,h3,h4,h5]
noncomputable def SP (x:Sr):Lit:=Classical.choose (TE x)
theorem PA:MF Tryz.prog 156 RU SP (fun _=>True) where
 law:=Keyed.of_law RR
 key x _:=Classical.choose_spec (TE x)
 inj x y h:=by
  have hx:keyOf Tryz.prog 156 (RU x)=some (SP x):=Classical.choose_spec (TE x);have hy:keyOf Tryz.prog 156 (RU y)=some (SP y):=Classical.choose_spec (TE y);rw [h] at hx;have he:=RR.inj hx hy;obtain⟨⟨a,b,n,c,d⟩,_⟩:=x;obtain⟨⟨a',b',n',c',d'⟩,_⟩:=y;have ht: ∀ {p q:List UInt8},Z9 p=Z9 q→p=q:=fun {p q} e=>by rw [←SG p,←SG q,e]
  simp only [RU,Value.agg.injEq,Array.mk.injEq,List.cons.injEq,Value.string.injEq,Value.int.injEq,and_true,true_and] at he;obtain⟨e1,e2,e3,e4,e5⟩:=he;apply Subtype.ext
  simp only [ht e1,ht e2,e3,ht e4,ht e5]
theorem Y7.Wx {P:Program}{k:TypeId}{κ:Type}{kl:κ→Lit}{w:World}{z:Value}{b n:Nat}{f:κ→Value}(h:Y7 P k kl w z b n f){p:Addr}{v:Value}(hp:w.cell? p=some v):p.block≠b:=by
 rintro rfl;obtain⟨D,⟨es,clock,hb,_⟩,_⟩:=h;simp [World.cell?,hb] at hp
theorem Kf {w:World}{l:List Gr}{A:Option Addr}{B:Nat}(h:Ze w B A Gr.cs l):ZV w (· < B) Ys (l.map Gr.da) A:=by
 intro h0;have h0':0<l.length:=by simpa using h0
 obtain⟨ad,rfl,hB,hr⟩:=h h0';refine⟨ad,rfl,hB,fun j d hd=> ?_⟩
 rw [List.getElem?_map] at hd
 cases hj:l[j]? with
 | none=>rw [hj] at hd;simp at hd
 | some a=>
  rw [hj] at hd;simp only [Option.map_some,Option.some.injEq] at hd;subst hd;obtain⟨hj1,rfl⟩:=List.getElem?_eq_some_iff.1 hj
  refine⟨Gr.cs l[j],Gr.VH _,fun i u hu=> ?_⟩
  have hi:i<6:=(List.getElem?_eq_some_iff.1 hu).1;exact hr _ u (by rw [show j*Ys.length+i=j*6+i from rfl,Zj Gr.k l j i hj1 hi];exact hu)
def TV (w:World)(B:Nat)(r:Ro)(ZT:List UInt8)(v:Value):Prop:= ∃ A c,v= .slice A (Yw r ZT).length c∧Ze w B A YS (Yw r ZT)
theorem Ze.but {α:Type}{enc:α→List Value}{w w':World}{B:Nat}{A:Option Addr}{l:List α}(h:Ze w B A enc l)(hb: ∀ p v,w.cell? p=some v→p.block<B→w'.cell? p=some v):Ze w' B A enc l:=fun h0=>by
 obtain⟨ad,e,hB,hr⟩:=h h0;exact⟨ad,e,hB,fun i u hu=>hb _ _ (hr i u hu) (by rw [Zs];exact hB)⟩
def Jz (gs l:List Gr):Nat:=(gs.filter fun g=> !(l.any fun x=>YG x == YG g)).length
theorem OB {gs l:List Gr}{g:Gr}(hg:g∈gs)(hn:(l.any fun x=>YG x == YG g)=false):Jz gs (l ++ [g])+1≤Jz gs l:=by
 unfold Jz;induction gs with
 | nil=>cases hg
 | cons a gs ih=>
  have step: ∀ x:Gr,(!((l ++ [g]).any fun y=>YG y == YG x))=true→(!(l.any fun y=>YG y == YG x))=true:=by
   intro x hx;rw [List.any_append] at hx;simp only [Bool.not_eq_true',Bool.or_eq_false_iff] at hx ⊢;exact hx.1
  have mono: ∀ gs:List Gr,(gs.filter fun x=> !((l ++ [g]).any fun y=>YG y == YG x)).length≤(gs.filter fun x=> !(l.any fun y=>YG y == YG x)).length:=by
   intro gs;induction gs with
   | nil=>exact Nat.le_refl _
   | cons b gs ihb=>
    simp only [List.filter_cons];by_cases hb:(!((l ++ [g]).any fun y=>YG y == YG b))=true
    ·rw [if_pos hb,if_pos (step b hb)];simpa using ihb
    ·rw [if_neg hb];split
     ·simp only [List.length_cons];omega
     ·exact ihb
  simp only [List.filter_cons];rcases List.mem_cons.1 hg with rfl | hg
  ·have h1: ¬ (!((l ++ [g]).any fun y=>YG y == YG g))=true:=by rw [List.any_append];simp
   have h2:(!(l.any fun y=>YG y == YG g))=true:=by rw [hn];rfl
   rw [if_neg h1,if_pos h2];have:=mono gs;simp only [List.length_cons];omega
  ·have:=ih hg;by_cases hb:(!((l ++ [g]).any fun y=>YG y == YG a))=true
   ·rw [if_pos hb,if_pos (step a hb)];simp only [List.length_cons];omega
   ·rw [if_neg hb];split
    ·simp only [List.length_cons];omega
    ·exact this
theorem Kr (gs:List Gr):Jz gs []=gs.length:=by
 unfold Jz;simp
theorem QT {c:Ca}{l:List Gr}(h:c.Z3.find? (Yo c l)=none): ∀ n,Yp c n l=l
 | 0=>rfl
 | n+1=>by rw [Yp,h]
theorem Un {c:Ca}{l:List Gr}{g:Gr}(h:c.Z3.find? (Yo c l)=some g)(n:Nat):Yp c (n+1) l=Yp c n (l ++ [g]):=by rw [Yp,h]
structure LU (c:Ca) (w wr:World) (im j:Nat) (nx:List UInt8→Value):Prop where
 below:Below w.heap.size w wr
 map:Y7 Tryz.prog 9 Vy wr (.slice none 0 0) im j nx
 all: ∀ ZT,nx ZT= .slice none 0 0∨TV wr wr.heap.size c.ro ZT (nx ZT)
 met: ∀ i (hi:i<c.Z3.length),i<j→TV wr wr.heap.size c.ro c.Z3[i].ZN (nx c.Z3[i].ZN)
theorem TV.later {w w':World}{r:Ro}{ZT:List UInt8}{v:Value}(h:TV w w.heap.size r ZT v)(hb:Below w.heap.size w w'):TV w' w'.heap.size r ZT v:=by
 obtain⟨A,c,h1,h2⟩:=h;exact⟨A,c,h1,h2.later hb⟩
theorem TV.but {w w':World}{r:Ro}{ZT:List UInt8}{v:Value}{b:Nat}(h:TV w w.heap.size r ZT v)(hg:w.grownBy w' (some b))(hb: ∀ p u,w.cell? p=some u→p.block≠b):TV w' w'.heap.size r ZT v:=by
 obtain⟨A,c,h1,h2⟩:=h;refine⟨A,c,h1,fun h0=> ?_⟩
 obtain⟨ad,e,hB,hr⟩:=h2 h0;exact⟨ad,e,Nat.lt_of_lt_of_le hB hg.size,fun i u hu=>(hg.cell_far _ (by rw [Zs];exact hB) (fun e=>hb _ _ (hr i u hu) (by injection e))).trans (hr i u hu)⟩
theorem LU.later {c:Ca}{w wr w':World}{im j:Nat}{nx:List UInt8→Value}(h:LU c w wr im j nx)(hb:Below wr.heap.size wr w'):LU c w w' im j nx:=
 ⟨h.below.trans (hb.mono h.below.size),h.map.later hb,fun r=>(h.all r).imp id fun h=>h.later hb,fun i hi hj=>(h.met i hi hj).later hb⟩
theorem LU.put {c:Ca}{w wr w':World}{im j:Nat}{nx:List UInt8→Value}(h:LU c w wr im j nx)(hj:j<c.Z3.length)(him:w.heap.size≤im){v:Value}(hv:TV wr wr.heap.size c.ro c.Z3[j].ZN v)
  (hm:Y7 Tryz.prog 9 Vy w' (.slice none 0 0) im (j+1) (fun y=>if y=c.Z3[j].ZN then v else nx y)) (hg:wr.grownBy w' (some im)):LU c w w' im (j+1) (fun y=>if y=c.Z3[j].ZN then v else nx y):=by
 have hf: ∀ p u,wr.cell? p=some u→p.block≠im:=fun p u hp=>h.map.Wx hp
 refine⟨h.below.grown hg h.below.size (fun k hk=>by injection hk with hk;omega),hm,fun r=> ?_,fun i hi hij=> ?_⟩
 ·show (if r=_ then v else nx r)=_∨_
  by_cases hr:r=c.Z3[j].ZN
  ·right
   rw [if_pos hr,hr];exact hv.but hg hf
  ·rw [if_neg hr];exact(h.all r).imp id fun h=>h.but hg hf
 ·show TV _ _ _ _ (if c.Z3[i].ZN=c.Z3[j].ZN then v else nx c.Z3[i].ZN)
  by_cases hr:c.Z3[i].ZN=c.Z3[j].ZN
  ·rw [if_pos hr,hr];exact hv.but hg hf
  ·rw [if_neg hr];have:i<j:=by
    rcases Nat.lt_or_ge i j with h1 | h1
    ·exact h1
    ·have:i=j:=by omega
     subst this;exact absurd rfl hr
   exact(h.met i hi this).but hg hf
theorem LU.keep {c:Ca}{w wr:World}{im j:Nat}{nx:List UInt8→Value}(h:LU c w wr im j nx)(hj:j<c.Z3.length)(hn:nx c.Z3[j].ZN≠ .slice none 0 0):LU c w wr im (j+1) nx:=
 ⟨h.below,h.map.mono (Nat.le_succ _),h.all,fun i hi hij=>by
  rcases Nat.lt_or_ge i j with h1 | h1
  ·exact h.met i hi h1
  ·have:i=j:=by omega
   subst this;exact(h.all _).resolve_left hn⟩
end Go.Proofs.YtnhmoibjlakhjaaGreat
namespace Go.Proofs.YtnhmoibjlakhjaaGreat
set_option maxRecDepth 100000
set_option maxHeartbeats 16000000
theorem Ym {s:List UInt8}(h:Zr s=true):s.length≤16:=by
 unfold Zr at h;simp only [Bool.and_eq_true,decide_eq_true_eq] at h;omega
theorem SB (c:Ca)(p:Option Gr)(a:Gr)(l:List Gr):YP c p (a ::l)=(Vl c a && (match p with | some q=> !(YG a == YG q) && !decide (0<TD q a) | none=>true) && YP c (some a) l):=rfl
theorem Uo {c:Ca} : ∀ {l:List Gr}{p:Option Gr},YP c p l=true→ ∀ g∈l,Vl c g=true
 | [],_,_,g,hg=>by cases hg
 | a ::l,p,h,g,hg=>by
  rw [SB,Bool.and_eq_true,Bool.and_eq_true] at h;rcases List.mem_cons.1 hg with rfl | hg
  ·exact h.1.1
  ·exact Uo h.2 g hg
theorem YJ {c:Ca}(h:XT c=true):c.Z3.length≤64∧YT c.ob=true∧Yu c.ro=true∧c.ro.ZW.contains Yd=true∧VM c=true∧YP c none c.Z3=true:=by
 unfold XT at h;simp only [Bool.and_eq_true,decide_eq_true_eq] at h;obtain⟨⟨⟨⟨⟨h1,h2⟩,h3⟩,h4⟩,h5⟩,h6⟩:=h;exact⟨h1,h2,h3,h4,h5,h6⟩
theorem Wm {r:Ro}(h:Yu r=true):r.ZW.length≤16∧r.Z2.length≤256∧(∀ n∈r.ZW,Zr n=true)∧ ∀ m∈r.Z2,m.ZT∈r.ZW∧m.of∈r.ZW:=by
 unfold Yu at h;simp only [Bool.and_eq_true,decide_eq_true_eq,List.all_eq_true] at h;obtain⟨⟨⟨⟨⟨h1,h2⟩,_⟩,_⟩,h3⟩,h4⟩:=h;exact⟨h1,h2,h3,fun m hm=>by simpa using (h4 m hm).1⟩
theorem Uy {c:Ca}{s n:List UInt8}{t:Tb}(h:WA c s n=some t):t∈c.ob.Z7∧t.Z8=s∧t.name=n:=by
 unfold WA at h;have h1:=List.find?_some h
 simp only [Bool.and_eq_true,beq_iff_eq] at h1;exact⟨List.mem_of_find?_eq_some h,h1.1,h1.2⟩
theorem TL {o:Ob}(h:YT o=true):o.Z4.length≤8∧o.Z7.length≤64∧(∀ s∈o.Z4,Zr s.name=true∧Zr s.ZL=true)∧ ∀ t∈o.Z7,YV o t=true:=by
 unfold YT at h;simp only [Bool.and_eq_true,decide_eq_true_eq,List.all_eq_true] at h;obtain⟨⟨⟨⟨⟨h1,h2⟩,_⟩,_⟩,h3⟩,h4⟩:=h;exact⟨h1,h2,fun s hs=>(h3 s hs).1,h4⟩
theorem Uj {o:Ob}{t:Tb}(h:YV o t=true):Zr t.name=true∧Zr t.ZL=true∧t.ZX.length≤8∧t.ZS.length≤8∧(WY o.Z4 t.Z8).isSome=true∧ ∀ r∈t.ZS,Yy t.ZX r=true:=by
 unfold YV at h;simp only [Bool.and_eq_true,decide_eq_true_eq,List.all_eq_true] at h;obtain⟨⟨⟨⟨⟨⟨h1,h2⟩,h3⟩,h4⟩,h5⟩,h6⟩,_⟩:=h;unfold Yb at h3;simp only [Bool.and_eq_true,decide_eq_true_eq] at h3;refine⟨h1,h2,h3.1.2,h4,h5,fun r hr=> ?_⟩
 have:=h6 r hr;unfold U9 at this;simp only [Bool.and_eq_true] at this;exact this.1
theorem L9 {l:List Sc}{n:List UInt8}(h:(WY l n).isSome=true): ∃ s∈l,s.name=n:=by
 unfold WY at h;rw [List.findIdx?_isSome,List.any_eq_true] at h;obtain⟨s,hs,h⟩:=h;exact⟨s,hs,by simpa using h⟩
theorem OM {l:List Cl}{r:Ru}(h:Yy l r=true):r.name.length≤16∧r.ZX.length≤l.length∧r.Z8.length≤16∧r.ZY.length≤16∧r.key.length≤16:=by
 unfold Yy at h;simp only [Bool.and_eq_true,decide_eq_true_eq] at h;obtain⟨⟨⟨⟨h1,_⟩,h3⟩,_⟩,h5⟩:=h;have hb:SS r=true→r.Z8.length≤16∧r.ZY.length≤16∧r.key.length≤16:=fun h=>by
  unfold SS at h;simp only [beq_iff_eq,List.append_eq_nil_iff] at h;obtain⟨⟨h1,h2⟩,h3⟩:=h;rw [h1,h2,h3];exact⟨by simp,by simp,by simp⟩
 refine⟨Ym h1,h3,?_⟩
 unfold TG at h5;split at h5
 ·simp only [Bool.and_eq_true] at h5;exact hb h5.1.1.1
 ·split at h5
  ·simp only [Bool.and_eq_true] at h5;exact⟨Ym h5.1.1.1.1,Ym h5.1.1.1.2,Ym h5.1.1.2⟩
  ·split at h5
   ·simp only [Bool.and_eq_true] at h5;exact hb h5.1.1
   ·cases h5
theorem SQ {o:Ob}(h:YT o=true):o.Zv 64:=by
 obtain⟨h1,h2,h3,h4⟩:=TL h;refine⟨by omega,by omega,fun t ht=> ?_⟩
 obtain⟨_,_,h5,h6,_,h7⟩:=Uj (h4 t ht);refine⟨by omega,by omega,fun r hr=> ?_⟩
 obtain⟨_,h8,h9,h10,h11⟩:=OM (h7 r hr);exact⟨by omega,by omega,by omega,by omega⟩
theorem XX {r:Ro}(h:Yu r=true):r.Zv 256:=by
 obtain⟨h1,h2,h3,h4⟩:=Wm h;refine⟨by omega,by omega,fun n hn=> ?_,fun m hm=> ?_⟩
 ·have:=Ym (h3 n hn);omega
 ·have h5:=Ym (h3 _ (h4 m hm).1);have h6:=Ym (h3 _ (h4 m hm).2);omega
theorem Vg {c:Ca}(h:XT c=true){g:Gr}(hg:g∈c.Z3):g.Z8.length≤16∧g.ZY.length≤16∧(g.right=1∨g.right=2)∧g.ZN.length≤16∧g.to.length≤16∧ ∃ t i,WA c g.Z8 g.ZY=some t∧WY c.ob.Z4 t.Z8=some i:=by
 obtain⟨_,h2,h3,_,_,h6⟩:=YJ h;have h7:=Uo h6 g hg;unfold Vl at h7;simp only [Bool.and_eq_true] at h7;obtain⟨⟨⟨⟨k1,k2⟩,_⟩,k4⟩,k5⟩:=h7;obtain⟨t,ht⟩:=Option.isSome_iff_exists.1 k1;obtain⟨ht1,ht2,ht3⟩:=Uy ht;obtain⟨_,_,n1,_⟩:=Wm h3;obtain⟨_,_,s1,t1⟩:=TL h2;obtain⟨r1,_,_,_,r5,_⟩:=Uj (t1 t ht1);obtain⟨sc,hsc,hscn⟩:=L9 r5;obtain⟨i,hi⟩:=Option.isSome_iff_exists.1 r5;refine⟨?_,?_,?_,?_,?_,t,i,ht,hi⟩
 ·rw [←ht2,←hscn];exact Ym (s1 sc hsc).1
 ·rw [←ht3];exact Ym r1
 ·unfold Vc at k2;simpa using k2
 ·exact Ym (n1 _ (by simpa using k4))
 ·exact Ym (n1 _ (by simpa using k5))
theorem SH {c:Ca}(h:XT c=true):c.Zv 256:=by
 obtain⟨h1,h2,h3,_,_,_⟩:=YJ h;have h4:=SQ h2;refine⟨⟨by have:=h4.1;omega,by have:=h4.2.1;omega,fun t ht=> ?_⟩,XX h3,by omega⟩
 obtain⟨a,b,k⟩:=h4.2.2 t ht;exact⟨by omega,by omega,fun r hr=>by obtain⟨p,q,u,v⟩:=k r hr;exact⟨by omega,by omega,by omega,by omega⟩⟩
theorem TA {c:Ca} : ∀ (n:Nat)(l:List Gr),(∀ g∈l,g∈c.Z3)→ ∀ g∈Yp c n l,g∈c.Z3
 | 0,l,h=>h
 | n+1,l,h=>by
  rw [Yp]
  cases hf:c.Z3.find? (Yo c l) with
  | none=>exact h
  | some a=>
   refine TA n (l ++ [a]) fun g hg=> ?_
   rcases List.mem_append.1 hg with hg | hg
   ·exact h g hg
   ·obtain rfl:=List.mem_singleton.1 hg;exact List.mem_of_find?_eq_some hf
theorem Mr {c:Ca} : ∀ g∈WE c,g∈c.Z3:=by
 unfold WE;split
 ·exact TA _ _ (by simp)
 ·simp
theorem TB {c:Ca} : ∀ (n:Nat)(l:List Gr),(Yp c n l).length≤n+l.length
 | 0,l=>by rw [Yp];omega
 | n+1,l=>by
  rw [Yp]
  cases hf:c.Z3.find? (Yo c l) with
  | none=>simp only;omega
  | some a=>
   have:=TB (c:=c) n (l ++ [a]);simp only [List.length_append,List.length_cons,List.length_nil] at this ⊢;omega
theorem Qx {c:Ca} :(WE c).length≤c.Z3.length:=by
 unfold WE;split
 ·simpa using TB (c:=c) c.Z3.length []
 ·simp
end Go.Proofs.YtnhmoibjlakhjaaGreat
namespace Go.Proofs.YtnhmoibjlakhjaaGreat
set_option maxRecDepth 100000
set_option maxHeartbeats 16000000
open Go.RowKit Go.Maps Go.ChangeMaps Go.MapKept
section
variable {P : Program} {k t e : TypeId} {κ : Type} {kv : κ → Value} {kl : κ → Lit} {dom : κ → Prop} {w w' : World} {z : Value} {b n : Nat} {f : κ → Value}
theorem OQ {R:Value→Option (DataW Value×List MemPlace)}{es:Array MapEntry}{clock:Nat}(KL:Go.WideMaps.KeyLaw P k)(ht:P.underlying t=some (.map k e))(hz: ∀ u,(zeroValue e).run P u= .ok z u)(hb:w.heap[b]?=some (.map es clock))(F:Go.WideElems.Fit P k R es clock)
  {key:Value} {kl0:Lit} (hkey:keyOf P k key=some kl0) {v:Value} {w1:World} (h:(Instr.mapEntry t (.map (some b)) key).run P w= .ok v w1):w1.heap[b]?=w.heap[b]?∨(Instr.mapUpdate t (.map (some b)) key z).run P w= .ok () w1:=by
 rcases KL.find w hkey es.toList F.keys with ⟨h1,h2⟩ | ⟨j,e0,h1,h2,h3⟩
 ·right
  simp [Instr.mapEntry,run_underlying ht,MapKept.run_getObj_map hb,KL.check w false hkey,h1,hz,MapKept.run_setObj_map _ hb,Result.andThen,setBlock] at h;simp [Instr.mapUpdate,run_underlying ht,MapKept.run_getObj_map hb,KL.check w false hkey,h1,MapKept.run_setObj_map _ hb,Result.andThen,setBlock];exact h.2
 ·left
  have hj:es[j]?=some e0:=by simpa using h2
  have hsame:es.modify j (fun e=> { e with key:=key})=es:=by
   apply Array.ext'
   rw [Array.toList_modify,modify_eq_set _ _ _ _ h2];have:({ e0 with key:=key} :MapEntry)=e0:=by rw [←h3]
   rw [this];exact Go.WideElems.set_self _ _ _ h2
  simp [Instr.mapEntry,run_underlying ht,MapKept.run_getObj_map hb,KL.check w false hkey,h1,hj,h3,KL.stays w hkey,hsame,MapKept.run_setObj_map _ hb,Result.andThen,setBlock] at h;obtain⟨_,rfl⟩:=h;exact(heap_setBlock_same hb _).trans hb.symm
theorem Y7.JT [DecidableEq κ](h:Y7 P k kl w z b n f)(KL:Go.WideMaps.KeyLaw P k)(K:MF P k kv kl dom)(ht:P.underlying t=some (.map k e))(hz: ∀ u,(zeroValue e).run P u= .ok z u)(hn:n<maxLen){x:κ}(hx:dom x)(hf0:f x=z):
  ∃ (v0:Value) (st:Nat) (w1:World),(Instr.mapEntry t (.map (some b)) (kv x)).run P w= .ok (.tuple #[v0,goInt st]) w1∧w.grownBy w1 (some b)∧Y7 P k kl w1 z b (n+1) f∧
   ∀ (w2:World) (v:Value),w2.heap[b]?=w1.heap[b]?→ ∃ w3,(Instr.entryStore t (.map (some b)) (goInt st) v).run P w2= .ok () w3∧Y7 P k kl w3 z b (n+1) (fun y=>if y=x then v else f y)∧w2.grownBy w3 (some b):=by
 obtain⟨v0,st,w1,h1,h2,h3⟩:=h.entry KL K ht hz hn hx;refine⟨v0,st,w1,h1,h2,?_,h3⟩
 have h0:=h;obtain⟨D,⟨es,clock,hb,F,hs,hD⟩,hf⟩:=h;rcases OQ KL ht hz hb F (K.key x hx) h1 with h4 | h4
 ·exact(h0.same h4).mono (Nat.le_succ _)
 ·obtain⟨w4,h5,h6,_⟩:=h0.put K ht hn hx z;rw [h4] at h5;injection h5 with _ h5
  subst h5;have:(fun y=>if y=x then z else f y)=f:=by
   funext y
   by_cases hy:y=x
   ·rw [if_pos hy,hy,hf0]
   ·rw [if_neg hy]
  rwa [this] at h6
end
end Go.Proofs.YtnhmoibjlakhjaaGreat
namespace Go.Proofs.YtnhmoibjlakhjaaGreat
set_option maxRecDepth 100000
set_option maxHeartbeats 16000000
open Go.RowKit Go.Maps
def JP:Value→Nat
 | .slice _ n _=>n
 | _=>0
def Gr.Kj (g:Gr):Prop:=g.Z8.length≤maxLen∧g.ZY.length≤maxLen∧(Lit.int .i64 g.right).wf=true∧g.ZN.length≤maxLen∧g.to.length≤maxLen
def TF (g:Gr)(h:g.Kj):Sr:=⟨YG g,h⟩
theorem RS (g:Gr)(h:g.Kj):RU (TF g h)= .agg (XI g).toArray:=rfl
theorem JJ {c:Ca}(h:XT c=true){g:Gr}(hg:g∈c.Z3):g.Kj:=by
 obtain⟨h1,h2,h3,h4,h5,_⟩:=Vg h hg;refine⟨by unfold maxLen;omega,by unfold maxLen;omega,?_,by unfold maxLen;omega,by unfold maxLen;omega⟩
 rcases h3 with h3 | h3 <;> rw [h3] <;> decide
def SM (l:List Gr):Sr→Value:=fun x=> .int .i64 (if(l.any fun y=>YG y == x.1)=true then 1 else 0)
theorem RM {l:List Gr}{g:Gr}(h:g.Kj)(hn:(l.any fun y=>YG y == YG g)=false):SM l (TF g h)= .int .i64 0:=by
 show Value.int .i64 (if(l.any fun y=>YG y == YG g)=true then 1 else 0)=_
 rw [hn];rfl
theorem Ms {l:List Gr}{g:Gr}(h:g.Kj)(hn:(l.any fun y=>YG y == YG g)=true):SM l (TF g h)= .int .i64 1:=by
 show Value.int .i64 (if(l.any fun y=>YG y == YG g)=true then 1 else 0)=_
 rw [hn];rfl
theorem NM (l:List Gr)(g:Gr)(h:g.Kj):(fun y=>if y=TF g h then Value.int .i64 1 else SM l y)=SM (l ++ [g]):=by
 funext y
 unfold SM;rw [List.any_append];by_cases hy:y=TF g h
 ·subst hy;have:(YG g ==(TF g h).1)=true:=by show (YG g == YG g)=true;simp
  simp [this]
 ·have:(YG g == y.1)=false:=by
   have: ¬ YG g=y.1:=fun e=>hy (Subtype.ext e.symm)
   simpa using this
  rw [if_neg hy];simp [this]
structure Xd (hm:Nat) (lh l:List Gr) (v:Value) (w3 wr:World):Prop where
 bx:Zf w3.heap.size (some hm) w3 wr
 held:Y7 Tryz.prog 156 SP wr (.int .i64 0) hm lh.length (SM lh)
 own:wr.ownsRow w3.heap.size 53 6 v l.length (l.flatMap Gr.cs)
theorem Xd.later {hm:Nat}{lh l:List Gr}{v:Value}{w3 wr w':World}(h:Xd hm lh l v w3 wr)(hb:Below wr.heap.size wr w'):Xd hm lh l v w3 w':=
 ⟨h.bx.post (hb.mono h.bx.size),h.held.later hb,UR h.own fun g hg=>hb.block g (XQ h.own hg)⟩
theorem Xd.look {hm:Nat}{lh l:List Gr}{v:Value}{w3 wr:World}(h:Xd hm lh l v w3 wr)(g:Gr)(hg:g.Kj)(b:Bool)(hn:(lh.any fun y=>YG y == YG g)=b):
  (Instr.lookup 153 (.map (some hm)) (.agg (XI g).toArray) false).run Tryz.prog wr= .ok (.int .i64 (if b=true then 1 else 0)) wr:=by
 have:=h.held.look PA Tryz.underlying153 (by kernel_rfl) (x:=TF g hg) trivial;rw [RS] at this;rw [this]
 cases b
 ·rw [RM hg hn];rfl
 ·rw [Ms hg hn];rfl
theorem Xd.bump {hm:Nat}{lh l:List Gr}{v:Value}{w3 wr:World}(h:Xd hm lh l v w3 wr)(hm3:hm<w3.heap.size)(g:Gr)(hg:g.Kj)(hn:(lh.any fun y=>YG y == YG g)=false)(hl:lh.length<maxLen):
  ∃ (v0:Value) (st:Nat) (w1 w2:World),(Instr.mapEntry 153 (.map (some hm)) (.agg (XI g).toArray)).run Tryz.prog wr= .ok (.tuple #[v0,goInt st]) w1∧
   (Instr.lookup 153 (.map (some hm)) (.agg (XI g).toArray) false).run Tryz.prog w1= .ok (.int .i64 0) w1∧
   (Instr.entryStore 153 (.map (some hm)) (goInt st) (.int .i64 1)).run Tryz.prog w1= .ok () w2∧Xd hm (lh ++ [g]) l v w3 w2∧wr.grownBy w1 (some hm)∧wr.grownBy w2 (some hm):=by
 obtain⟨v0,st,w1,h1,h2,h3,h4⟩:=h.held.JT RR PA Tryz.underlying153 (by intro u;kernel_rfl) hl (x:=TF g hg) trivial (RM hg hn);obtain⟨w2,h5,h6,h7⟩:=h4 w1 (.int .i64 1) rfl;rw [RS] at h1;rw [NM] at h6;have h8:=h3.look PA Tryz.underlying153 (by kernel_rfl) (x:=TF g hg) trivial;rw [RS,RM hg hn] at h8;have hg2:wr.grownBy w2 (some hm):=h2.trans h7;have hne: ∀ k,v.ownBlock=some k→w2.heap[k]?=wr.heap[k]?:=fun k hk=>by
  have hlt:=XQ h.own hk;refine hg2.block k hlt fun e=> ?_
  injection e with e
  have:=Zu h.own k hk;omega
 refine⟨v0,st,w1,w2,h1,h8,h5,⟨⟨?_,?_,?_,?_,?_⟩,by rw [List.length_append];exact h6,UR h.own hne⟩,h2,hg2⟩
 ·exact hg2.os.trans h.bx.os
 ·exact hg2.tape.trans h.bx.tape
 ·exact hg2.output.trans h.bx.output
 ·exact Nat.le_trans h.bx.size hg2.size
 ·exact fun k hk hx=>(hg2.block k (by have:=h.bx.size;omega) (fun e=>hx e.symm)).trans (h.bx.block k hk hx)
theorem Xd.IA {hm:Nat}{lh l l':List Gr}{v v':Value}{w3 wr w':World}(h:Xd hm lh l v w3 wr)(ho:w'.ownsRow w3.heap.size 53 6 v' l'.length (l'.flatMap Gr.cs))(hg:wr.grownBy w' v.ownBlock):Xd hm lh l' v' w3 w':=by
 refine⟨⟨?_,?_,?_,?_,?_⟩,?_,ho⟩
 ·exact hg.os.trans h.bx.os
 ·exact hg.tape.trans h.bx.tape
 ·exact hg.output.trans h.bx.output
 ·exact Nat.le_trans h.bx.size hg.size
 ·exact fun k hk hx=>(hg.block k (by have:=h.bx.size;omega) (fun e=>by have:=Zu h.own k e.symm;omega)).trans (h.bx.block k hk hx)
 ·refine h.held.grown hg fun e=> ?_
  obtain⟨cs,fr,h1⟩:=YC h.own e.symm;obtain⟨D,⟨es,clock,h2,_⟩,_⟩:=h.held;rw [h1] at h2
  cases h2
theorem TV.round {r:Ro}{ZT:List UInt8}{v:Value}{w3 wr:World}{hm:Nat}{f:Sr→Value}{n:Nat}(h:TV w3 w3.heap.size r ZT v)(hb:Zf w3.heap.size (some hm) w3 wr)(hmap:Y7 Tryz.prog 156 SP w3 (.int .i64 0) hm n f):TV wr wr.heap.size r ZT v:=by
 obtain⟨A,c,h1,h2⟩:=h;refine⟨A,c,h1,fun h0=> ?_⟩
 obtain⟨ad,e,hB,hr⟩:=h2 h0;refine⟨ad,e,Nat.lt_of_lt_of_le hB hb.size,fun i u hu=> ?_⟩
 have hc:=hr i u hu;have hx:=hmap.Wx hc;have:=hb.block (ad.add i).block (by rw [Zs];exact hB) (fun e=>hx (by injection e with e;exact e.symm));unfold World.cell? at hc ⊢;rw [this];exact hc
theorem Mw {c:Ca}{l:List Gr}(h: ∀ i (hi:i<c.Z3.length),Yo c l c.Z3[i]=false):c.Z3.find? (Yo c l)=none:=by
 rw [List.find?_eq_none];intro g hg;obtain⟨i,hi,rfl⟩:=List.getElem_of_mem hg;simpa using h i hi
theorem NU {c:Ca}{l:List Gr}{j:Nat}(hj:j<c.Z3.length)(h: ∀ i (hi:i<c.Z3.length),i<j→Yo c l c.Z3[i]=false)(h1:Yo c l c.Z3[j]=true):c.Z3.find? (Yo c l)=some c.Z3[j]:=by
 rw [List.find?_eq_some_iff_getElem];exact⟨h1,j,hj,rfl,fun i hi=>by simpa using h i (by omega) hi⟩
end Go.Proofs.YtnhmoibjlakhjaaGreat
