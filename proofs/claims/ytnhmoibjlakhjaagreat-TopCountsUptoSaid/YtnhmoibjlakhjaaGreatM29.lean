/- Lemmas of the proof. No condition but each theorem's own. -/
import Derived.Test.YtnhmoibjlakhjaaGreatM28
import Derived.DeepKeys4
import Derived.Maps.AppendAt
import Derived.Test.YtnhmoibjlakhjaaGreatM17
import Derived.Test.YtnhmoibjlakhjaaGreatM03
set_option linter.unusedVariables false
set_option linter.unusedSimpArgs false
namespace Go.Proofs.YtnhmoibjlakhjaaGreat
set_option maxRecDepth 100000
set_option maxHeartbeats 16000000
open Go.RowKit Go.Maps
def Ss:Type:= { t:List UInt8×List UInt8×Int×List UInt8×List UInt8 // t.1.length≤maxLen∧t.2.1.length≤maxLen∧(Lit.int .i64 t.2.2.1).wf=true∧t.2.2.2.1.length≤maxLen∧t.2.2.2.2.length≤maxLen}
instance :DecidableEq Ss:=fun a b=>decidable_of_iff (a.1=b.1) Subtype.ext_iff.symm
def RS (x:Ss):Value:= .agg #[.string (Z9 x.1.1),.string (Z9 x.1.2.1),.int .i64 x.1.2.2.1,.string (Z9 x.1.2.2.2.1),.string (Z9 x.1.2.2.2.2)]
theorem OB:156<Tryz.prog.types.size:=of_decide_eq_true (by kernel_rfl)
theorem RQ:Go.WideMaps.KeyLaw Tryz.prog 156:=deep_law_laid (by kernel_rfl) (m:=20) (by decide) OB (by kernel_rfl) (by kernel_rfl)
theorem TH (x:Ss): ∃ l,keyOf Tryz.prog 156 (RS x)=some l:=by
 obtain⟨⟨a,b,n,c,d⟩,h1,h2,h3,h4,h5⟩:=x;have hu:=Tryz.underlying156;have hs:=Tryz.underlying9;have hr:=Tryz.underlying41;have hk:Tryz.prog.keyType 156=true:=by kernel_rfl
 have hc:Tryz.prog.cellsOf 156=5:=by kernel_rfl
 unfold RS keyOf;rw [hu];simp only [hk,Value.formed,hu,hc,Value.cells,Bool.true_and];obtain⟨m,hm⟩: ∃ m,Tryz.prog.types.size=m+1:=⟨Tryz.prog.types.size - 1,by have:=OB;omega⟩
 have hc9:Tryz.prog.cellsOf 9=1:=by kernel_rfl
 have hc41:Tryz.prog.cellsOf 41=1:=by kernel_rfl
 simp only at h1 h2 h3 h4 h5;rw [hm];simp [Program.keyLits,hu,hs,hr,hc,hc9,hc41,Yv,h1,h2,h3,h4,h5]
noncomputable def SV (x:Ss):Lit:=Classical.choose (TH x)
theorem Pt:Mw Tryz.prog 156 RS SV (fun _=>True) where
 law:=Keyed.of_law RQ
 key x _:=Classical.choose_spec (TH x)
 inj x y h:=by
  have hx:keyOf Tryz.prog 156 (RS x)=some (SV x):=Classical.choose_spec (TH x);have hy:keyOf Tryz.prog 156 (RS y)=some (SV y):=Classical.choose_spec (TH y);rw [h] at hx;have he:=RQ.inj hx hy;obtain⟨⟨a,b,n,c,d⟩,_⟩:=x;obtain⟨⟨a',b',n',c',d'⟩,_⟩:=y;have ht: ∀ {p q:List UInt8},Z9 p=Z9 q→p=q:=fun {p q} e=>by rw [←SL p,←SL q,e]
  simp only [RS,Value.agg.injEq,Array.mk.injEq,List.cons.injEq,Value.string.injEq,Value.int.injEq,and_true,true_and] at he;obtain⟨e1,e2,e3,e4,e5⟩:=he;apply Subtype.ext
  simp only [ht e1,ht e2,e3,ht e4,ht e5]
theorem Y5.Xo {P:Program}{k:TypeId}{κ:Type}{kl:κ→Lit}{w:World}{z:Value}{b n:Nat}{f:κ→Value}(h:Y5 P k kl w z b n f){p:Addr}{v:Value}(hp:w.cell? p=some v):p.block≠b:=by
 rintro rfl;obtain⟨D,⟨es,clock,hb,_⟩,_⟩:=h;simp [World.cell?,hb] at hp
theorem JT {w:World}{l:List Gr}{A:Option Addr}{B:Nat}(h:Zg w B A Gr.cs l):ZV w (· < B) YA (l.map Gr.da) A:=by
 intro h0;have h0':0<l.length:=by simpa using h0
 obtain⟨ad,rfl,hB,hr⟩:=h h0';refine⟨ad,rfl,hB,fun j d hd=> ?_⟩
 rw [List.getElem?_map] at hd
 cases hj:l[j]? with
 | none=>rw [hj] at hd;simp at hd
 | some a=>
  rw [hj] at hd;simp only [Option.map_some,Option.some.injEq] at hd;subst hd;obtain⟨hj1,rfl⟩:=List.getElem?_eq_some_iff.1 hj
  refine⟨Gr.cs l[j],Gr.VO _,fun i u hu=> ?_⟩
  have hi:i<6:=(List.getElem?_eq_some_iff.1 hu).1;exact hr _ u (by rw [show j*YA.length+i=j*6+i from rfl,Zi Gr.k l j i hj1 hi];exact hu)
def TV (w:World)(B:Nat)(r:Ro)(ZR:List UInt8)(v:Value):Prop:= ∃ A c,v= .slice A (X6 r ZR).length c∧Zg w B A YT (X6 r ZR)
theorem Zg.but {α:Type}{enc:α→List Value}{w w':World}{B:Nat}{A:Option Addr}{l:List α}(h:Zg w B A enc l)(hb: ∀ p v,w.cell? p=some v→p.block<B→w'.cell? p=some v):Zg w' B A enc l:=fun h0=>by
 obtain⟨ad,e,hB,hr⟩:=h h0;exact⟨ad,e,hB,fun i u hu=>hb _ _ (hr i u hu) (by rw [Zz];exact hB)⟩
def I9 (gs l:List Gr):Nat:=(gs.filter fun g=> !(l.any fun x=>YG x == YG g)).length
theorem Ot {gs l:List Gr}{g:Gr}(hg:g∈gs)(hn:(l.any fun x=>YG x == YG g)=false):I9 gs (l ++ [g])+1≤I9 gs l:=by
 unfold I9;induction gs with
 | nil=>cases hg
 | cons a gs ih=>
  have step: ∀ x:Gr,(!((l ++ [g]).any fun y=>YG y == YG x))=true→(!(l.any fun y=>YG y == YG x))=true:=by
   intro x hx;rw [List.any_append] at hx;simp only [Bool.not_eq_true',Bool.or_eq_false_iff] at hx ⊢;exact hx.1
  have mono: ∀ gs:List Gr,(gs.filter fun x=> !((l ++ [g]).any fun y=>YG y == YG x)).length≤(gs.filter fun x=> !(l.any fun y=>YG y == YG x)).length:=by
   intro gs;induction gs with
   | nil=>exact Nat.le_refl _
   | cons b gs ihb=>
    simp only [List.filter_cons];by_cases hb:(!((l ++ [g]).any fun y=>YG y == YG b))=true
    ·rw [if_pos hb,if_pos (step b hb)];simpa using ihb
    ·rw [if_neg hb];split
     ·simp only [List.length_cons];omega
     ·exact ihb
  simp only [List.filter_cons];rcases List.mem_cons.1 hg with rfl | hg
  ·have h1: ¬ (!((l ++ [g]).any fun y=>YG y == YG g))=true:=by rw [List.any_append];simp
   have h2:(!(l.any fun y=>YG y == YG g))=true:=by rw [hn];rfl
   rw [if_neg h1,if_pos h2];have:=mono gs;simp only [List.length_cons];omega
  ·have:=ih hg;by_cases hb:(!((l ++ [g]).any fun y=>YG y == YG a))=true
   ·rw [if_pos hb,if_pos (step a hb)];simp only [List.length_cons];omega
   ·rw [if_neg hb];split
    ·simp only [List.length_cons];omega
    ·exact this
theorem J7 (gs:List Gr):I9 gs []=gs.length:=by
 unfold I9;simp
theorem QO {c:Ca}{l:List Gr}(h:c.Z3.find? (Ya c l)=none): ∀ n,X9 c n l=l
 | 0=>rfl
 | n+1=>by rw [X9,h]
theorem Un {c:Ca}{l:List Gr}{g:Gr}(h:c.Z3.find? (Ya c l)=some g)(n:Nat):X9 c (n+1) l=X9 c n (l ++ [g]):=by rw [X9,h]
structure LG (c:Ca) (w wr:World) (im j:Nat) (nx:List UInt8→Value):Prop where
 below:Below w.heap.size w wr
 map:Y5 Tryz.prog 9 Vq wr (.slice none 0 0) im j nx
 all: ∀ ZR,nx ZR= .slice none 0 0∨TV wr wr.heap.size c.ro ZR (nx ZR)
 met: ∀ i (hi:i<c.Z3.length),i<j→TV wr wr.heap.size c.ro c.Z3[i].ZM (nx c.Z3[i].ZM)
theorem TV.later {w w':World}{r:Ro}{ZR:List UInt8}{v:Value}(h:TV w w.heap.size r ZR v)(hb:Below w.heap.size w w'):TV w' w'.heap.size r ZR v:=by
 obtain⟨A,c,h1,h2⟩:=h;exact⟨A,c,h1,h2.later hb⟩
theorem TV.but {w w':World}{r:Ro}{ZR:List UInt8}{v:Value}{b:Nat}(h:TV w w.heap.size r ZR v)(hg:w.grownBy w' (some b))(hb: ∀ p u,w.cell? p=some u→p.block≠b):TV w' w'.heap.size r ZR v:=by
 obtain⟨A,c,h1,h2⟩:=h;refine⟨A,c,h1,fun h0=> ?_⟩
 obtain⟨ad,e,hB,hr⟩:=h2 h0;exact⟨ad,e,Nat.lt_of_lt_of_le hB hg.size,fun i u hu=>(hg.cell_far _ (by rw [Zz];exact hB) (fun e=>hb _ _ (hr i u hu) (by injection e))).trans (hr i u hu)⟩
theorem LG.later {c:Ca}{w wr w':World}{im j:Nat}{nx:List UInt8→Value}(h:LG c w wr im j nx)(hb:Below wr.heap.size wr w'):LG c w w' im j nx:=
 ⟨h.below.trans (hb.mono h.below.size),h.map.later hb,fun r=>(h.all r).imp id fun h=>h.later hb,fun i hi hj=>(h.met i hi hj).later hb⟩
theorem LG.put {c:Ca}{w wr w':World}{im j:Nat}{nx:List UInt8→Value}(h:LG c w wr im j nx)(hj:j<c.Z3.length)(him:w.heap.size≤im){v:Value}(hv:TV wr wr.heap.size c.ro c.Z3[j].ZM v)
  (hm:Y5 Tryz.prog 9 Vq w' (.slice none 0 0) im (j+1) (fun y=>if y=c.Z3[j].ZM then v else nx y)) (hg:wr.grownBy w' (some im)):LG c w w' im (j+1) (fun y=>if y=c.Z3[j].ZM then v else nx y):=by
 have hf: ∀ p u,wr.cell? p=some u→p.block≠im:=fun p u hp=>h.map.Xo hp
 refine⟨h.below.grown hg h.below.size (fun k hk=>by injection hk with hk;omega),hm,fun r=> ?_,fun i hi hij=> ?_⟩
 ·show (if r=_ then v else nx r)=_∨_
  by_cases hr:r=c.Z3[j].ZM
  ·right
   rw [if_pos hr,hr];exact hv.but hg hf
  ·rw [if_neg hr];exact(h.all r).imp id fun h=>h.but hg hf
 ·show TV _ _ _ _ (if c.Z3[i].ZM=c.Z3[j].ZM then v else nx c.Z3[i].ZM)
  by_cases hr:c.Z3[i].ZM=c.Z3[j].ZM
  ·rw [if_pos hr,hr];exact hv.but hg hf
  ·rw [if_neg hr];have:i<j:=by
    rcases Nat.lt_or_ge i j with h1 | h1
    ·exact h1
    ·have:i=j:=by omega
     subst this;exact absurd rfl hr
   exact(h.met i hi this).but hg hf
theorem LG.keep {c:Ca}{w wr:World}{im j:Nat}{nx:List UInt8→Value}(h:LG c w wr im j nx)(hj:j<c.Z3.length)(hn:nx c.Z3[j].ZM≠ .slice none 0 0):LG c w wr im (j+1) nx:=
 ⟨h.below,h.map.mono (Nat.le_succ _),h.all,fun i hi hij=>by
  rcases Nat.lt_or_ge i j with h1 | h1
  ·exact h.met i hi h1
  ·have:i=j:=by omega
   subst this;exact(h.all _).resolve_left hn⟩
end Go.Proofs.YtnhmoibjlakhjaaGreat
namespace Go.Proofs.YtnhmoibjlakhjaaGreat
set_option maxRecDepth 100000
set_option maxHeartbeats 16000000
theorem Yk {s:List UInt8}(h:Zq s=true):s.length≤16:=by
 unfold Zq at h;simp only [Bool.and_eq_true,decide_eq_true_eq] at h;omega
theorem SG (c:Ca)(p:Option Gr)(a:Gr)(l:List Gr):YO c p (a ::l)=(Vd c a && (match p with | some q=> !(YG a == YG q) && !decide (0<TG q a) | none=>true) && YO c (some a) l):=rfl
theorem Uo {c:Ca} : ∀ {l:List Gr}{p:Option Gr},YO c p l=true→ ∀ g∈l,Vd c g=true
 | [],_,_,g,hg=>by cases hg
 | a ::l,p,h,g,hg=>by
  rw [SG,Bool.and_eq_true,Bool.and_eq_true] at h;rcases List.mem_cons.1 hg with rfl | hg
  ·exact h.1.1
  ·exact Uo h.2 g hg
theorem Yz {c:Ca}(h:XT c=true):c.Z3.length≤64∧YR c.ob=true∧Yr c.ro=true∧c.ro.ZW.contains Yd=true∧VG c=true∧YO c none c.Z3=true:=by
 unfold XT at h;simp only [Bool.and_eq_true,decide_eq_true_eq] at h;obtain⟨⟨⟨⟨⟨h1,h2⟩,h3⟩,h4⟩,h5⟩,h6⟩:=h;exact⟨h1,h2,h3,h4,h5,h6⟩
theorem Wn {r:Ro}(h:Yr r=true):r.ZW.length≤16∧r.Z2.length≤256∧(∀ n∈r.ZW,Zq n=true)∧ ∀ m∈r.Z2,m.ZR∈r.ZW∧m.of∈r.ZW:=by
 unfold Yr at h;simp only [Bool.and_eq_true,decide_eq_true_eq,List.all_eq_true] at h;obtain⟨⟨⟨⟨⟨h1,h2⟩,_⟩,_⟩,h3⟩,h4⟩:=h;exact⟨h1,h2,h3,fun m hm=>by simpa using (h4 m hm).1⟩
theorem S8 {c:Ca}{s n:List UInt8}{t:Tb}(h:Vo c s n=some t):t∈c.ob.Z7∧t.Z8=s∧t.name=n:=by
 unfold Vo at h;have h1:=List.find?_some h
 simp only [Bool.and_eq_true,beq_iff_eq] at h1;exact⟨List.mem_of_find?_eq_some h,h1.1,h1.2⟩
theorem TO {o:Ob}(h:YR o=true):o.Z4.length≤8∧o.Z7.length≤64∧(∀ s∈o.Z4,Zq s.name=true∧Zq s.ZN=true)∧ ∀ t∈o.Z7,YS o t=true:=by
 unfold YR at h;simp only [Bool.and_eq_true,decide_eq_true_eq,List.all_eq_true] at h;obtain⟨⟨⟨⟨⟨h1,h2⟩,_⟩,_⟩,h3⟩,h4⟩:=h;exact⟨h1,h2,fun s hs=>(h3 s hs).1,h4⟩
theorem Uj {o:Ob}{t:Tb}(h:YS o t=true):Zq t.name=true∧Zq t.ZN=true∧t.ZY.length≤8∧t.ZT.length≤8∧(WU o.Z4 t.Z8).isSome=true∧ ∀ r∈t.ZT,Yt t.ZY r=true:=by
 unfold YS at h;simp only [Bool.and_eq_true,decide_eq_true_eq,List.all_eq_true] at h;obtain⟨⟨⟨⟨⟨⟨h1,h2⟩,h3⟩,h4⟩,h5⟩,h6⟩,_⟩:=h;unfold Yb at h3;simp only [Bool.and_eq_true,decide_eq_true_eq] at h3;refine⟨h1,h2,h3.1.2,h4,h5,fun r hr=> ?_⟩
 have:=h6 r hr;unfold U2 at this;simp only [Bool.and_eq_true] at this;exact this.1
theorem LR {l:List Sc}{n:List UInt8}(h:(WU l n).isSome=true): ∃ s∈l,s.name=n:=by
 unfold WU at h;rw [List.findIdx?_isSome,List.any_eq_true] at h;obtain⟨s,hs,h⟩:=h;exact⟨s,hs,by simpa using h⟩
theorem OD {l:List Cl}{r:Ru}(h:Yt l r=true):r.name.length≤16∧r.ZY.length≤l.length∧r.Z8.length≤16∧r.ZX.length≤16∧r.key.length≤16:=by
 unfold Yt at h;simp only [Bool.and_eq_true,decide_eq_true_eq] at h;obtain⟨⟨⟨⟨h1,_⟩,h3⟩,_⟩,h5⟩:=h;have hb:SZ r=true→r.Z8.length≤16∧r.ZX.length≤16∧r.key.length≤16:=fun h=>by
  unfold SZ at h;simp only [beq_iff_eq,List.append_eq_nil_iff] at h;obtain⟨⟨h1,h2⟩,h3⟩:=h;rw [h1,h2,h3];exact⟨by simp,by simp,by simp⟩
 refine⟨Yk h1,h3,?_⟩
 unfold TJ at h5;split at h5
 ·simp only [Bool.and_eq_true] at h5;exact hb h5.1.1.1
 ·split at h5
  ·simp only [Bool.and_eq_true] at h5;exact⟨Yk h5.1.1.1.1,Yk h5.1.1.1.2,Yk h5.1.1.2⟩
  ·split at h5
   ·simp only [Bool.and_eq_true] at h5;exact hb h5.1.1
   ·cases h5
theorem SX {o:Ob}(h:YR o=true):o.Zs 64:=by
 obtain⟨h1,h2,h3,h4⟩:=TO h;refine⟨by omega,by omega,fun t ht=> ?_⟩
 obtain⟨_,_,h5,h6,_,h7⟩:=Uj (h4 t ht);refine⟨by omega,by omega,fun r hr=> ?_⟩
 obtain⟨_,h8,h9,h10,h11⟩:=OD (h7 r hr);exact⟨by omega,by omega,by omega,by omega⟩
theorem XY {r:Ro}(h:Yr r=true):r.Zs 256:=by
 obtain⟨h1,h2,h3,h4⟩:=Wn h;refine⟨by omega,by omega,fun n hn=> ?_,fun m hm=> ?_⟩
 ·have:=Yk (h3 n hn);omega
 ·have h5:=Yk (h3 _ (h4 m hm).1);have h6:=Yk (h3 _ (h4 m hm).2);omega
theorem U7 {c:Ca}(h:XT c=true){g:Gr}(hg:g∈c.Z3):g.Z8.length≤16∧g.ZX.length≤16∧(g.right=1∨g.right=2)∧g.ZM.length≤16∧g.to.length≤16∧ ∃ t i,Vo c g.Z8 g.ZX=some t∧WU c.ob.Z4 t.Z8=some i:=by
 obtain⟨_,h2,h3,_,_,h6⟩:=Yz h;have h7:=Uo h6 g hg;unfold Vd at h7;simp only [Bool.and_eq_true] at h7;obtain⟨⟨⟨⟨k1,k2⟩,_⟩,k4⟩,k5⟩:=h7;obtain⟨t,ht⟩:=Option.isSome_iff_exists.1 k1;obtain⟨ht1,ht2,ht3⟩:=S8 ht;obtain⟨_,_,n1,_⟩:=Wn h3;obtain⟨_,_,s1,t1⟩:=TO h2;obtain⟨r1,_,_,_,r5,_⟩:=Uj (t1 t ht1);obtain⟨sc,hsc,hscn⟩:=LR r5;obtain⟨i,hi⟩:=Option.isSome_iff_exists.1 r5;refine⟨?_,?_,?_,?_,?_,t,i,ht,hi⟩
 ·rw [←ht2,←hscn];exact Yk (s1 sc hsc).1
 ·rw [←ht3];exact Yk r1
 ·unfold TA at k2;simpa using k2
 ·exact Yk (n1 _ (by simpa using k4))
 ·exact Yk (n1 _ (by simpa using k5))
theorem SM {c:Ca}(h:XT c=true):c.Zs 256:=by
 obtain⟨h1,h2,h3,_,_,_⟩:=Yz h;have h4:=SX h2;refine⟨⟨by have:=h4.1;omega,by have:=h4.2.1;omega,fun t ht=> ?_⟩,XY h3,by omega⟩
 obtain⟨a,b,k⟩:=h4.2.2 t ht;exact⟨by omega,by omega,fun r hr=>by obtain⟨p,q,u,v⟩:=k r hr;exact⟨by omega,by omega,by omega,by omega⟩⟩
theorem TE {c:Ca} : ∀ (n:Nat)(l:List Gr),(X9 c n l).length≤n+l.length
 | 0,l=>by rw [X9];omega
 | n+1,l=>by
  rw [X9]
  cases hf:c.Z3.find? (Ya c l) with
  | none=>simp only;omega
  | some a=>
   have:=TE (c:=c) n (l ++ [a]);simp only [List.length_append,List.length_cons,List.length_nil] at this ⊢;omega
theorem Qp {c:Ca} :(VX c).length≤c.Z3.length:=by
 unfold VX;split
 ·simpa using TE (c:=c) c.Z3.length []
 ·simp
end Go.Proofs.YtnhmoibjlakhjaaGreat
namespace Go.Proofs.YtnhmoibjlakhjaaGreat
set_option maxRecDepth 100000
set_option maxHeartbeats 16000000
open Go.RowKit Go.Maps Go.ChangeMaps Go.MapKept
section
variable {P : Program} {k t e : TypeId} {κ : Type} {kv : κ → Value} {kl : κ → Lit} {dom : κ → Prop} {w w' : World} {z : Value} {b n : Nat} {f : κ → Value}
theorem OI {R:Value→Option (DataW Value×List MemPlace)}{es:Array MapEntry}{clock:Nat}(KL:Go.WideMaps.KeyLaw P k)(ht:P.underlying t=some (.map k e))(hz: ∀ u,(zeroValue e).run P u= .ok z u)(hb:w.heap[b]?=some (.map es clock))(F:Go.WideElems.Fit P k R es clock)
  {key:Value} {kl0:Lit} (hkey:keyOf P k key=some kl0) {v:Value} {w1:World} (h:(Instr.mapEntry t (.map (some b)) key).run P w= .ok v w1):w1.heap[b]?=w.heap[b]?∨(Instr.mapUpdate t (.map (some b)) key z).run P w= .ok () w1:=by
 rcases KL.find w hkey es.toList F.keys with ⟨h1,h2⟩ | ⟨j,e0,h1,h2,h3⟩
 ·right
  simp [Instr.mapEntry,run_underlying ht,MapKept.run_getObj_map hb,KL.check w false hkey,h1,hz,MapKept.run_setObj_map _ hb,Result.andThen,setBlock] at h;simp [Instr.mapUpdate,run_underlying ht,MapKept.run_getObj_map hb,KL.check w false hkey,h1,MapKept.run_setObj_map _ hb,Result.andThen,setBlock];exact h.2
 ·left
  have hj:es[j]?=some e0:=by simpa using h2
  have hsame:es.modify j (fun e=> { e with key:=key})=es:=by
   apply Array.ext'
   rw [Array.toList_modify,modify_eq_set _ _ _ _ h2];have:({ e0 with key:=key} :MapEntry)=e0:=by rw [←h3]
   rw [this];exact Go.WideElems.set_self _ _ _ h2
  simp [Instr.mapEntry,run_underlying ht,MapKept.run_getObj_map hb,KL.check w false hkey,h1,hj,h3,KL.stays w hkey,hsame,MapKept.run_setObj_map _ hb,Result.andThen,setBlock] at h;obtain⟨_,rfl⟩:=h;exact(heap_setBlock_same hb _).trans hb.symm
theorem Y5.Jy [DecidableEq κ](h:Y5 P k kl w z b n f)(KL:Go.WideMaps.KeyLaw P k)(K:Mw P k kv kl dom)(ht:P.underlying t=some (.map k e))(hz: ∀ u,(zeroValue e).run P u= .ok z u)(hn:n<maxLen){x:κ}(hx:dom x)(hf0:f x=z):
  ∃ (v0:Value) (st:Nat) (w1:World),(Instr.mapEntry t (.map (some b)) (kv x)).run P w= .ok (.tuple #[v0,goInt st]) w1∧w.grownBy w1 (some b)∧Y5 P k kl w1 z b (n+1) f∧
   ∀ (w2:World) (v:Value),w2.heap[b]?=w1.heap[b]?→ ∃ w3,(Instr.entryStore t (.map (some b)) (goInt st) v).run P w2= .ok () w3∧Y5 P k kl w3 z b (n+1) (fun y=>if y=x then v else f y)∧w2.grownBy w3 (some b):=by
 obtain⟨v0,st,w1,h1,h2,h3⟩:=h.entry KL K ht hz hn hx;refine⟨v0,st,w1,h1,h2,?_,h3⟩
 have h0:=h;obtain⟨D,⟨es,clock,hb,F,hs,hD⟩,hf⟩:=h;rcases OI KL ht hz hb F (K.key x hx) h1 with h4 | h4
 ·exact(h0.same h4).mono (Nat.le_succ _)
 ·obtain⟨w4,h5,h6,_⟩:=h0.put K ht hn hx z;rw [h4] at h5;injection h5 with _ h5
  subst h5;have:(fun y=>if y=x then z else f y)=f:=by
   funext y
   by_cases hy:y=x
   ·rw [if_pos hy,hy,hf0]
   ·rw [if_neg hy]
  rwa [this] at h6
end
end Go.Proofs.YtnhmoibjlakhjaaGreat
namespace Go.Proofs.YtnhmoibjlakhjaaGreat
set_option maxRecDepth 100000
set_option maxHeartbeats 16000000
open Go.RowKit Go.Maps
def Jt:Value→Nat
 | .slice _ n _=>n
 | _=>0
def Gr.JZ (g:Gr):Prop:=g.Z8.length≤maxLen∧g.ZX.length≤maxLen∧(Lit.int .i64 g.right).wf=true∧g.ZM.length≤maxLen∧g.to.length≤maxLen
def TI (g:Gr)(h:g.JZ):Ss:=⟨YG g,h⟩
theorem RR (g:Gr)(h:g.JZ):RS (TI g h)= .agg (XI g).toArray:=rfl
theorem Jj {c:Ca}(h:XT c=true){g:Gr}(hg:g∈c.Z3):g.JZ:=by
 obtain⟨h1,h2,h3,h4,h5,_⟩:=U7 h hg;refine⟨by unfold maxLen;omega,by unfold maxLen;omega,?_,by unfold maxLen;omega,by unfold maxLen;omega⟩
 rcases h3 with h3 | h3 <;> rw [h3] <;> decide
def SS (l:List Gr):Ss→Value:=fun x=> .int .i64 (if(l.any fun y=>YG y == x.1)=true then 1 else 0)
theorem RK {l:List Gr}{g:Gr}(h:g.JZ)(hn:(l.any fun y=>YG y == YG g)=false):SS l (TI g h)= .int .i64 0:=by
 show Value.int .i64 (if(l.any fun y=>YG y == YG g)=true then 1 else 0)=_
 rw [hn];rfl
theorem Mh {l:List Gr}{g:Gr}(h:g.JZ)(hn:(l.any fun y=>YG y == YG g)=true):SS l (TI g h)= .int .i64 1:=by
 show Value.int .i64 (if(l.any fun y=>YG y == YG g)=true then 1 else 0)=_
 rw [hn];rfl
theorem ND (l:List Gr)(g:Gr)(h:g.JZ):(fun y=>if y=TI g h then Value.int .i64 1 else SS l y)=SS (l ++ [g]):=by
 funext y
 unfold SS;rw [List.any_append];by_cases hy:y=TI g h
 ·subst hy;have:(YG g ==(TI g h).1)=true:=by show (YG g == YG g)=true;simp
  simp [this]
 ·have:(YG g == y.1)=false:=by
   have: ¬ YG g=y.1:=fun e=>hy (Subtype.ext e.symm)
   simpa using this
  rw [if_neg hy];simp [this]
structure Xd (hm:Nat) (lh l:List Gr) (v:Value) (w3 wr:World):Prop where
 bx:Ze w3.heap.size (some hm) w3 wr
 held:Y5 Tryz.prog 156 SV wr (.int .i64 0) hm lh.length (SS lh)
 own:wr.ownsRow w3.heap.size 53 6 v l.length (l.flatMap Gr.cs)
theorem Xd.later {hm:Nat}{lh l:List Gr}{v:Value}{w3 wr w':World}(h:Xd hm lh l v w3 wr)(hb:Below wr.heap.size wr w'):Xd hm lh l v w3 w':=
 ⟨h.bx.post (hb.mono h.bx.size),h.held.later hb,UN h.own fun g hg=>hb.block g (XQ h.own hg)⟩
theorem Xd.look {hm:Nat}{lh l:List Gr}{v:Value}{w3 wr:World}(h:Xd hm lh l v w3 wr)(g:Gr)(hg:g.JZ)(b:Bool)(hn:(lh.any fun y=>YG y == YG g)=b):
  (Instr.lookup 153 (.map (some hm)) (.agg (XI g).toArray) false).run Tryz.prog wr= .ok (.int .i64 (if b=true then 1 else 0)) wr:=by
 have:=h.held.look Pt Tryz.underlying153 (by kernel_rfl) (x:=TI g hg) trivial;rw [RR] at this;rw [this]
 cases b
 ·rw [RK hg hn];rfl
 ·rw [Mh hg hn];rfl
theorem Xd.bump {hm:Nat}{lh l:List Gr}{v:Value}{w3 wr:World}(h:Xd hm lh l v w3 wr)(hm3:hm<w3.heap.size)(g:Gr)(hg:g.JZ)(hn:(lh.any fun y=>YG y == YG g)=false)(hl:lh.length<maxLen):
  ∃ (v0:Value) (st:Nat) (w1 w2:World),(Instr.mapEntry 153 (.map (some hm)) (.agg (XI g).toArray)).run Tryz.prog wr= .ok (.tuple #[v0,goInt st]) w1∧
   (Instr.lookup 153 (.map (some hm)) (.agg (XI g).toArray) false).run Tryz.prog w1= .ok (.int .i64 0) w1∧
   (Instr.entryStore 153 (.map (some hm)) (goInt st) (.int .i64 1)).run Tryz.prog w1= .ok () w2∧Xd hm (lh ++ [g]) l v w3 w2∧wr.grownBy w1 (some hm)∧wr.grownBy w2 (some hm):=by
 obtain⟨v0,st,w1,h1,h2,h3,h4⟩:=h.held.Jy RQ Pt Tryz.underlying153 (by intro u;kernel_rfl) hl (x:=TI g hg) trivial (RK hg hn);obtain⟨w2,h5,h6,h7⟩:=h4 w1 (.int .i64 1) rfl;rw [RR] at h1;rw [ND] at h6;have h8:=h3.look Pt Tryz.underlying153 (by kernel_rfl) (x:=TI g hg) trivial;rw [RR,RK hg hn] at h8;have hg2:wr.grownBy w2 (some hm):=h2.trans h7;have hne: ∀ k,v.ownBlock=some k→w2.heap[k]?=wr.heap[k]?:=fun k hk=>by
  have hlt:=XQ h.own hk;refine hg2.block k hlt fun e=> ?_
  injection e with e
  have:=Zt h.own k hk;omega
 refine⟨v0,st,w1,w2,h1,h8,h5,⟨⟨?_,?_,?_,?_,?_⟩,by rw [List.length_append];exact h6,UN h.own hne⟩,h2,hg2⟩
 ·exact hg2.os.trans h.bx.os
 ·exact hg2.tape.trans h.bx.tape
 ·exact hg2.output.trans h.bx.output
 ·exact Nat.le_trans h.bx.size hg2.size
 ·exact fun k hk hx=>(hg2.block k (by have:=h.bx.size;omega) (fun e=>hx e.symm)).trans (h.bx.block k hk hx)
theorem Xd.H9 {hm:Nat}{lh l l':List Gr}{v v':Value}{w3 wr w':World}(h:Xd hm lh l v w3 wr)(ho:w'.ownsRow w3.heap.size 53 6 v' l'.length (l'.flatMap Gr.cs))(hg:wr.grownBy w' v.ownBlock):Xd hm lh l' v' w3 w':=by
 refine⟨⟨?_,?_,?_,?_,?_⟩,?_,ho⟩
 ·exact hg.os.trans h.bx.os
 ·exact hg.tape.trans h.bx.tape
 ·exact hg.output.trans h.bx.output
 ·exact Nat.le_trans h.bx.size hg.size
 ·exact fun k hk hx=>(hg.block k (by have:=h.bx.size;omega) (fun e=>by have:=Zt h.own k e.symm;omega)).trans (h.bx.block k hk hx)
 ·refine h.held.grown hg fun e=> ?_
  obtain⟨cs,fr,h1⟩:=YC h.own e.symm;obtain⟨D,⟨es,clock,h2,_⟩,_⟩:=h.held;rw [h1] at h2
  cases h2
theorem TV.round {r:Ro}{ZR:List UInt8}{v:Value}{w3 wr:World}{hm:Nat}{f:Ss→Value}{n:Nat}(h:TV w3 w3.heap.size r ZR v)(hb:Ze w3.heap.size (some hm) w3 wr)(hmap:Y5 Tryz.prog 156 SV w3 (.int .i64 0) hm n f):TV wr wr.heap.size r ZR v:=by
 obtain⟨A,c,h1,h2⟩:=h;refine⟨A,c,h1,fun h0=> ?_⟩
 obtain⟨ad,e,hB,hr⟩:=h2 h0;refine⟨ad,e,Nat.lt_of_lt_of_le hB hb.size,fun i u hu=> ?_⟩
 have hc:=hr i u hu;have hx:=hmap.Xo hc;have:=hb.block (ad.add i).block (by rw [Zz];exact hB) (fun e=>hx (by injection e with e;exact e.symm));unfold World.cell? at hc ⊢;rw [this];exact hc
theorem Mm {c:Ca}{l:List Gr}(h: ∀ i (hi:i<c.Z3.length),Ya c l c.Z3[i]=false):c.Z3.find? (Ya c l)=none:=by
 rw [List.find?_eq_none];intro g hg;obtain⟨i,hi,rfl⟩:=List.getElem_of_mem hg;simpa using h i hi
theorem NL {c:Ca}{l:List Gr}{j:Nat}(hj:j<c.Z3.length)(h: ∀ i (hi:i<c.Z3.length),i<j→Ya c l c.Z3[i]=false)(h1:Ya c l c.Z3[j]=true):c.Z3.find? (Ya c l)=some c.Z3[j]:=by
 rw [List.find?_eq_some_iff_getElem];exact⟨h1,j,hj,rfl,fun i hi=>by simpa using h i (by omega) hi⟩
end Go.Proofs.YtnhmoibjlakhjaaGreat
