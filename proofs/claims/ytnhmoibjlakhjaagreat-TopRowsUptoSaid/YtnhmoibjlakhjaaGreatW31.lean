/- Lemmas, each under its own conditions. -/
import Derived.Test.YtnhmoibjlakhjaaGreatW29
import Derived.Test.YtnhmoibjlakhjaaGreatW30
set_option linter.all false
namespace Go.Proofs.YtnhmoibjlakhjaaGreat
set_option maxRecDepth 100000
set_option maxHeartbeats 16000000
theorem UF: ∀ {a b:lU},YR a b=0->a=b
 | [],[],_=>rfl
 | [],_ ::_,h=>by simp [YR,Lib.compareBytes] at h
 | _ ::_,[],h=>by simp [YR,Lib.compareBytes] at h
 | x ::a,y ::b,h=>by
  simp only [YR,Lib.compareBytes] at h;split at h
  ·cases h
  ·split at h
   ·cases h
   ·rename_i d j;have e:x=y:=by
     have m: ¬ x.toNat<y.toNat:=d;have s: ¬ y.toNat<x.toNat:=j;exact UInt8.toNat_inj.1 (by omega)
    rw [e,UF (a:=a) (b:=b) h]
theorem LF {a b:Int}(h:Pf a b=0):a=0/\b=0:=by
 unfold Pf at h;split at h
 ·rename_i d;exact⟨d,h⟩
 ·rename_i d;exact absurd h d
theorem Rj:U3 WM:=Xx.RI fun x:Ru=>x.name
theorem ID {a b:Sc}(h:Wk a b=0):a.name=b.name:=UF h
theorem IN {a b:Ru}(h:WM a b=0):a.name=b.name:=UF h
theorem Ix {a b:Tb}(h:Xg a b=0):a.Z9=b.Z9/\a.name=b.name:=⟨UF (LF h).1,UF (LF h).2⟩
theorem Vn {α:Type}{c:α->α->Int}(d:U3 c): ∀ {l:List α},Zt c l=true->l.Pairwise (fun a b=>c a b<0)
 | [],_=>List.Pairwise.nil
 | a ::l,h=>List.Pairwise.cons (UP d h) (Vn d (Tx h))
theorem Ti {α:Type}{c:α->α->Int} : ∀ {l:List α},l.Pairwise (fun a b=>c a b<0)->Zt c l=true
 | [],_=>rfl
 | [a],_=>rfl
 | a ::b ::l,h=>by
  rw [Zt,Bool.and_eq_true,decide_eq_true_eq];have d:=List.pairwise_cons.1 h;exact⟨d.1 b (by simp),Ti d.2⟩
theorem OZ {α:Type}{c:α->α->Int}(j:U3 c){l d:List α}(h:Zt c l=true)(m:d.Sublist l):Zt c d=true:=Ti ((Vn j h).sublist m)
theorem Tw {α:Type}{c:α->α->Int}(m:U3 c){l d:List α}{x:α}(I:d.Perm (l ++ [x]))(G:Zt c l=true)(K: ∀ a∈l,c a x≠0)(J: ∀ (a b:Nat)(C:a<d.length)(hb:b<d.length),a<b->0<=c d[b] d[a]):Zt c d=true:=by
 have F:(l ++ [x]).Pairwise (fun a b=>c a b≠0):=by
  rw [List.pairwise_append];refine⟨(Vn m G).imp (fun h=>by omega),List.pairwise_singleton _ _,fun a C b hb=> ?_⟩
  rw [List.mem_singleton.1 hb];exact K a C
 have u:d.Pairwise (fun a b=>c a b≠0):=(List.Perm.pairwise_iff (fun {a b} h h'=>h (by rw [m.MJ b a,h'];rfl)) I).2 F;refine Ti ?_
 rw [List.pairwise_iff_getElem] at u ⊢;intro i j D E s;have L:=u i j D E s;have M:=J i j D E s;have N:=m.MJ d[i] d[j];omega
theorem RG {α:Type}{c:α->α->Int}(m:U3 c): ∀ {l:List α},Zt c l=true-> ∀ a∈l,∀ b∈l,c a b=0->a=b
 | [],_,a,d,_,_,_=>by cases d
 | x ::l,h,a,d,b,hb,hz=>by
  have u:=UP m h;rcases List.mem_cons.1 d with s | d
  ·rcases List.mem_cons.1 hb with j | hb
   ·rw [s,j]
   ·have:=u b hb;rw [s] at hz;omega
  ·rcases List.mem_cons.1 hb with j | hb
   ·have D:=u a d;have C:=m.MJ a b;rw [j] at C hz;omega
   ·exact RG m (Tx h) a d b hb hz
theorem PD {α:Type}{p:α->Bool} : ∀ {l:List α}{x:α},x∈l->p x=true->(∀ y∈l,p y=true->y=x)->l.find? p=some x
 | [],x,h,_,_=>by cases h
 | a ::l,x,h,hp,hu=>by
  rw [List.find?_cons]
  cases ha:p a with
  | true=>rw [hu a (by simp) ha]
  | false=>
   rcases List.mem_cons.1 h with rfl | h
   ·rw [hp] at ha;cases ha
   ·exact PD h hp fun y d=>hu y (List.mem_cons_of_mem _ d)
theorem KP {l:List Cl}{n:lU} :Y7 l n=none↔ ∀ d∈l,d.name≠n:=by
 unfold Y7;rw [List.findIdx?_eq_none_iff];simp
theorem PN (d:Cl)(l:List Cl)(n:lU):Y7 (d ::l) n=if d.name == n then some 0 else(Y7 l n).map (· +1):=by
 unfold Y7;rw [List.findIdx?_cons]
theorem Oj: ∀ (pre:List Cl)(c:Cl)(r:List Cl),(Y7 (pre ++c ::r) c.name=some pre.length↔ ∀ d∈pre,d.name≠c.name)
 | [],c,r=>by simp [PN]
 | d ::pre,c,r=>by
  rw [List.cons_append,PN]
  cases h:d.name == c.name with
  | true=>
   have j:d.name=c.name:=by simpa using h
   simp [j]
  | false=>
   have j:d.name≠c.name:=by simpa using h
   have:=Oj pre c r;simp only [Bool.false_eq_true,if_false,List.length_cons,List.mem_cons,forall_eq_or_imp];rw [<-this];constructor
   ·intro e;refine⟨j,?_⟩
    cases hc:Y7 (pre ++c ::r) c.name with
    | none=>rw [hc] at e;cases e
    | some v=>rw [hc] at e;simpa using e
   ·rintro⟨_,e⟩;rw [e];rfl
theorem Jo: ∀ (r pre:List Cl),(XH (pre ++r) pre.length r=true↔(∀ c∈r,VR c=true)/\(∀ d∈pre,∀ c∈r,d.name≠c.name)/\r.Pairwise (fun a b=>a.name≠b.name))
 | [],pre=>by simp [XH]
 | c ::r,pre=>by
  have u:=Oj pre c r;have s:=Jo r (pre ++ [c]);rw [List.append_assoc,List.singleton_append,List.length_append,List.length_singleton] at s;simp only [XH,Bool.and_eq_true,beq_iff_eq];rw [u,s];simp only [List.mem_cons,forall_eq_or_imp,List.pairwise_cons,List.mem_append,List.mem_singleton];constructor
  ·rintro⟨⟨a1,a2⟩,a3,a4,m⟩;exact⟨⟨a1,a3⟩,fun d hd=>⟨a2 d hd,fun j h=>a4 d (Or.inl hd) j h⟩,fun j h=>a4 c (Or.inr (Or.inl rfl)) j h,m⟩
  ·rintro⟨⟨a1,a3⟩,a2,a4,m⟩;refine⟨⟨a1,fun d hd=>(a2 d hd).1⟩,a3,fun d hd j h=> ?_,m⟩
   rcases hd with hd | hd | hd
   ·exact(a2 d hd).2 j h
   ·rw [hd];exact a4 j h
   ·cases hd
theorem TE {l:List Cl} :YJ l=true↔1<=l.length/\l.length<=8/\(∀ c∈l,VR c=true)/\l.Pairwise (fun a b=>a.name≠b.name):=by
 unfold YJ;have:=Jo l [];simp only [List.nil_append,List.length_nil] at this;rw [Bool.and_eq_true,Bool.and_eq_true,decide_eq_true_eq,decide_eq_true_eq,this];simp only [List.not_mem_nil,false_implies,implies_true,true_and,and_assoc]
theorem LK {l:List Cl}{c:Cl}(h:YJ l=true)(u:VR c=true)(C:Y7 l c.name=none)(F:l.length<8):YJ (l ++ [c])=true:=by
 rw [TE] at h ⊢;obtain⟨D,E,j,m⟩:=h;refine⟨by simp,by simp;omega,fun d hd=> ?_,?_⟩
 ·rcases List.mem_append.1 hd with hd | hd
  ·exact j d hd
  ·rw [List.mem_singleton.1 hd];exact u
 ·rw [List.pairwise_append];exact⟨m,List.pairwise_singleton _ _,fun a s b hb=>by rw [List.mem_singleton.1 hb];exact KP.1 C a s⟩
theorem LJ {l m:List Cl}(h:YJ l=true)(j:m.Sublist l)(D:1<=m.length):YJ m=true:=by
 rw [TE] at h ⊢;obtain⟨E,s,u,C⟩:=h;exact⟨D,Nat.le_trans j.length_le s,fun d hd=>u d (j.subset hd),C.sublist j⟩
theorem NT {l:List Cl}{n:lU} :(Y7 l n).isSome=(Yf l n).isSome:=by
 unfold Y7 Yf;rw [Option.isSome_map,List.findIdx?_isSome,Bool.eq_iff_iff,List.any_eq_true,List.find?_isSome]
theorem He {l:List Cl}{c:Cl}{n:lU}(h:(Y7 l n).isSome=true):Yf (l ++ [c]) n=Yf l n:=by
 rw [NT] at h;unfold Yf at h ⊢;rw [List.find?_append]
 cases hf:l.find? (fun c=>c.name == n) with
 | none=>rw [hf] at h;cases h
 | some x=>rfl
theorem PE {α:Type}{p:α->Bool} : ∀ {l:List α}{k:Nat}(d:k<l.length),p l[k]=false->(l.eraseIdx k).find? p=l.find? p
 | a ::l,0,d,h=>by
  have m:p a=false:=h;rw [List.eraseIdx_zero,List.tail_cons,List.find?_cons,m]
 | a ::l,k+1,d,h=>by
  have j:k<l.length:=by simpa using d
  rw [List.eraseIdx_cons_succ,List.find?_cons,List.find?_cons,PE j (by simpa using h)]
theorem VV {l:List Cl}{n:lU}{k:Nat}(h:Y7 l n=some k): ∃ d:k<l.length,l[k].name=n:=by
 unfold Y7 at h;obtain⟨d,j,_⟩:=List.findIdx?_eq_some_iff_getElem.1 h
 exact⟨d,by simpa using j⟩
theorem Kl {l:List Cl}{k:Nat}{n nm:lU}(h:Y7 l nm=some k)(m:n≠nm):Yf (l.eraseIdx k) n=Yf l n:=by
 obtain⟨j,d⟩:=VV h;unfold Yf;rw [PE j];rw [d];simpa using Ne.symm m
theorem M7 {l:List Cl}{cs:List lU} : ∀ {r:List lU}{i:Nat},YL l cs i r=true-> ∀ n∈r,(Y7 l n).isSome=true
 | [],_,_,n,d=>by cases d
 | a ::r,i,h,n,d=>by
  simp only [YL,Bool.and_eq_true] at h;rcases List.mem_cons.1 d with rfl | d
  ·exact h.1.1
  ·exact M7 h.2 n d
theorem PC {l d:List Cl}{cs:List lU} : ∀ {r:List lU}{i:Nat},(∀ n∈r,(Y7 d n).isSome=true)->YL l cs i r=true->YL d cs i r=true
 | [],_,_,_=>rfl
 | a ::r,i,ha,h=>by
  simp only [YL,Bool.and_eq_true] at h ⊢;exact⟨⟨ha a (by simp),h.1.2⟩,PC (fun n j=>ha n (List.mem_cons_of_mem _ j)) h.2⟩
theorem Ju {cs:List lU} : ∀ (pre:List lU)(n:lU)(r:List lU),(pre ++n ::r).findIdx? (· == n)=some pre.length->n∉pre
 | [],n,r,_=>by simp
 | d ::pre,n,r,h=>by
  rw [List.cons_append,List.findIdx?_cons] at h
  cases hd:d == n with
  | true=>rw [hd] at h;simp at h
  | false=>
   rw [hd] at h;simp only [Bool.false_eq_true,if_false] at h;have j:(pre ++n ::r).findIdx? (· == n)=some pre.length:=by
    cases hc:(pre ++n ::r).findIdx? (· == n) with
    | none=>rw [hc] at h;cases h
    | some v=>rw [hc] at h;simpa using h
   have:=Ju (cs:=cs) pre n r j;have m:d≠n:=by simpa using hd
   simp [this,Ne.symm m]
theorem Og {l:List Cl} : ∀ (r pre:List lU),YL l (pre ++r) pre.length r=true->r.Nodup/\ ∀ n∈r,n∉pre
 | [],pre,_=>⟨List.nodup_nil,by simp⟩
 | n ::r,pre,h=>by
  simp only [YL,Bool.and_eq_true,beq_iff_eq] at h;have s:=Ju (cs:= []) pre n r h.1.2;have j:=Og r (pre ++ [n]) (by simpa using h.2);refine⟨List.nodup_cons.2 ⟨fun d=> ?_,j.1⟩,fun m d=> ?_⟩
  ·exact j.2 n d (by simp)
  ·rcases List.mem_cons.1 d with rfl | d
   ·exact s
   ·exact fun u=>j.2 m d (by simp [u])
theorem LH {α:Type} [DecidableEq α]: ∀ {a b:List α},a.Nodup->(∀ x∈a,x∈b)->a.length<=b.length
 | [],b,_,_=>by simp
 | x ::a,b,h,hs=>by
  have d:=List.nodup_cons.1 h;have j:=hs x (by simp);have s:=LH (b:=b.erase x) d.2 fun y m=>(List.mem_erase_of_ne (fun e=>d.1 (by rw [<-e];exact m))).2 (hs y (List.mem_cons_of_mem _ m))
  have u:=List.length_erase_of_mem j;have C:=List.length_pos_of_mem j;simp only [List.length_cons];omega
theorem F4 {l:List Cl}{n:lU}(h:(Y7 l n).isSome=true):n∈l.map (·.name):=by
 obtain⟨k,d⟩:=Option.isSome_iff_exists.1 h;obtain⟨d,j⟩:=VV d;exact List.mem_map.2 ⟨l[k],List.getElem_mem d,j⟩
theorem QW {l m:List Cl}{r:Ru}(h:YA l r=true)(D: ∀ n∈r.Z3,Yf m n=Yf l n):YA m r=true:=by
 unfold YA at h ⊢;simp only [Bool.and_eq_true,decide_eq_true_eq] at h ⊢;obtain⟨⟨⟨⟨F,G⟩,I⟩,u⟩,d⟩:=h;have C: ∀ n∈r.Z3,(Y7 m n).isSome=true:=fun n j=>by
  have:=M7 u n j;rw [NT] at this ⊢;rw [D n j];exact this
 have E:=(Og (l:=l) r.Z3 [] (by simpa using u)).1;refine⟨⟨⟨⟨F,G⟩,?_⟩,PC C u⟩,?_⟩
 ·have:=LH (b:=m.map (·.name)) E fun n j=>F4 (C n j)
  simpa using this
 ·unfold Tn at d ⊢;split at d
  ·rename_i s;simp only [if_pos s];simp only [Bool.and_eq_true,beq_iff_eq] at d ⊢;refine⟨⟨d.1.1,?_⟩,d.2⟩
   rw [D]
   ·exact d.1.2
   ·have:=d.1.1.2
    cases hc:r.Z3 with
    | nil=>rw [hc] at this;cases this
    | cons a t=>simp
  ·rename_i s;rw [if_neg s];exact d
theorem TM {α β:Type}{f g:α->Option β} : ∀ {l:List α},(∀ x∈l,f x=g x)->l.filterMap f=l.filterMap g
 | [],_=>rfl
 | a ::l,h=>by
  rw [List.filterMap_cons,List.filterMap_cons,h a (by simp),TM fun x d=>h x (List.mem_cons_of_mem _ d)]
theorem WW {l d:List Cl}{ns:List lU}(h: ∀ n∈ns,Yf d n=Yf l n):YP d ns=YP l ns:=by
 unfold YP;exact TM h
theorem Oe {l:List Cl}{r:Ru}(h:YA l r=true): ∀ n∈r.Z3,(Y7 l n).isSome=true:=by
 unfold YA at h;simp only [Bool.and_eq_true,decide_eq_true_eq] at h;exact M7 h.1.2
def Wc (ts:List Tb)(l:List Cl)(r:Ru):Prop:= ∃ u∈ts,u.Z9=r.Z9/\u.name=r.ZZ/\ ∃ k∈u.ZW,k.name=r.key/\k.ZV=2/\k.Z3.length=r.Z3.length/\(YP u.Z3 k.Z3).length=k.Z3.length/\YP l r.Z3=YP u.Z3 k.Z3
theorem Hf {o:Ob}{l:List Cl}{r:Ru}(h:UB o l r=0):Wc o.Z8 l r:=by
 unfold UB at h;split at h
 ·cases h
 ·rename_i t m;split at h
  ·cases h
  ·rename_i k j;have d:=List.find?_some m
   have k1:=List.find?_some j
   simp only [Bool.and_eq_true,beq_iff_eq] at d k1;split at h
   ·cases h
   ·rename_i k2;split at h
    ·rename_i k3;exact⟨t,List.mem_of_find?_eq_some m,d.1,d.2,k,List.mem_of_find?_eq_some j,k1,by simpa using k2,k3⟩
    ·cases h
theorem E6 {o:Ob}{l:List Cl}{r:Ru}(J:Zt Xg o.Z8=true)(K: ∀ t∈o.Z8,Zt WM t.ZW=true)(h:Wc o.Z8 l r):UB o l r=0:=by
 obtain⟨u,j,s,C,k,E,D,F,G⟩:=h;have f1:(o.Z8.find? fun x=>x.Z9 == r.Z9 && x.name == r.ZZ)=some u:=PD j (by simp [s,C]) fun y m d=>by
  simp only [Bool.and_eq_true,beq_iff_eq] at d;exact RG WE J y m u j (Ua (d.1.trans s.symm) (d.2.trans C.symm))
 have I:(u.ZW.find? fun x=>x.name == r.key)=some k:=PD E (by simp [D]) fun y m d=>by
  simp only [beq_iff_eq] at d;refine RG Rj (K u j) y m k E ?_
  show YR y.name k.name=0
  rw [d,D,To]
 unfold UB;rw [f1];dsimp only;rw [I];dsimp only;rw [if_neg (by simp [F]),if_pos G]
theorem SG {ts ts':List Tb}{l D:List Cl}{r:Ru}(h:Wc ts l r)(N:YP D r.Z3=YP l r.Z3)
  (O: ∀ u∈ts,∀ k∈u.ZW,k.ZV=2->k.name=r.key->u.Z9=r.Z9->u.name=r.ZZ-> ∃ d∈ts',d.Z9=u.Z9/\d.name=u.name/\k∈d.ZW/\YP d.Z3 k.Z3=YP u.Z3 k.Z3):Wc ts' D r:=by
 obtain⟨u,I,j,m,k,M,s,C,J,K,L⟩:=h;obtain⟨d,G,T,U,F,E⟩:=O u I k M C s j m;exact⟨d,G,T.trans j,U.trans m,k,F,s,C,J,by rw [E];exact K,by rw [N,E];exact L⟩
structure Dq (ss:List Sc) (ts:List Tb) (t:Tb):Prop where
 nm:Zw t.name=true
 ow:Zw t.ZN=true
 co:YJ t.Z3=true
 nr:t.ZW.length<=8
 sc: ∃ s∈ss,s.name=t.Z9
 ru: ∀ r∈t.ZW,YA t.Z3 r=true/\(r.ZV=4->Wc ts t.Z3 r)
 rr:Zt WM t.ZW=true
structure U2 (ss:List Sc) (ts:List Tb):Prop where
 ns:ss.length<=8
 rt:Zt Xg ts=true
 rs:Zt Wk ss=true
 nm: ∀ s∈ss,Zw s.name=true/\Zw s.ZN=true
 wi: ∀ s∈ss,(ts.filter fun t=>t.Z9 == s.name).length<=8
 tb: ∀ t∈ts,Dq ss ts t
theorem LC {α:Type}(p:α->Bool): ∀ (l:List α),l.length=(l.filter p).length+ (l.filter fun x=> !p x).length
 | []=>rfl
 | a ::l=>by
  have:=LC p l
  cases h:p a <;> simp [List.filter_cons,h] <;> omega
theorem KI {α:Type}(p q:α->Bool)(l:List α):((l.filter q).filter p).length<=(l.filter p).length:=by
 rw [List.filter_filter];have:(l.filter fun a=>p a && q a).Sublist (l.filter p):=by
  have h:=List.filter_sublist (p:=q) (l:=l.filter p);rw [List.filter_filter] at h;have e:(l.filter fun a=>q a && p a)=l.filter fun a=>p a && q a:=by
   congr 1;funext a;rw [Bool.and_comm]
  rwa [e] at h
 exact this.length_le
theorem Mn: ∀ (j:List Sc)(ts:List Tb),(∀ t∈ts,∃ s∈j,s.name=t.Z9)->(∀ s∈j,(ts.filter fun t=>t.Z9 == s.name).length<=8)->ts.length<=8*j.length
 | [],ts,h,_=>by
  cases ts with
  | nil=>simp
  | cons t ts=>obtain⟨s,E,_⟩:=h t (by simp);cases E
 | s ::j,ts,h,hw=>by
  have F:=LC (fun t:Tb=>t.Z9 == s.name) ts;have G:=hw s (by simp);have I:=Mn j (ts.filter fun t=> !(t.Z9 == s.name)) (fun t u=>by
   obtain⟨u,D⟩:=List.mem_filter.1 u;obtain⟨C,d,m⟩:=h t u;rcases List.mem_cons.1 d with e | d
   ·rw [e] at m;rw [m] at D;simp at D
   ·exact⟨C,d,m⟩) (fun C d=>Nat.le_trans (KI _ _ _) (hw C (List.mem_cons_of_mem _ d)))
  simp only [List.length_cons];omega
theorem Tg {l:List Sc}{n:lU} :(Xd l n).isSome=true↔ ∃ s∈l,s.name=n:=by
 unfold Xd;rw [List.findIdx?_isSome,List.any_eq_true];simp
theorem GF {o:Ob}{t:Tb}(h:YN o t=true):Dq o.Z7 o.Z8 t:=by
 unfold YN at h;simp only [Bool.and_eq_true,decide_eq_true_eq,List.all_eq_true] at h;obtain⟨⟨⟨⟨⟨⟨j,m⟩,s⟩,d⟩,u⟩,C⟩,D⟩:=h;refine⟨j,m,s,d,Tg.1 u,fun r E=> ?_,D⟩
 have:=C r E;unfold U4 at this;simp only [Bool.and_eq_true,Bool.or_eq_true,bne_iff_ne,beq_iff_eq] at this;exact⟨this.1,fun d=>Hf (this.2.resolve_left (fun h=>h d))⟩
theorem Vf {o:Ob}(h:Zc o=true):U2 o.Z7 o.Z8:=by
 unfold Zc at h;simp only [Bool.and_eq_true,decide_eq_true_eq,List.all_eq_true] at h;obtain⟨⟨⟨⟨⟨m,F⟩,u⟩,C⟩,j⟩,D⟩:=h;exact⟨m,u,C,fun s d=>(j s d).1,fun s d=>(j s d).2,fun t E=>GF (D t E)⟩
theorem SK {o:Ob}(h:U2 o.Z7 o.Z8):Zc o=true:=by
 unfold Zc;simp only [Bool.and_eq_true,decide_eq_true_eq,List.all_eq_true];refine⟨⟨⟨⟨⟨h.ns,?_⟩,h.rt⟩,h.rs⟩,fun s u=>⟨h.nm s u,h.wi s u⟩⟩,fun t j=> ?_⟩
 ·have:=Mn o.Z7 o.Z8 (fun t j=>(h.tb t j).sc) h.wi;have:=h.ns;omega
 ·have d:=h.tb t j;unfold YN;simp only [Bool.and_eq_true,decide_eq_true_eq,List.all_eq_true];refine⟨⟨⟨⟨⟨⟨d.nm,d.ow⟩,d.co⟩,d.nr⟩,Tg.2 d.sc⟩,fun r m=> ?_⟩,d.rr⟩
  unfold U4;simp only [Bool.and_eq_true,Bool.or_eq_true,bne_iff_ne,beq_iff_eq];refine⟨(d.ru r m).1,?_⟩
  by_cases h4:r.ZV=4
  ·exact Or.inr (E6 h.rt (fun t j=>(h.tb t j).rr) ((d.ru r m).2 h4))
  ·exact Or.inl h4
theorem KF {o D:Ob}{nm ow:lU}(h:U2 o.Z7 o.Z8)(M:Vk o nm ow 0 D):U2 D.Z7 D.Z8:=by
 rcases M with ⟨rfl,_⟩ | ⟨_,I,J,K,O,G,u,d,rfl⟩
 ·exact h
 ·have E: ∀ s∈o.Z7,s.name≠nm:=fun s d j=>by
   have:=Tg.2 ⟨s,d,j⟩;rw [K] at this;cases this
  have m: ∀ s,s∈G↔s∈o.Z7∨s=⟨nm,ow⟩:=fun s=>by rw [u.mem_iff];simp
  refine⟨?_,h.rt,Tw OW u h.rs (fun a L N=>E a L (ID N)) d,fun s d=> ?_,fun s d=> ?_,fun t C=> ?_⟩
  ·rw [u.length_eq];simp;omega
  ·rcases (m s).1 d with d | rfl
   ·exact h.nm s d
   ·exact⟨I,J⟩
  ·rcases (m s).1 d with d | rfl
   ·exact h.wi s d
   ·have:(o.Z8.filter fun t=>t.Z9 == nm)= []:=by
     rw [List.filter_eq_nil_iff];intro t C j;obtain⟨s,d,F⟩:=(h.tb t C).sc;exact E s d (F.trans (by simpa using j))
    rw [this];simp
  ·have:=h.tb t C;obtain⟨s,d,j⟩:=this.sc;exact⟨this.nm,this.ow,this.co,this.nr,⟨s,(m s).2 (Or.inl d),j⟩,this.ru,this.rr⟩
theorem Rs {α:Type}{l:List α}{k:Nat}{x:α}(s:x∈l)(u:k<l.length)(m:x≠l[k]):x∈l.eraseIdx k:=by
 rw [List.mem_eraseIdx_iff_getElem];obtain⟨j,h,d⟩:=List.getElem_of_mem s;exact⟨j,h,fun e=>m (by subst e;exact d.symm),d⟩
theorem L4 {o u:Ob}{nm:lU}(h:U2 o.Z7 o.Z8)(M:UW o nm 0 u):U2 u.Z7 u.Z8:=by
 rcases M with ⟨_,rfl⟩ | ⟨_,k,G,I,rfl⟩
 ·exact h
 ·have m:(o.Z7.eraseIdx k).Sublist o.Z7:=List.eraseIdx_sublist _ _;obtain⟨L,K,_⟩:=List.findIdx?_eq_some_iff_getElem.1 (show o.Z7.findIdx? (fun s=>s.name == nm)=some k from G)
  have F:o.Z7[k].name=nm:=by simpa using K
  refine⟨Nat.le_trans m.length_le h.ns,h.rt,OZ OW h.rs m,fun s j=>h.nm s (m.subset j),fun s j=>h.wi s (m.subset j),fun t E=> ?_⟩
  have d:=h.tb t E;obtain⟨s,j,D⟩:=d.sc;refine⟨d.nm,d.ow,d.co,d.nr,⟨s,Rs j L fun e=> ?_,D⟩,d.ru,d.rr⟩
  have J:t.Z9=nm:=by rw [<-D,e,F]
  have C:(o.Z8.filter fun t=>t.Z9 == nm)= []:=List.eq_nil_of_length_eq_zero I;rw [List.filter_eq_nil_iff] at C;exact C t E (by simpa using J)
theorem KE {o J:Ob}{t:Tb}(h:U2 o.Z7 o.Z8)(j:UL o t 0 J):U2 J.Z7 J.Z8:=by
 rcases j with ⟨_,rfl,_⟩ | ⟨_,N,O,T,D,h5,U,E,ts',G,I,rfl⟩
 ·exact h
 ·have L: ∀ x,x∈ts'↔x∈o.Z8∨x=t:=fun s=>by rw [G.mem_iff];simp
  have Z: ∀ x∈o.Z8,¬ (x.Z9=t.Z9/\x.name=t.name):=fun x C m=>by
   have K:o.Z8.findIdx? (fun x=>x.Z9 == t.Z9 && x.name == t.name)=none:=D;rw [List.findIdx?_eq_none_iff] at K;have:=K x C;simp [m.1,m.2] at this
  have key: ∀ {l:List Cl} {r:Ru},Wc o.Z8 l r->Wc ts' l r:=fun F=>SG F rfl fun u hu k F _ _ _ _=>⟨u,(L u).2 (Or.inl hu),rfl,rfl,F,rfl⟩
  refine⟨h.ns,Tw WE G h.rt (fun a V hz=>Z a V (Ix hz)) I,h.rs,h.nm,fun s I=> ?_,fun x C=> ?_⟩
  ·have M:=(G.filter fun x=>x.Z9 == s.name).length_eq;show (ts'.filter _).length<=8
   rw [M,List.filter_append,List.length_append];by_cases m:t.Z9=s.name
   ·have:X9 o t.Z9=(o.Z8.filter fun x=>x.Z9 == s.name).length:=by unfold X9;rw [m]
    simp [List.filter_cons,m];omega
   ·have:=h.wi s I;simp [List.filter_cons,m];exact this
  ·rcases (L x).1 C with C | rfl
   ·have d:=h.tb x C;exact⟨d.nm,d.ow,d.co,d.nr,d.sc,fun r j=>⟨(d.ru r j).1,fun D=>key ((d.ru r j).2 D)⟩,d.rr⟩
   ·refine⟨N,O,U,by rw [E];simp,Tg.1 T,fun r j=> ?_,by rw [E];rfl⟩
    rw [E] at j;cases j
theorem Lj {o:Ob}{s n:lU}{i:Nat}(h:XA o s n=some i): ∃ d:i<o.Z8.length,o.Z8[i].Z9=s/\o.Z8[i].name=n:=by
 obtain⟨d,j,_⟩:=List.findIdx?_eq_some_iff_getElem.1 (show o.Z8.findIdx? (fun x=>x.Z9 == s && x.name == n)=some i from h)
 exact⟨d,by simpa using j⟩
theorem L3 {o J:Ob}{s n:lU}(h:U2 o.Z7 o.Z8)(m:Vw o s n 0 J):U2 J.Z7 J.Z8:=by
 rcases m with ⟨_,rfl⟩ | ⟨_,i,V,Z,rfl⟩
 ·exact h
 ·have D:(o.Z8.eraseIdx i).Sublist o.Z8:=List.eraseIdx_sublist _ _;obtain⟨C,M,N⟩:=Lj V;refine⟨h.ns,OZ WE h.rt D,h.rs,h.nm,fun s hs=>Nat.le_trans (D.filter _).length_le (h.wi s hs),fun x I=> ?_⟩
  have K:=D.subset I;have d:=h.tb x K;refine⟨d.nm,d.ow,d.co,d.nr,d.sc,fun r m=>⟨(d.ru r m).1,fun O=> ?_⟩,d.rr⟩
  refine SG ((d.ru r m).2 O) rfl fun u hu k hk _ _ u1 u2=>⟨u,Rs hu C fun e=> ?_,rfl,rfl,hk,rfl⟩
  have hf:(x,r)∈VS o s n:=by
   unfold VS SJ;rw [List.mem_flatMap];refine⟨x,K,List.mem_map.2 ⟨r,List.mem_filter.2 ⟨m,?_⟩,rfl⟩⟩
   unfold Se;rw [<-u1,<-u2,e,M,N,O];simp
  have L:=Z _ hf;rw [List.mem_eraseIdx_iff_getElem] at I;obtain⟨j,F,U,T⟩:=I;have:o.Z8[j]=o.Z8[i]:=by
   refine RG WE h.rt _ (List.getElem_mem F) _ (List.getElem_mem C) ?_
   rw [T];exact Ua (L.1.trans M.symm) (L.2.trans N.symm)
  have G:=Vn WE h.rt;rw [List.pairwise_iff_getElem] at G;rcases Nat.lt_or_gt_of_ne U with E | E
  ·have:=G j i F C E;rw [‹o.Z8[j]=o.Z8[i]›,Ua rfl rfl] at this;omega
  ·have:=G i j C F E;rw [‹o.Z8[j]=o.Z8[i]›,Ua rfl rfl] at this;omega
theorem Jk {α β:Type}(f:α->β)(l:List α)(i:Nat)(s:i<l.length)(x:α)(h:f x=f l[i]):(l.set i x).map f=l.map f:=by
 rw [List.map_set,h];refine List.ext_getElem (by simp) fun j d m=> ?_
 rw [List.getElem_set];split
 ·rename_i e;subst e;simp
 ·rfl
theorem GE {ts:List Tb}{i:Nat}(G:i<ts.length){t:Tb}(D:t.Z9=ts[i].Z9)(E:t.name=ts[i].name)(h:Zt Xg ts=true):Zt Xg (ts.set i t)=true:=by
 refine Ti ?_
 have u:=Vn WE h;rw [List.pairwise_iff_getElem] at u ⊢;intro a b F hb C;have d:a<ts.length:=by simpa using F
 have m:b<ts.length:=by simpa using hb
 have key: ∀ j (s:j<ts.length),((ts.set i t)[j]'(by simpa using s)).Z9=ts[j].Z9/\((ts.set i t)[j]'(by simpa using s)).name=ts[j].name:=fun j s=>by
  rw [List.getElem_set];split
  ·rename_i e;subst e;exact⟨D,E⟩
  ·exact⟨rfl,rfl⟩
 have:=u a b d m C;unfold Xg at this ⊢;rw [(key a d).1,(key a d).2,(key b m).1,(key b m).2];exact this
theorem TK {K:List Sc}{ts:List Tb}{i:Nat}(u:i<ts.length){t:Tb}(h:U2 K ts)(E:t.Z9=ts[i].Z9)(I:t.name=ts[i].name)
  (Z:Zw t.ZN=true) (O:YJ t.Z3=true) (U:t.ZW.length<=8) (M:Zt WM t.ZW=true)
  (N: ∀ r∈t.ZW,YA t.Z3 r=true/\(r.ZV=4->Wc (ts.set i t) t.Z3 r))
  (L: ∀ x∈ts,∀ r∈x.ZW,r.ZV=4->Wc ts x.Z3 r->x≠ts[i]->Wc (ts.set i t) x.Z3 r):U2 K (ts.set i t):=by
 refine⟨h.ns,GE u E I h.rt,h.rs,h.nm,fun s V=> ?_,fun x hx=> ?_⟩
 ·have e: ∀ l:List Tb,(l.filter fun t=>t.Z9 == s.name).length=((l.map (·.Z9)).filter (· == s.name)).length:=fun l=>by
   rw [List.filter_map,List.length_map];rfl
  rw [e,Jk (·.Z9) ts i u t E,<-e];exact h.wi s V
 ·obtain⟨j,T,m⟩:=List.getElem_of_mem hx;have C:j<ts.length:=by simpa using T
  rw [List.getElem_set] at m;by_cases hij:i=j
  ·rw [if_pos hij] at m;subst m;have d:=h.tb ts[i] (List.getElem_mem u);exact⟨by rw [I];exact d.nm,Z,O,U,by rw [E];exact d.sc,N,M⟩
  ·rw [if_neg hij] at m;subst m;have d:=h.tb ts[j] (List.getElem_mem C);refine⟨d.nm,d.ow,d.co,d.nr,d.sc,fun r G=>⟨(d.ru r G).1,fun J=>L _ (List.getElem_mem C) r G J ((d.ru r G).2 J) fun e=> ?_⟩,d.rr⟩
   have F:=Vn WE h.rt;rw [List.pairwise_iff_getElem] at F;rcases Nat.lt_or_gt_of_ne hij with D | D
   ·have:=F i j u C D;rw [e,Ua rfl rfl] at this;omega
   ·have:=F j i C u D;rw [e,Ua rfl rfl] at this;omega
theorem Uf {ts:List Tb}{i:Nat}(E:i<ts.length){t:Tb}{l s:List Cl}{r:Ru}(h:Wc ts l r)(C:t.Z9=ts[i].Z9)(D:t.name=ts[i].name)(I:YP s r.Z3=YP l r.Z3)
  (G: ∀ k∈ts[i].ZW,k.ZV=2->k.name=r.key->ts[i].Z9=r.Z9->ts[i].name=r.ZZ->k∈t.ZW/\YP t.Z3 k.Z3=YP ts[i].Z3 k.Z3):Wc (ts.set i t) s r:=by
 refine SG h I fun u J k d k2 K us L=> ?_
 obtain⟨j,F,m⟩:=List.getElem_of_mem J;by_cases hij:i=j
 ·subst hij;subst m;obtain⟨a,b⟩:=G k d k2 K us L;exact⟨t,List.mem_iff_getElem.2 ⟨i,by simpa using E,by simp⟩,C,D,a,b⟩
 ·refine⟨u,List.mem_iff_getElem.2 ⟨j,by simpa using F,?_⟩,rfl,rfl,d,rfl⟩
  rw [List.getElem_set,if_neg hij];exact m
theorem Ma {o C:Ob}{c:Cl}{i:Nat}(h:U2 o.Z7 o.Z8)(d:UY o c i 0 C):U2 C.Z7 C.Z8:=by
 rcases d with ⟨_,rfl⟩ | ⟨_,u,D,I,E,F,rfl⟩
 ·exact h
 ·have m:=h.tb o.Z8[i] (List.getElem_mem u);have s: ∀ r∈o.Z8[i].ZW,∀ n∈r.Z3,Yf (o.Z8[i].Z3 ++ [c]) n=Yf o.Z8[i].Z3 n:=fun r d n G=>He (Oe (m.ru r d).1 n G)
  exact TK u h rfl rfl m.ow (LK m.co D E F) m.nr m.rr
   (fun r d=>⟨QW (m.ru r d).1 (s r d),fun k4=>Uf u ((m.ru r d).2 k4) rfl rfl (WW (s r d)) fun k j _ _ _ _=>⟨j,WW (s k j)⟩⟩)
   (fun x J r d k4 j _=>Uf u j rfl rfl rfl fun k j _ _ _ _=>⟨j,WW (s k j)⟩)
theorem M8 {o C:Ob}{nm:lU}{i:Nat}(h:U2 o.Z7 o.Z8)(d:VL o nm i 0 C):U2 C.Z7 C.Z8:=by
 rcases d with ⟨_,rfl⟩ | ⟨_,u,k,D,J,G,rfl⟩
 ·exact h
 ·have m:=h.tb o.Z8[i] (List.getElem_mem u);have s: ∀ r∈o.Z8[i].ZW,∀ n∈r.Z3,Yf (o.Z8[i].Z3.eraseIdx k) n=Yf o.Z8[i].Z3 n:=fun r d n I=>Kl D fun e=>by
   have:=G r d;rw [<-e] at this;simp [I] at this
  obtain⟨F,_⟩:=VV D;have E:1<=(o.Z8[i].Z3.eraseIdx k).length:=by
   rw [List.length_eraseIdx,if_pos F];omega
  exact TK u h rfl rfl m.ow (LJ m.co (List.eraseIdx_sublist _ _) E) m.nr m.rr
   (fun r d=>⟨QW (m.ru r d).1 (s r d),fun k4=>Uf u ((m.ru r d).2 k4) rfl rfl (WW (s r d)) fun k j _ _ _ _=>⟨j,WW (s k j)⟩⟩)
   (fun x K r d k4 j _=>Uf u j rfl rfl rfl fun k j _ _ _ _=>⟨j,WW (s k j)⟩)
theorem IG {l:List Ru}{n:lU} :SD l n=none↔ ∀ d∈l,d.name≠n:=by
 unfold SD;rw [List.findIdx?_eq_none_iff];simp
theorem KG {o D:Ob}{r:Ru}{i:Nat}(h:U2 o.Z7 o.Z8)(G:WP o r i 0 D):U2 D.Z7 D.Z8:=by
 rcases G with ⟨_,rfl⟩ | ⟨_,u,J,K,T,L,E,C,N,rfl⟩
 ·exact h
 ·have j:=h.tb o.Z8[i] (List.getElem_mem u);have F: ∀ x,x∈E↔x∈o.Z8[i].ZW∨x=r:=fun s=>by rw [C.mem_iff];simp
  have key: ∀ {l:List Cl} {I:Ru},Wc o.Z8 l I->Wc (o.Z8.set i { o.Z8[i] with ZW:=E}) l I:=fun d=>Uf u d rfl rfl rfl fun k d _ _ _ _=>⟨(F k).2 (Or.inl d),rfl⟩
  refine TK u h rfl rfl j.ow j.co (by rw [C.length_eq];simp;omega) (Tw Rj C j.rr (fun a M O=>IG.1 K a M (IN O)) N) (fun x m=> ?_) (fun x m r G k4 d _=>key d)
  rcases (F x).1 m with m | rfl
  ·exact⟨(j.ru x m).1,fun k4=>key ((j.ru x m).2 k4)⟩
  ·exact⟨J,fun k4=>key (Hf (L k4))⟩
theorem L9 {o E:Ob}{s n nm:lU}{i:Nat}(h:U2 o.Z7 o.Z8)(O:XA o s n=some i)(d:UX o s n nm i 0 E):U2 E.Z7 E.Z8:=by
 rcases d with ⟨_,rfl⟩ | ⟨_,u,k,J,K,rfl⟩
 ·exact h
 ·have j:=h.tb o.Z8[i] (List.getElem_mem u);obtain⟨_,G,I⟩:=Lj O;obtain⟨C,L,_⟩:=List.findIdx?_eq_some_iff_getElem.1 (show o.Z8[i].ZW.findIdx? (fun r=>r.name == nm)=some k from J)
  have F:o.Z8[i].ZW[k].name=nm:=by simpa using L
  have key: ∀ {x:Tb} (D:x∈o.Z8) {r:Ru} (d:r∈x.ZW) (k4:r.ZV=4),Wc o.Z8 x.Z3 r->Wc (o.Z8.set i { o.Z8[i] with ZW:=o.Z8[i].ZW.eraseIdx k}) x.Z3 r:=fun {x} D {r} d k4 hkey=>by
   refine Uf u hkey rfl rfl rfl fun q N q2 T us U=>⟨Rs N C fun e=> ?_,rfl⟩
   have M:(x,r)∈VS o s n:=by
    unfold VS SJ;rw [List.mem_flatMap];refine⟨x,D,List.mem_map.2 ⟨r,List.mem_filter.2 ⟨d,?_⟩,rfl⟩⟩
    unfold Se;rw [<-us,<-U,G,I,k4];simp
   have:=K C (by rw [<-e];exact q2) _ M;exact this (by show r.key=nm;rw [<-T,e,F])
  have m:(o.Z8[i].ZW.eraseIdx k).Sublist o.Z8[i].ZW:=List.eraseIdx_sublist _ _;exact TK u h rfl rfl j.ow j.co (Nat.le_trans m.length_le j.nr) (OZ Rj j.rr m)
   (fun r d=>⟨(j.ru r (m.subset d)).1,fun k4=>key (List.getElem_mem u) (m.subset d) k4 ((j.ru r (m.subset d)).2 k4)⟩)
   (fun x D r d k4 C _=>key D d k4 C)
theorem KD {o u:Ob}{ow:lU}{i:Nat}(h:U2 o.Z7 o.Z8)(E:Zw ow=true)(C:VX o ow i 0 u):U2 u.Z7 u.Z8:=by
 obtain⟨_,m,rfl⟩:=C;have j:=h.tb o.Z8[i] (List.getElem_mem m);have key: ∀ {l:List Cl} {D:Ru},Wc o.Z8 l D->Wc (o.Z8.set i { o.Z8[i] with ZN:=ow}) l D:=fun d=>Uf m d rfl rfl rfl fun k d _ _ _ _=>⟨d,rfl⟩
 exact TK m h rfl rfl E j.co j.nr j.rr (fun x s=>⟨(j.ru x s).1,fun k4=>key ((j.ru x s).2 k4)⟩) (fun x s r C k4 d _=>key d)
open Go.RowKit
structure Vl where
 ZV:Int
 num:Int
 word:List UInt8
 deriving DecidableEq,Inhabited
def Zh:List Sh:= [.num,.num,.Z2]
def Vl.da (v:Vl):List Da:= [.int v.ZV,.int v.num,.Z2 v.word]
def Vl.cs (v:Vl):List Value:= [.int .i64 v.ZV,.int .i64 v.num,.string (Z2 v.word)]
section
variable {w w' : World} {S S' : Nat -> Prop}
theorem Vl.YG {ds:List Da}{d:List Value}(h:ZE w S Zh ds d): ∃ s:Vl,ds=s.da/\d=s.cs:=by
 obtain⟨M,F,v0,J,rfl,rfl,j,C⟩:=h.cons;obtain⟨N,G,v1,K,rfl,rfl,m,D⟩:=C.cons;obtain⟨O,I,v2,L,rfl,rfl,u,E⟩:=D.cons;obtain⟨rfl,rfl⟩:=E.nil;obtain⟨a,rfl,rfl⟩:=j.num;obtain⟨b,rfl,rfl⟩:=m.num;obtain⟨c,rfl,rfl⟩:=u.T0;exact⟨⟨a,b,c⟩,rfl,rfl⟩
theorem Vl.VW (s:Vl):ZE w S Zh s.da s.cs:=ZE.mk (Yv.Xo _) (ZE.mk (Yv.Xo _) (ZE.one (Yv.YO _)))
theorem Vl.rows {ds:List (List Da)}{A:Option Addr}(h:ZT w S Zh ds A): ∃ l:List Vl,ds=l.map Vl.da:=
 Wm fun j d hd=>by
  obtain⟨C,m⟩:=h.UJ hd;obtain⟨s,u,_⟩:=Vl.YG m;exact⟨s,u⟩
theorem Vl.Wu {a b:Vl}(h:a.da=b.da):a=b:=by
 cases a;cases b
 simp only [Vl.da,List.cons.injEq,Da.int.injEq,Da.Z2.injEq,and_true] at h;obtain⟨rfl,rfl,rfl⟩:=h;rfl
theorem Vl.YY {c:Vl}{d:List Value}(h:ZE w S Zh c.da d):d=c.cs:=by
 obtain⟨s,j,rfl⟩:=Vl.YG h;rw [Vl.Wu j]
theorem Vl.k (x:Vl):(Vl.cs x).length=3:=rfl
theorem Vl.one (x:Vl): ∀ v∈Vl.cs x,v.oneCell'=true:=by simp [Vl.cs,Value.oneCell']
end
theorem Vl.Yn {w:World}{B:Nat}{l:List Vl}{A:Option Addr}(h:ZT w (· < B) Zh (l.map Vl.da) A):Zj w B A Vl.cs l:=by
 obtain⟨s,d,j,_⟩:=WF (enc:=Vl.cs) Vl.da id (fun _=>True) (fun x u m=>⟨x,rfl,Vl.YY m,trivial⟩) Vl.k h;rw [List.map_id] at d;subst d;exact j
def Qz (v:Vl):Bool:=((v.ZV == 2 && v.word == []) ||(v.ZV == 3 && v.num == 0) ||(v.ZV == 1 && (v.num == 0 && v.word == []))) && decide (v.word.length<=32)
def Sd (c:Cl)(v:Vl):Bool:=Qz v && (v.ZV == c.ZV || v.ZV == 1)
def NO (c:Cl)(v:Vl):Bool:=c.null || !(v.ZV == 1)
def XO (p:Cl->Vl->Bool):List Cl->List Vl->Bool
 | [],[]=>true
 | c ::l,v ::r=>p c v && XO p l r
 | _,_=>false
def XK (l:List Cl)(row:List Vl):Bool:=XO Sd l row
theorem Yd {p:Cl->Vl->Bool} : ∀ {l:List Cl}{r:List Vl},XO p l r=true->r.length=l.length
 | [],[],_=>rfl
 | c ::l,v ::r,h=>by
  simp only [XO,Bool.and_eq_true] at h;simp only [List.length_cons,Yd h.2]
 | [],v ::r,h=>by cases h
 | c ::l,[],h=>by cases h
theorem Kd {p:Cl->Vl->Bool}{l:List Cl}{r:List Vl}{j:Nat}(d:j<l.length)(h:j<r.length):XO p (l.drop j) (r.drop j)=(p l[j] r[j] && XO p (l.drop (j+1)) (r.drop (j+1))):=by
 rw [List.drop_eq_getElem_cons d,List.drop_eq_getElem_cons h];rfl
theorem GO {p:Cl->Vl->Bool}{l:List Cl}{r:List Vl}(h:l.length≠r.length):XO p l r=false:=by
 cases hp:XO p l r
 ·rfl
 ·exact absurd (Yd hp).symm h
theorem NN {p:Cl->Vl->Bool} : ∀ {l:List Cl}{r:List Vl},XO p l r=true-> ∀ (j:Nat)(d:j<l.length)(m:j<r.length),p l[j] r[j]=true
 | [],_,_,j,d,_=>absurd d (by simp)
 | c ::l,v ::r,h,0,_,_=>by
  simp only [XO,Bool.and_eq_true] at h;exact h.1
 | c ::l,v ::r,h,j+1,d,m=>by
  simp only [XO,Bool.and_eq_true] at h;exact NN h.2 j (by simpa using d) (by simpa using m)
 | c ::l,[],h,_,_,_=>by cases h
def XR (r:Ru):Ru:=if(r.ZV == 4 && (Zw r.Z9 && (Zw r.ZZ && Zw r.key)))=true then⟨r.name,1,r.Z3,r.low,r.ZB,[],[],[]⟩ else r
def Uo (t:Tb):Ob:=⟨[⟨[115],[111]⟩],[⟨[115],[116],[111],t.Z3,t.ZW.map XR⟩]⟩
def VC (t:Tb):Bool:=Zc (Uo t)
theorem Mx (r:Ru):(XR r).Z3=r.Z3:=by
 unfold XR;split <;> rfl
def S7 (t:Tb)(row:List Vl)(r:Ru):Bool:=r.ZV == 3 && match Y7 t.Z3 (r.Z3.headD []) with
 | some i=>match row[i]? with
  | some v=>v.ZV == 2 && (decide (v.num<r.low) || decide (v.num > r.ZB))
  | none=>false
 | none=>false
def VU (t:Tb)(row:List Vl):Int:=if VC t=false then 1 else if XK t.Z3 row=false then 100 else if XO NO t.Z3 row=false then 101 else if(t.ZW.any (S7 t row))=true then 102 else 0
theorem Ni {t:Tb}(h:VC t=true):YN (Uo t) ⟨[115],[116],[111],t.Z3,t.ZW.map XR⟩=true:=by
 unfold VC Zc at h;simp only [Bool.and_eq_true] at h;have d:=h.2;simp only [Uo,List.all_cons,List.all_nil,Bool.and_true] at d;exact d
theorem Mt {t:Tb}(h:VC t=true){r:Ru}(m:r∈t.ZW):YA t.Z3 (XR r)=true:=by
 have d:=Ni h;unfold YN at d;simp only [Bool.and_eq_true,List.all_eq_true] at d;have j:=d.1.2 (XR r) (List.mem_map_of_mem m);unfold U4 at j;simp only [Bool.and_eq_true] at j;exact j.1
theorem LX {l:List Cl}{r:Ru}(h:YA l r=true):1<=r.Z3.length/\r.Z3.length<=l.length/\ ∀ n∈r.Z3,∃ i,Y7 l n=some i/\i<l.length:=by
 refine⟨?_,?_,fun n m=> ?_⟩
 ·unfold YA at h;simp only [Bool.and_eq_true,decide_eq_true_eq] at h;exact h.1.1.1.2
 ·unfold YA at h;simp only [Bool.and_eq_true,decide_eq_true_eq] at h;exact h.1.1.2
 ·have j:=Oe h n m;obtain⟨i,d⟩:=Option.isSome_iff_exists.1 j;exact⟨i,d,(VV d).1⟩
theorem KR {t:Tb}(h:VC t=true){r:Ru}(u:r∈t.ZW): ∃ n ns i,r.Z3=n ::ns/\Y7 t.Z3 n=some i/\i<t.Z3.length:=by
 obtain⟨d,_,j⟩:=LX (Mt h u);rw [Mx] at d j
 cases hc:r.Z3 with
 | nil=>rw [hc] at d;simp at d
 | cons n ns=>
  obtain⟨i,m,s⟩:=j n (by rw [hc];simp);exact⟨n,ns,i,rfl,m,s⟩
def Wp (l:List Cl):Bool:=VC ⟨[],[],[],l,[]⟩
def RC (l:List Cl)(row:List Vl)(c:Cl):Vl:=match Y7 l c.name with
 | some i=>match l[i]?,row[i]? with
  | some d,some v=>if(d.ZV == c.ZV)=true then v else⟨1,0,[]⟩
  | _,_=>⟨1,0,[]⟩
 | none=>⟨1,0,[]⟩
def Vz (l l':List Cl)(row:List Vl):List Vl:=l'.map (RC l row)
theorem Rm (c:Cl):Sd c ⟨1,0,[]⟩=true:=by simp [Sd,Qz]
theorem Gn {l:List Cl}{row:List Vl}(h:XK l row=true)(c:Cl):Sd c (RC l row c)=true:=by
 unfold RC;split
 ·rename_i i D;split
  ·rename_i d v hd C;split
   ·rename_i m;obtain⟨s,rfl⟩:=List.getElem?_eq_some_iff.1 hd
    obtain⟨u,rfl⟩:=List.getElem?_eq_some_iff.1 C
    have j:=NN h i s u;unfold Sd at j ⊢;simp only [beq_iff_eq] at m;rw [m] at j;exact j
   ·exact Rm c
  ·exact Rm c
 ·exact Rm c
theorem QJ {l:List Cl}{row:List Vl}(h:XK l row=true): ∀ (d:List Cl),XK d (Vz l d row)=true
 | []=>rfl
 | c ::d=>by
  have j:=QJ h d;unfold XK Vz at j ⊢;simp only [List.map_cons,XO,Gn h c,j,Bool.and_self]
theorem KO {l:List Cl}(h:YJ l=true):Wp l=true:=by
 unfold Wp VC Zc Uo;simp [YN,h,Zt,X9,Xd];decide
theorem PS {o:Ob}(h:Zc o=true){t:Tb}(d:t∈o.Z8):Wp t.Z3=true:=KO ((Vf h).tb t d).co
end Go.Proofs.YtnhmoibjlakhjaaGreat
