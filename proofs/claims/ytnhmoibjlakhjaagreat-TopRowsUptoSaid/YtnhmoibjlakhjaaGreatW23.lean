/- Lemmas, each under its own conditions. -/
import Derived.Test.YtnhmoibjlakhjaaGreatW22
import Derived.Deep.DeepAppendRoom
set_option linter.all false
namespace Go.Proofs.YtnhmoibjlakhjaaGreat
open Go.Proofs.Tryz
open Lib (hid)
set_option maxRecDepth 100000
set_option maxHeartbeats 16000000
open Go.RowKit
section
variable {α : Type} {enc : α -> List Value} {k : Nat}
theorem Xj (d: ∀ x,(enc x).length=k): ∀ (l:List α)(i:Nat),(l.take i).flatMap enc=(l.flatMap enc).take (i*k)
 | [],i=>by simp
 | a ::l,0=>by simp
 | a ::l,i+1=>by
  rw [List.take_succ_cons,List.flatMap_cons,Xj d l i,List.flatMap_cons,Nat.add_mul,Nat.one_mul,Nat.add_comm,<-d a,List.take_length_add_append]
theorem WJ (d: ∀ x,(enc x).length=k): ∀ (l:List α)(i:Nat),(l.drop i).flatMap enc=(l.flatMap enc).drop (i*k)
 | [],i=>by simp
 | a ::l,0=>by simp
 | a ::l,i+1=>by
  rw [List.drop_succ_cons,WJ d l i,List.flatMap_cons,Nat.add_mul,Nat.one_mul,Nat.add_comm,<-d a,List.drop_length_add_append]
end
theorem VH {w:World}{base g n c k m:Nat}{T:TypeId}{xs:lV}(h:w.ownsRow base T k (.slice (some (aD g 0)) n c) n xs)(J:m<=n):w.ownsRow base T k (.slice (some (aD g 0)) m c) m (xs.take (m*k)):=by
 obtain⟨I,C⟩:=h;have d:m*k<=n*k:=Nat.mul_le_mul_right _ J;refine⟨by rw [List.length_take,I,Nat.min_eq_left d],?_⟩
 rcases C with ⟨u,_⟩ | ⟨s,cap,j,K,hb,G,L,D,E,F⟩
 ·cases u
 ·injection K with hv1 hv2 hv3
  subst hv3;exact .inr ⟨s,c,j,by rw [hv1],hb,G,by omega,D,E,by rw [<-F,List.take_take,Nat.min_eq_left d]⟩
theorem XE {w:World}{base g n c k:Nat}{T:TypeId}{xs:lV}(h:w.ownsRow base T k (.slice (some (aD g 0)) n c) n xs): ∀ (Z:lV)(o:Nat),n*k<=o->(w.setCells g o Z).ownsRow base T k (.slice (some (aD g 0)) n c) n xs:=by
 have one: ∀ {w:World} (h:w.ownsRow base T k (.slice (some (aD g 0)) n c) n xs) (i:Nat) (u:Value),n*k<=i->(w.setCell (aD g i) u).ownsRow base T k (.slice (some (aD g 0)) n c) n xs:=by
  intro w h i u N;obtain⟨J,s⟩:=h;refine⟨J,?_⟩
  rcases s with ⟨m,_⟩ | ⟨M,cap,d,L,hb,I,C,D,E,F⟩
  ·cases m
  ·injection L with hv1 hv2 hv3
   injection hv1 with hv1
   injection hv1 with hv1
   subst hv1;subst hv3;have G:ZP w g T d.toList:=by simpa [ZP] using I
   have j:=G.Zx i u;refine .inr ⟨g,c,(d.toList.set i u).toArray,rfl,hb,j,C,D,by simpa using E,?_⟩
   rw [<-F,List.take_set];exact List.set_eq_of_length_le (by rw [List.length_take];omega)
 intro Z;induction Z generalizing w with
 | nil=>intro o _;exact h
 | cons u Z ih=>
  intro o K;exact ih (one h o u K) (o+1) (by omega)
theorem Y8 {w:World}{base g n c k:Nat}{T:TypeId}{xs:lV}(h:w.ownsRow base T k (.slice (some (aD g 0)) n c) n xs)(o m:Nat)(E:o+m<=c*k):w.there g o m:=by
 obtain⟨L,s⟩:=h;rcases s with ⟨j,_⟩ | ⟨G,cap,d,F,hb,D,I,J,u,K⟩
 ·cases j
 ·injection F with hv1 hv2 hv3
  injection hv1 with hv1
  injection hv1 with hv1
  subst hv1;subst hv3;have C:ZP w g T d.toList:=by simpa [ZP] using D
  exact C.there o m (by rw [Array.length_toList,u];exact E)
theorem Yw {w:World}{base g n c k:Nat}{T:TypeId}{xs:lV}(h:w.ownsRow base T k (.slice (some (aD g 0)) n c) n xs):n<=c/\c<=maxLen:=by
 obtain⟨I,j⟩:=h;rcases j with ⟨d,_⟩ | ⟨D,cap,C,u,hb,G,m,s,E,F⟩
 ·cases d
 ·injection u with hv1 hv2 hv3
  subst hv3;exact⟨m,s⟩
theorem XM {w:World}{g:Nat}{T:TypeId}(d:Za w g T)(o:Nat)(Z:lV):ZS [T] w (w.setCells g o Z):=ZS.setCells (by simp) d o Z
theorem Y5 {P:Program}(w:World)(t e J:TypeId)(z:Value)(F:P.underlying t=some (.slice e))(G: ∀ w,(zeroValue e).run P w= .ok z w){size:Nat}(I:z.cells.size=size)(L:0<size)(u: ∀ v∈z.cells.toList,v.oneCell'=true)(b o n c:Nat)(K:0<n)(s:w.there b o (n*size)):
  ∃ Z:lV,Z.length=n*size/\(Builtin.clear_ #[t] J #[.slice (some (aD b o)) n c]).run P w= .ok (.tuple #[]) (w.setCells b o Z):=by
 have E:(Builtin.zeroCells z.cells n).toList.length=n*size:=by simp [Builtin.zeroCells,I]
 have d:=run_storeCells_cells (P:=P) b o (Builtin.zeroCells z.cells n).toList 0 w (fun j D=>by simpa using (s j (by omega)).1) (fun j D=>by simpa using (s j (by omega)).2) (by
  intro v h;simp only [Builtin.zeroCells,Array.toList_map,List.mem_map] at h;obtain⟨i,_,rfl⟩:=h;have C:i % z.cells.size<z.cells.size:=Nat.mod_lt _ (by omega);rw [getElem!_pos z.cells _ C];exact u _ (by simp))
 simp only [Nat.add_zero] at d;refine⟨_,E,?_⟩
 obtain⟨m,rfl⟩: ∃ m,n=m+1:=⟨n - 1,by omega⟩
 simp [Builtin.clear_,run_underlying F,G,d]
theorem Nh (base:Nat)(l:List YX)(A:oA)(c i:Nat)(w:World)(h:w.ownsRow base 73 5 (.slice A l.length c) l.length (l.flatMap YX.cs))(hi:i<l.length)(hl:l.length<=1099511627776):
  cQ 175 #[.slice A l.length c,i6 i,.int .i64 ((i:Int)+1)] w fun e w'=>e= .returned (.slice A (l.length - 1:Nat) c)/\w'.ownsRow base 73 5 (.slice A (l.length - 1:Nat) c) (l.length - 1) ((l.eraseIdx i).flatMap YX.cs)/\Below base w w'/\ZS [73] w w'/\Vm w w' (.slice A l.length c):=by
 obtain⟨g,rfl⟩: ∃ g,A=some (aD g 0):=by
  obtain⟨g,cap,T,_,_⟩:=h.form (by omega);exact⟨g,by injection T⟩
 obtain⟨i0,ad,ao,ae,ap⟩:=info_parts Vc;obtain⟨aj,ak⟩:=Yw h;obtain⟨ab,an,ac,_,U⟩:=ZJ h;have HO:=hid h;have ah:=hid ac;have L:=hid (VH h (show i<=l.length by omega));have HX:Hid ((l.eraseIdx i).flatMap YX.cs=(l.flatMap YX.cs).take (i*5) ++ (l.flatMap YX.cs).drop ((i+1)*5)):=hid (by rw [List.eraseIdx_eq_take_drop_succ,List.flatMap_append,Xj YX.k,WJ YX.k]);have O:Hid (((l.flatMap YX.cs).drop ((i+1)*5)).length=(l.length - (i+1))*5):=hid (by rw [List.length_drop,Zm YX.k,Nat.sub_mul]);have HC:Hid (∀ j u,((l.flatMap YX.cs).drop ((i+1)*5))[j]?=some u->w.cell? (aD g ((i+1)*5+j))=some u):=hid (fun j u G=>U _ u (by rw [List.getElem?_drop] at G;exact G));have V:Hid (∀ v∈(l.flatMap YX.cs).drop ((i+1)*5),v.oneCell'=true):=hid fun v T=>Yg YX.one l v (List.mem_of_mem_drop T)
 clear h ac U;generalize (l.flatMap YX.cs)=xs at*;generalize hln:l.length=n at*;have b1:(0:Int)<=(i:Int):=by omega
 have b2:(i:Int)<=(i:Int)+1:=by omega
 have b3:(i:Int)+1<=(n:Int):=by omega
 have b4:(n:Int)<=(c:Int):=by omega
 have b5:((i:Int) ==(i:Int)+1)=false:=by simp;omega
 have b6:(0:Int)<=(i:Int)+1:=by omega
 have b7:((i:Int)+1).toNat=i+1:=by omega
 have b8:(i:Int)<=(c:Int):=by omega
 have b9:(i:Int)<=(n:Int):=by omega
 have ai:(i:Int)+1<=(c:Int):=by omega
 go_enter func175,ntmps175
 by_cases hce:c=i+1
 ·subst hce;obtain rfl:n=i+1:=by omega
  go_wp2_with fail;refine wp_region_held_drew (S:=fun _=>True) (by kernel_rfl) trivial (fun d=> ?_)
  (try simp only [pp]);refine tk 0 20 d ?_;refine tk 1 21 d ?_;refine tk 2 22 d ?_;refine tk 3 23 d ?_;refine tk 4 24 d ?_;refine tk 5 25 d ?_;refine on 6 26 fun K J=> ?_
  rw [if_pos (by rfl)];refine wp_append_own_spare _ _ _ _ rfl base 73 i0 5 underlying24 ad ae g i (i+1) _ rfl L.o (aD g 0) 0 0 _ rfl (by rw [O.o,Nat.sub_self]) (fun j u G=>by have h0:=(List.getElem?_eq_some_iff.1 G).1;rw [O.o,Nat.sub_self] at h0;omega) V.o (by omega) ?_
  intro m F s;rw [show i+0=i from rfl] at F ⊢;have E:Hid (m.ownsRow base 73 5 (.slice (some (aD g 0)) i (i+1)) i ((l.eraseIdx i).flatMap YX.cs)):=hid (by rw [HX.o];exact F);have M:Hid (Below base w m):=hid (Below.grown (show Below base w w.drew from br.drew) s (by simp;omega) (fun k C=>by injection C with C;omega))
  have N:Hid (ZS [73] w m):=hid (show ZS [73] w m from (ZS.drew w).trans (ZS.grown (w:=w.drew) L.o s (by simp) s.size));have I:Hid (Vm w m (.slice (some (aD g 0)) (i+1) (i+1))):=hid ⟨by have:=s.size;simpa using this,fun k C D=>s.block k (by simpa using C) (fun e=>D (by rw [e];rfl))⟩
  clear F s;refine J _ _ trivial (fun d=> ?_)
  clear J K;(try simp only [pp])
  refine tk 7 0 d ?_;refine wpAnyH_done (by kernel_rfl) ?_ _
  obtain⟨Z,af,aa⟩:=Y5 m 24 73 0 (.agg #[s0,s0,s0,sN,sN]) underlying24 (fun w=>by kernel_rfl) rfl (by decide) (by simp [Value.cells,Value.oneCell']) (size:=5) g (i*5) 1 1 (by omega) (Y8 E.o _ _ (by rw [<-Nat.add_mul];exact Nat.mul_le_mul_right _ (by omega)));have c1:(i:Int)<=(i:Int)+1:=by omega
  have c2:(i:Int)+1<=(i:Int)+1:=by omega
  have c3: ¬ (i:Int)+1=(i:Int):=by omega
  have c4: ¬ i+1=i:=by omega
  have c5:(0:Int)<=(i:Int):=by omega
  have c6:i+1 - i=1:=by omega
  go_wp2_with fail;go_ret;exact⟨rfl,XE E.o Z _ lr,M.o.trans (ZF ab _ _),N.o.trans (XM (ZJ E.o).2.2.1 _ _),⟨by rw [YT];exact I.o.size,fun k C D=>(YZ m g (fun e=>D (by rw [e];rfl)) _ _).trans (I.o.block k C D)⟩⟩
 ·have ag: ¬ (c:Int)=(i:Int)+1:=by omega
  have am: ¬ c=i:=by omega
  go_wp2_with fail;refine wp_region_held_drew (S:=fun _=>True) (by kernel_rfl) trivial (fun d=> ?_)
  (try simp only [pp]);refine tk 0 20 d ?_;refine tk 1 21 d ?_;refine tk 2 22 d ?_;refine tk 3 23 d ?_;refine tk 4 24 d ?_;refine tk 5 25 d ?_;refine on 6 26 fun K J=> ?_
  rw [if_pos (by rfl)];refine wp_append_own_spare _ _ _ _ rfl base 73 i0 5 underlying24 ad ae g i c _ rfl L.o (aD g ((i+1)*5)) (n - (i+1)) (c - (i+1)) _ rfl O.o (fun j u G=>by rw [Addr.add_mid];exact HC.o j u G) V.o (by omega) ?_
  intro m F s;rw [show i+ (n - (i+1))=n - 1 from by omega] at F ⊢;have E:Hid (m.ownsRow base 73 5 (.slice (some (aD g 0)) (n - 1) c) (n - 1) ((l.eraseIdx i).flatMap YX.cs)):=hid (by rw [HX.o];exact F);have M:Hid (Below base w m):=hid (Below.grown (show Below base w w.drew from br.drew) s (by simp;omega) (fun k C=>by injection C with C;omega))
  have N:Hid (ZS [73] w m):=hid (show ZS [73] w m from (ZS.drew w).trans (ZS.grown (w:=w.drew) L.o s (by simp) s.size));have I:Hid (Vm w m (.slice (some (aD g 0)) n c)):=hid ⟨by have:=s.size;simpa using this,fun k C D=>s.block k (by simpa using C) (fun e=>D (by rw [e];rfl))⟩
  clear F s;refine J _ _ trivial (fun d=> ?_)
  clear J K;(try simp only [pp])
  refine tk 7 0 d ?_;refine wpAnyH_done (by kernel_rfl) ?_ _
  obtain⟨Z,af,aa⟩:=Y5 m 24 73 0 (.agg #[s0,s0,s0,sN,sN]) underlying24 (fun w=>by kernel_rfl) rfl (by decide) (by simp [Value.cells,Value.oneCell']) (size:=5) g ((n - 1)*5) 1 (c - (n - 1)) (by omega) (Y8 E.o _ _ (by rw [<-Nat.add_mul];exact Nat.mul_le_mul_right _ (by omega)));have c1:((n - 1:Nat):Int)<=(n:Int):=by omega
  have c2:(n:Int)<=(c:Int):=by omega
  have c3: ¬ (c:Int)=((n - 1:Nat):Int):=by omega
  have c4: ¬ c=n - 1:=by omega
  have c5:(0:Int)<=((n - 1:Nat):Int):=by omega
  have c6:n - (n - 1)=1:=by omega
  go_wp2_with fail;go_ret;exact⟨rfl,XE E.o Z _ lr,M.o.trans (ZF ab _ _),N.o.trans (XM (ZJ E.o).2.2.1 _ _),⟨by rw [YT];exact I.o.size,fun k C D=>(YZ m g (fun e=>D (by rw [e];rfl)) _ _).trans (I.o.block k C D)⟩⟩
theorem OB (base:Nat)(l:List Sc)(A:oA)(c i:Nat)(w:World)(h:w.ownsRow base 89 2 (.slice A l.length c) l.length (l.flatMap Sc.cs))(hi:i<l.length)(hl:l.length<=1099511627776):
  cQ 198 #[.slice A l.length c,i6 i,.int .i64 ((i:Int)+1)] w fun e w'=>e= .returned (.slice A (l.length - 1:Nat) c)/\w'.ownsRow base 89 2 (.slice A (l.length - 1:Nat) c) (l.length - 1) ((l.eraseIdx i).flatMap Sc.cs)/\Below base w w'/\ZS [89] w w'/\Vm w w' (.slice A l.length c):=by
 obtain⟨g,rfl⟩: ∃ g,A=some (aD g 0):=by
  obtain⟨g,cap,T,_,_⟩:=h.form (by omega);exact⟨g,by injection T⟩
 obtain⟨i0,ad,ao,ae,ap⟩:=info_parts TF;obtain⟨aj,ak⟩:=Yw h;obtain⟨ab,an,ac,_,U⟩:=ZJ h;have HO:=hid h;have ah:=hid ac;have L:=hid (VH h (show i<=l.length by omega));have HX:Hid ((l.eraseIdx i).flatMap Sc.cs=(l.flatMap Sc.cs).take (i*2) ++ (l.flatMap Sc.cs).drop ((i+1)*2)):=hid (by rw [List.eraseIdx_eq_take_drop_succ,List.flatMap_append,Xj Sc.k,WJ Sc.k]);have O:Hid (((l.flatMap Sc.cs).drop ((i+1)*2)).length=(l.length - (i+1))*2):=hid (by rw [List.length_drop,Zm Sc.k,Nat.sub_mul]);have HC:Hid (∀ j u,((l.flatMap Sc.cs).drop ((i+1)*2))[j]?=some u->w.cell? (aD g ((i+1)*2+j))=some u):=hid (fun j u G=>U _ u (by rw [List.getElem?_drop] at G;exact G));have V:Hid (∀ v∈(l.flatMap Sc.cs).drop ((i+1)*2),v.oneCell'=true):=hid fun v T=>Yg Sc.one l v (List.mem_of_mem_drop T)
 clear h ac U;generalize (l.flatMap Sc.cs)=xs at*;generalize hln:l.length=n at*;have b1:(0:Int)<=(i:Int):=by omega
 have b2:(i:Int)<=(i:Int)+1:=by omega
 have b3:(i:Int)+1<=(n:Int):=by omega
 have b4:(n:Int)<=(c:Int):=by omega
 have b5:((i:Int) ==(i:Int)+1)=false:=by simp;omega
 have b6:(0:Int)<=(i:Int)+1:=by omega
 have b7:((i:Int)+1).toNat=i+1:=by omega
 have b8:(i:Int)<=(c:Int):=by omega
 have b9:(i:Int)<=(n:Int):=by omega
 have ai:(i:Int)+1<=(c:Int):=by omega
 go_enter func198,ntmps198
 by_cases hce:c=i+1
 ·subst hce;obtain rfl:n=i+1:=by omega
  go_wp2_with fail;refine wp_region_held_drew (S:=fun _=>True) (by kernel_rfl) trivial (fun d=> ?_)
  (try simp only [pp]);refine tk 0 20 d ?_;refine tk 1 21 d ?_;refine tk 2 22 d ?_;refine tk 3 23 d ?_;refine tk 4 24 d ?_;refine tk 5 25 d ?_;refine on 6 26 fun K J=> ?_
  rw [if_pos (by rfl)];refine wp_append_own_spare _ _ _ _ rfl base 89 i0 2 underlying23 ad ae g i (i+1) _ rfl L.o (aD g 0) 0 0 _ rfl (by rw [O.o,Nat.sub_self]) (fun j u G=>by have h0:=(List.getElem?_eq_some_iff.1 G).1;rw [O.o,Nat.sub_self] at h0;omega) V.o (by omega) ?_
  intro m F s;rw [show i+0=i from rfl] at F ⊢;have E:Hid (m.ownsRow base 89 2 (.slice (some (aD g 0)) i (i+1)) i ((l.eraseIdx i).flatMap Sc.cs)):=hid (by rw [HX.o];exact F);have M:Hid (Below base w m):=hid (Below.grown (show Below base w w.drew from br.drew) s (by simp;omega) (fun k C=>by injection C with C;omega))
  have N:Hid (ZS [89] w m):=hid (show ZS [89] w m from (ZS.drew w).trans (ZS.grown (w:=w.drew) L.o s (by simp) s.size));have I:Hid (Vm w m (.slice (some (aD g 0)) (i+1) (i+1))):=hid ⟨by have:=s.size;simpa using this,fun k C D=>s.block k (by simpa using C) (fun e=>D (by rw [e];rfl))⟩
  clear F s;refine J _ _ trivial (fun d=> ?_)
  clear J K;(try simp only [pp])
  refine tk 7 0 d ?_;refine wpAnyH_done (by kernel_rfl) ?_ _
  obtain⟨Z,af,aa⟩:=Y5 m 23 89 0 (.agg #[s0,s0]) underlying23 (fun w=>by kernel_rfl) rfl (by decide) (by simp [Value.cells,Value.oneCell']) (size:=2) g (i*2) 1 1 (by omega) (Y8 E.o _ _ (by rw [<-Nat.add_mul];exact Nat.mul_le_mul_right _ (by omega)));have c1:(i:Int)<=(i:Int)+1:=by omega
  have c2:(i:Int)+1<=(i:Int)+1:=by omega
  have c3: ¬ (i:Int)+1=(i:Int):=by omega
  have c4: ¬ i+1=i:=by omega
  have c5:(0:Int)<=(i:Int):=by omega
  have c6:i+1 - i=1:=by omega
  go_wp2_with fail;go_ret;exact⟨rfl,XE E.o Z _ lr,M.o.trans (ZF ab _ _),N.o.trans (XM (ZJ E.o).2.2.1 _ _),⟨by rw [YT];exact I.o.size,fun k C D=>(YZ m g (fun e=>D (by rw [e];rfl)) _ _).trans (I.o.block k C D)⟩⟩
 ·have ag: ¬ (c:Int)=(i:Int)+1:=by omega
  have am: ¬ c=i:=by omega
  go_wp2_with fail;refine wp_region_held_drew (S:=fun _=>True) (by kernel_rfl) trivial (fun d=> ?_)
  (try simp only [pp]);refine tk 0 20 d ?_;refine tk 1 21 d ?_;refine tk 2 22 d ?_;refine tk 3 23 d ?_;refine tk 4 24 d ?_;refine tk 5 25 d ?_;refine on 6 26 fun K J=> ?_
  rw [if_pos (by rfl)];refine wp_append_own_spare _ _ _ _ rfl base 89 i0 2 underlying23 ad ae g i c _ rfl L.o (aD g ((i+1)*2)) (n - (i+1)) (c - (i+1)) _ rfl O.o (fun j u G=>by rw [Addr.add_mid];exact HC.o j u G) V.o (by omega) ?_
  intro m F s;rw [show i+ (n - (i+1))=n - 1 from by omega] at F ⊢;have E:Hid (m.ownsRow base 89 2 (.slice (some (aD g 0)) (n - 1) c) (n - 1) ((l.eraseIdx i).flatMap Sc.cs)):=hid (by rw [HX.o];exact F);have M:Hid (Below base w m):=hid (Below.grown (show Below base w w.drew from br.drew) s (by simp;omega) (fun k C=>by injection C with C;omega))
  have N:Hid (ZS [89] w m):=hid (show ZS [89] w m from (ZS.drew w).trans (ZS.grown (w:=w.drew) L.o s (by simp) s.size));have I:Hid (Vm w m (.slice (some (aD g 0)) n c)):=hid ⟨by have:=s.size;simpa using this,fun k C D=>s.block k (by simpa using C) (fun e=>D (by rw [e];rfl))⟩
  clear F s;refine J _ _ trivial (fun d=> ?_)
  clear J K;(try simp only [pp])
  refine tk 7 0 d ?_;refine wpAnyH_done (by kernel_rfl) ?_ _
  obtain⟨Z,af,aa⟩:=Y5 m 23 89 0 (.agg #[s0,s0]) underlying23 (fun w=>by kernel_rfl) rfl (by decide) (by simp [Value.cells,Value.oneCell']) (size:=2) g ((n - 1)*2) 1 (c - (n - 1)) (by omega) (Y8 E.o _ _ (by rw [<-Nat.add_mul];exact Nat.mul_le_mul_right _ (by omega)));have c1:((n - 1:Nat):Int)<=(n:Int):=by omega
  have c2:(n:Int)<=(c:Int):=by omega
  have c3: ¬ (c:Int)=((n - 1:Nat):Int):=by omega
  have c4: ¬ c=n - 1:=by omega
  have c5:(0:Int)<=((n - 1:Nat):Int):=by omega
  have c6:n - (n - 1)=1:=by omega
  go_wp2_with fail;go_ret;exact⟨rfl,XE E.o Z _ lr,M.o.trans (ZF ab _ _),N.o.trans (XM (ZJ E.o).2.2.1 _ _),⟨by rw [YT];exact I.o.size,fun k C D=>(YZ m g (fun e=>D (by rw [e];rfl)) _ _).trans (I.o.block k C D)⟩⟩
theorem OD (base:Nat)(l:List Cl)(A:oA)(c i:Nat)(w:World)(h:w.ownsRow base 119 3 (.slice A l.length c) l.length (l.flatMap Cl.cs))(hi:i<l.length)(hl:l.length<=1099511627776):
  cQ 208 #[.slice A l.length c,i6 i,.int .i64 ((i:Int)+1)] w fun e w'=>e= .returned (.slice A (l.length - 1:Nat) c)/\w'.ownsRow base 119 3 (.slice A (l.length - 1:Nat) c) (l.length - 1) ((l.eraseIdx i).flatMap Cl.cs)/\Below base w w'/\ZS [119] w w'/\Vm w w' (.slice A l.length c):=by
 obtain⟨g,rfl⟩: ∃ g,A=some (aD g 0):=by
  obtain⟨g,cap,T,_,_⟩:=h.form (by omega);exact⟨g,by injection T⟩
 obtain⟨i0,ad,ao,ae,ap⟩:=info_parts TH;obtain⟨aj,ak⟩:=Yw h;obtain⟨ab,an,ac,_,U⟩:=ZJ h;have HO:=hid h;have ah:=hid ac;have L:=hid (VH h (show i<=l.length by omega));have HX:Hid ((l.eraseIdx i).flatMap Cl.cs=(l.flatMap Cl.cs).take (i*3) ++ (l.flatMap Cl.cs).drop ((i+1)*3)):=hid (by rw [List.eraseIdx_eq_take_drop_succ,List.flatMap_append,Xj Cl.k,WJ Cl.k]);have O:Hid (((l.flatMap Cl.cs).drop ((i+1)*3)).length=(l.length - (i+1))*3):=hid (by rw [List.length_drop,Zm Cl.k,Nat.sub_mul]);have HC:Hid (∀ j u,((l.flatMap Cl.cs).drop ((i+1)*3))[j]?=some u->w.cell? (aD g ((i+1)*3+j))=some u):=hid (fun j u G=>U _ u (by rw [List.getElem?_drop] at G;exact G));have V:Hid (∀ v∈(l.flatMap Cl.cs).drop ((i+1)*3),v.oneCell'=true):=hid fun v T=>Yg Cl.one l v (List.mem_of_mem_drop T)
 clear h ac U;generalize (l.flatMap Cl.cs)=xs at*;generalize hln:l.length=n at*;have b1:(0:Int)<=(i:Int):=by omega
 have b2:(i:Int)<=(i:Int)+1:=by omega
 have b3:(i:Int)+1<=(n:Int):=by omega
 have b4:(n:Int)<=(c:Int):=by omega
 have b5:((i:Int) ==(i:Int)+1)=false:=by simp;omega
 have b6:(0:Int)<=(i:Int)+1:=by omega
 have b7:((i:Int)+1).toNat=i+1:=by omega
 have b8:(i:Int)<=(c:Int):=by omega
 have b9:(i:Int)<=(n:Int):=by omega
 have ai:(i:Int)+1<=(c:Int):=by omega
 go_enter func208,ntmps208
 by_cases hce:c=i+1
 ·subst hce;obtain rfl:n=i+1:=by omega
  go_wp2_with fail;refine wp_region_held_drew (S:=fun _=>True) (by kernel_rfl) trivial (fun d=> ?_)
  (try simp only [pp]);refine tk 0 20 d ?_;refine tk 1 21 d ?_;refine tk 2 22 d ?_;refine tk 3 23 d ?_;refine tk 4 24 d ?_;refine tk 5 25 d ?_;refine on 6 26 fun K J=> ?_
  rw [if_pos (by rfl)];refine wp_append_own_spare _ _ _ _ rfl base 119 i0 3 underlying37 ad ae g i (i+1) _ rfl L.o (aD g 0) 0 0 _ rfl (by rw [O.o,Nat.sub_self]) (fun j u G=>by have h0:=(List.getElem?_eq_some_iff.1 G).1;rw [O.o,Nat.sub_self] at h0;omega) V.o (by omega) ?_
  intro m F s;rw [show i+0=i from rfl] at F ⊢;have E:Hid (m.ownsRow base 119 3 (.slice (some (aD g 0)) i (i+1)) i ((l.eraseIdx i).flatMap Cl.cs)):=hid (by rw [HX.o];exact F);have M:Hid (Below base w m):=hid (Below.grown (show Below base w w.drew from br.drew) s (by simp;omega) (fun k C=>by injection C with C;omega))
  have N:Hid (ZS [119] w m):=hid (show ZS [119] w m from (ZS.drew w).trans (ZS.grown (w:=w.drew) L.o s (by simp) s.size));have I:Hid (Vm w m (.slice (some (aD g 0)) (i+1) (i+1))):=hid ⟨by have:=s.size;simpa using this,fun k C D=>s.block k (by simpa using C) (fun e=>D (by rw [e];rfl))⟩
  clear F s;refine J _ _ trivial (fun d=> ?_)
  clear J K;(try simp only [pp])
  refine tk 7 0 d ?_;refine wpAnyH_done (by kernel_rfl) ?_ _
  obtain⟨Z,af,aa⟩:=Y5 m 37 119 0 (.agg #[s0,i6 0,.bool false]) underlying37 (fun w=>by kernel_rfl) rfl (by decide) (by simp [Value.cells,Value.oneCell']) (size:=3) g (i*3) 1 1 (by omega) (Y8 E.o _ _ (by rw [<-Nat.add_mul];exact Nat.mul_le_mul_right _ (by omega)));have c1:(i:Int)<=(i:Int)+1:=by omega
  have c2:(i:Int)+1<=(i:Int)+1:=by omega
  have c3: ¬ (i:Int)+1=(i:Int):=by omega
  have c4: ¬ i+1=i:=by omega
  have c5:(0:Int)<=(i:Int):=by omega
  have c6:i+1 - i=1:=by omega
  go_wp2_with fail;go_ret;exact⟨rfl,XE E.o Z _ lr,M.o.trans (ZF ab _ _),N.o.trans (XM (ZJ E.o).2.2.1 _ _),⟨by rw [YT];exact I.o.size,fun k C D=>(YZ m g (fun e=>D (by rw [e];rfl)) _ _).trans (I.o.block k C D)⟩⟩
 ·have ag: ¬ (c:Int)=(i:Int)+1:=by omega
  have am: ¬ c=i:=by omega
  go_wp2_with fail;refine wp_region_held_drew (S:=fun _=>True) (by kernel_rfl) trivial (fun d=> ?_)
  (try simp only [pp]);refine tk 0 20 d ?_;refine tk 1 21 d ?_;refine tk 2 22 d ?_;refine tk 3 23 d ?_;refine tk 4 24 d ?_;refine tk 5 25 d ?_;refine on 6 26 fun K J=> ?_
  rw [if_pos (by rfl)];refine wp_append_own_spare _ _ _ _ rfl base 119 i0 3 underlying37 ad ae g i c _ rfl L.o (aD g ((i+1)*3)) (n - (i+1)) (c - (i+1)) _ rfl O.o (fun j u G=>by rw [Addr.add_mid];exact HC.o j u G) V.o (by omega) ?_
  intro m F s;rw [show i+ (n - (i+1))=n - 1 from by omega] at F ⊢;have E:Hid (m.ownsRow base 119 3 (.slice (some (aD g 0)) (n - 1) c) (n - 1) ((l.eraseIdx i).flatMap Cl.cs)):=hid (by rw [HX.o];exact F);have M:Hid (Below base w m):=hid (Below.grown (show Below base w w.drew from br.drew) s (by simp;omega) (fun k C=>by injection C with C;omega))
  have N:Hid (ZS [119] w m):=hid (show ZS [119] w m from (ZS.drew w).trans (ZS.grown (w:=w.drew) L.o s (by simp) s.size));have I:Hid (Vm w m (.slice (some (aD g 0)) n c)):=hid ⟨by have:=s.size;simpa using this,fun k C D=>s.block k (by simpa using C) (fun e=>D (by rw [e];rfl))⟩
  clear F s;refine J _ _ trivial (fun d=> ?_)
  clear J K;(try simp only [pp])
  refine tk 7 0 d ?_;refine wpAnyH_done (by kernel_rfl) ?_ _
  obtain⟨Z,af,aa⟩:=Y5 m 37 119 0 (.agg #[s0,i6 0,.bool false]) underlying37 (fun w=>by kernel_rfl) rfl (by decide) (by simp [Value.cells,Value.oneCell']) (size:=3) g ((n - 1)*3) 1 (c - (n - 1)) (by omega) (Y8 E.o _ _ (by rw [<-Nat.add_mul];exact Nat.mul_le_mul_right _ (by omega)));have c1:((n - 1:Nat):Int)<=(n:Int):=by omega
  have c2:(n:Int)<=(c:Int):=by omega
  have c3: ¬ (c:Int)=((n - 1:Nat):Int):=by omega
  have c4: ¬ c=n - 1:=by omega
  have c5:(0:Int)<=((n - 1:Nat):Int):=by omega
  have c6:n - (n - 1)=1:=by omega
  go_wp2_with fail;go_ret;exact⟨rfl,XE E.o Z _ lr,M.o.trans (ZF ab _ _),N.o.trans (XM (ZJ E.o).2.2.1 _ _),⟨by rw [YT];exact I.o.size,fun k C D=>(YZ m g (fun e=>D (by rw [e];rfl)) _ _).trans (I.o.block k C D)⟩⟩
theorem Mm (base:Nat)(l:List YH)(A:oA)(c i:Nat)(w:World)(h:w.ownsRow base 40 8 (.slice A l.length c) l.length (l.flatMap YH.cs))(hi:i<l.length)(hl:l.length<=1099511627776):
  cQ 215 #[.slice A l.length c,i6 i,.int .i64 ((i:Int)+1)] w fun e w'=>e= .returned (.slice A (l.length - 1:Nat) c)/\w'.ownsRow base 40 8 (.slice A (l.length - 1:Nat) c) (l.length - 1) ((l.eraseIdx i).flatMap YH.cs)/\Below base w w'/\ZS [40] w w'/\Vm w w' (.slice A l.length c):=by
 obtain⟨g,rfl⟩: ∃ g,A=some (aD g 0):=by
  obtain⟨g,cap,T,_,_⟩:=h.form (by omega);exact⟨g,by injection T⟩
 obtain⟨i0,ad,ao,ae,ap⟩:=info_parts Tl;obtain⟨aj,ak⟩:=Yw h;obtain⟨ab,an,ac,_,U⟩:=ZJ h;have HO:=hid h;have ah:=hid ac;have L:=hid (VH h (show i<=l.length by omega));have HX:Hid ((l.eraseIdx i).flatMap YH.cs=(l.flatMap YH.cs).take (i*8) ++ (l.flatMap YH.cs).drop ((i+1)*8)):=hid (by rw [List.eraseIdx_eq_take_drop_succ,List.flatMap_append,Xj YH.k,WJ YH.k]);have O:Hid (((l.flatMap YH.cs).drop ((i+1)*8)).length=(l.length - (i+1))*8):=hid (by rw [List.length_drop,Zm YH.k,Nat.sub_mul]);have HC:Hid (∀ j u,((l.flatMap YH.cs).drop ((i+1)*8))[j]?=some u->w.cell? (aD g ((i+1)*8+j))=some u):=hid (fun j u G=>U _ u (by rw [List.getElem?_drop] at G;exact G));have V:Hid (∀ v∈(l.flatMap YH.cs).drop ((i+1)*8),v.oneCell'=true):=hid fun v T=>Yg YH.one l v (List.mem_of_mem_drop T)
 clear h ac U;generalize (l.flatMap YH.cs)=xs at*;generalize hln:l.length=n at*;have b1:(0:Int)<=(i:Int):=by omega
 have b2:(i:Int)<=(i:Int)+1:=by omega
 have b3:(i:Int)+1<=(n:Int):=by omega
 have b4:(n:Int)<=(c:Int):=by omega
 have b5:((i:Int) ==(i:Int)+1)=false:=by simp;omega
 have b6:(0:Int)<=(i:Int)+1:=by omega
 have b7:((i:Int)+1).toNat=i+1:=by omega
 have b8:(i:Int)<=(c:Int):=by omega
 have b9:(i:Int)<=(n:Int):=by omega
 have ai:(i:Int)+1<=(c:Int):=by omega
 go_enter func215,ntmps215
 by_cases hce:c=i+1
 ·subst hce;obtain rfl:n=i+1:=by omega
  go_wp2_with fail;refine wp_region_held_drew (S:=fun _=>True) (by kernel_rfl) trivial (fun d=> ?_)
  (try simp only [pp]);refine tk 0 20 d ?_;refine tk 1 21 d ?_;refine tk 2 22 d ?_;refine tk 3 23 d ?_;refine tk 4 24 d ?_;refine tk 5 25 d ?_;refine on 6 26 fun K J=> ?_
  rw [if_pos (by rfl)];refine wp_append_own_spare _ _ _ _ rfl base 40 i0 8 underlying71 ad ae g i (i+1) _ rfl L.o (aD g 0) 0 0 _ rfl (by rw [O.o,Nat.sub_self]) (fun j u G=>by have h0:=(List.getElem?_eq_some_iff.1 G).1;rw [O.o,Nat.sub_self] at h0;omega) V.o (by omega) ?_
  intro m F s;rw [show i+0=i from rfl] at F ⊢;have E:Hid (m.ownsRow base 40 8 (.slice (some (aD g 0)) i (i+1)) i ((l.eraseIdx i).flatMap YH.cs)):=hid (by rw [HX.o];exact F);have M:Hid (Below base w m):=hid (Below.grown (show Below base w w.drew from br.drew) s (by simp;omega) (fun k C=>by injection C with C;omega))
  have N:Hid (ZS [40] w m):=hid (show ZS [40] w m from (ZS.drew w).trans (ZS.grown (w:=w.drew) L.o s (by simp) s.size));have I:Hid (Vm w m (.slice (some (aD g 0)) (i+1) (i+1))):=hid ⟨by have:=s.size;simpa using this,fun k C D=>s.block k (by simpa using C) (fun e=>D (by rw [e];rfl))⟩
  clear F s;refine J _ _ trivial (fun d=> ?_)
  clear J K;(try simp only [pp])
  refine tk 7 0 d ?_;refine wpAnyH_done (by kernel_rfl) ?_ _
  obtain⟨Z,af,aa⟩:=Y5 m 71 40 0 (.agg #[s0,i6 0,sN,i6 0,i6 0,s0,s0,s0]) underlying71 (fun w=>by kernel_rfl) rfl (by decide) (by simp [Value.cells,Value.oneCell']) (size:=8) g (i*8) 1 1 (by omega) (Y8 E.o _ _ (by rw [<-Nat.add_mul];exact Nat.mul_le_mul_right _ (by omega)));have c1:(i:Int)<=(i:Int)+1:=by omega
  have c2:(i:Int)+1<=(i:Int)+1:=by omega
  have c3: ¬ (i:Int)+1=(i:Int):=by omega
  have c4: ¬ i+1=i:=by omega
  have c5:(0:Int)<=(i:Int):=by omega
  have c6:i+1 - i=1:=by omega
  go_wp2_with fail;go_ret;exact⟨rfl,XE E.o Z _ lr,M.o.trans (ZF ab _ _),N.o.trans (XM (ZJ E.o).2.2.1 _ _),⟨by rw [YT];exact I.o.size,fun k C D=>(YZ m g (fun e=>D (by rw [e];rfl)) _ _).trans (I.o.block k C D)⟩⟩
 ·have ag: ¬ (c:Int)=(i:Int)+1:=by omega
  have am: ¬ c=i:=by omega
  go_wp2_with fail;refine wp_region_held_drew (S:=fun _=>True) (by kernel_rfl) trivial (fun d=> ?_)
  (try simp only [pp]);refine tk 0 20 d ?_;refine tk 1 21 d ?_;refine tk 2 22 d ?_;refine tk 3 23 d ?_;refine tk 4 24 d ?_;refine tk 5 25 d ?_;refine on 6 26 fun K J=> ?_
  rw [if_pos (by rfl)];refine wp_append_own_spare _ _ _ _ rfl base 40 i0 8 underlying71 ad ae g i c _ rfl L.o (aD g ((i+1)*8)) (n - (i+1)) (c - (i+1)) _ rfl O.o (fun j u G=>by rw [Addr.add_mid];exact HC.o j u G) V.o (by omega) ?_
  intro m F s;rw [show i+ (n - (i+1))=n - 1 from by omega] at F ⊢;have E:Hid (m.ownsRow base 40 8 (.slice (some (aD g 0)) (n - 1) c) (n - 1) ((l.eraseIdx i).flatMap YH.cs)):=hid (by rw [HX.o];exact F);have M:Hid (Below base w m):=hid (Below.grown (show Below base w w.drew from br.drew) s (by simp;omega) (fun k C=>by injection C with C;omega))
  have N:Hid (ZS [40] w m):=hid (show ZS [40] w m from (ZS.drew w).trans (ZS.grown (w:=w.drew) L.o s (by simp) s.size));have I:Hid (Vm w m (.slice (some (aD g 0)) n c)):=hid ⟨by have:=s.size;simpa using this,fun k C D=>s.block k (by simpa using C) (fun e=>D (by rw [e];rfl))⟩
  clear F s;refine J _ _ trivial (fun d=> ?_)
  clear J K;(try simp only [pp])
  refine tk 7 0 d ?_;refine wpAnyH_done (by kernel_rfl) ?_ _
  obtain⟨Z,af,aa⟩:=Y5 m 71 40 0 (.agg #[s0,i6 0,sN,i6 0,i6 0,s0,s0,s0]) underlying71 (fun w=>by kernel_rfl) rfl (by decide) (by simp [Value.cells,Value.oneCell']) (size:=8) g ((n - 1)*8) 1 (c - (n - 1)) (by omega) (Y8 E.o _ _ (by rw [<-Nat.add_mul];exact Nat.mul_le_mul_right _ (by omega)));have c1:((n - 1:Nat):Int)<=(n:Int):=by omega
  have c2:(n:Int)<=(c:Int):=by omega
  have c3: ¬ (c:Int)=((n - 1:Nat):Int):=by omega
  have c4: ¬ c=n - 1:=by omega
  have c5:(0:Int)<=((n - 1:Nat):Int):=by omega
  have c6:n - (n - 1)=1:=by omega
  go_wp2_with fail;go_ret;exact⟨rfl,XE E.o Z _ lr,M.o.trans (ZF ab _ _),N.o.trans (XM (ZJ E.o).2.2.1 _ _),⟨by rw [YT];exact I.o.size,fun k C D=>(YZ m g (fun e=>D (by rw [e];rfl)) _ _).trans (I.o.block k C D)⟩⟩
theorem OC (base:Nat)(l:List Mb)(A:oA)(c i:Nat)(w:World)(h:w.ownsRow base 147 2 (.slice A l.length c) l.length (l.flatMap Mb.cs))(hi:i<l.length)(hl:l.length<=1099511627776):
  cQ 193 #[.slice A l.length c,i6 i,.int .i64 ((i:Int)+1)] w fun e w'=>e= .returned (.slice A (l.length - 1:Nat) c)/\w'.ownsRow base 147 2 (.slice A (l.length - 1:Nat) c) (l.length - 1) ((l.eraseIdx i).flatMap Mb.cs)/\Below base w w'/\ZS [147] w w'/\Vm w w' (.slice A l.length c):=by
 obtain⟨g,rfl⟩: ∃ g,A=some (aD g 0):=by
  obtain⟨g,cap,T,_,_⟩:=h.form (by omega);exact⟨g,by injection T⟩
 obtain⟨i0,ad,ao,ae,ap⟩:=info_parts TG;obtain⟨aj,ak⟩:=Yw h;obtain⟨ab,an,ac,_,U⟩:=ZJ h;have HO:=hid h;have ah:=hid ac;have L:=hid (VH h (show i<=l.length by omega));have HX:Hid ((l.eraseIdx i).flatMap Mb.cs=(l.flatMap Mb.cs).take (i*2) ++ (l.flatMap Mb.cs).drop ((i+1)*2)):=hid (by rw [List.eraseIdx_eq_take_drop_succ,List.flatMap_append,Xj Mb.k,WJ Mb.k]);have O:Hid (((l.flatMap Mb.cs).drop ((i+1)*2)).length=(l.length - (i+1))*2):=hid (by rw [List.length_drop,Zm Mb.k,Nat.sub_mul]);have HC:Hid (∀ j u,((l.flatMap Mb.cs).drop ((i+1)*2))[j]?=some u->w.cell? (aD g ((i+1)*2+j))=some u):=hid (fun j u G=>U _ u (by rw [List.getElem?_drop] at G;exact G));have V:Hid (∀ v∈(l.flatMap Mb.cs).drop ((i+1)*2),v.oneCell'=true):=hid fun v T=>Yg Mb.one l v (List.mem_of_mem_drop T)
 clear h ac U;generalize (l.flatMap Mb.cs)=xs at*;generalize hln:l.length=n at*;have b1:(0:Int)<=(i:Int):=by omega
 have b2:(i:Int)<=(i:Int)+1:=by omega
 have b3:(i:Int)+1<=(n:Int):=by omega
 have b4:(n:Int)<=(c:Int):=by omega
 have b5:((i:Int) ==(i:Int)+1)=false:=by simp;omega
 have b6:(0:Int)<=(i:Int)+1:=by omega
 have b7:((i:Int)+1).toNat=i+1:=by omega
 have b8:(i:Int)<=(c:Int):=by omega
 have b9:(i:Int)<=(n:Int):=by omega
 have ai:(i:Int)+1<=(c:Int):=by omega
 go_enter func193,ntmps193
 by_cases hce:c=i+1
 ·subst hce;obtain rfl:n=i+1:=by omega
  go_wp2_with fail;refine wp_region_held_drew (S:=fun _=>True) (by kernel_rfl) trivial (fun d=> ?_)
  (try simp only [pp]);refine tk 0 20 d ?_;refine tk 1 21 d ?_;refine tk 2 22 d ?_;refine tk 3 23 d ?_;refine tk 4 24 d ?_;refine tk 5 25 d ?_;refine on 6 26 fun K J=> ?_
  rw [if_pos (by rfl)];refine wp_append_own_spare _ _ _ _ rfl base 147 i0 2 underlying28 ad ae g i (i+1) _ rfl L.o (aD g 0) 0 0 _ rfl (by rw [O.o,Nat.sub_self]) (fun j u G=>by have h0:=(List.getElem?_eq_some_iff.1 G).1;rw [O.o,Nat.sub_self] at h0;omega) V.o (by omega) ?_
  intro m F s;rw [show i+0=i from rfl] at F ⊢;have E:Hid (m.ownsRow base 147 2 (.slice (some (aD g 0)) i (i+1)) i ((l.eraseIdx i).flatMap Mb.cs)):=hid (by rw [HX.o];exact F);have M:Hid (Below base w m):=hid (Below.grown (show Below base w w.drew from br.drew) s (by simp;omega) (fun k C=>by injection C with C;omega))
  have N:Hid (ZS [147] w m):=hid (show ZS [147] w m from (ZS.drew w).trans (ZS.grown (w:=w.drew) L.o s (by simp) s.size));have I:Hid (Vm w m (.slice (some (aD g 0)) (i+1) (i+1))):=hid ⟨by have:=s.size;simpa using this,fun k C D=>s.block k (by simpa using C) (fun e=>D (by rw [e];rfl))⟩
  clear F s;refine J _ _ trivial (fun d=> ?_)
  clear J K;(try simp only [pp])
  refine tk 7 0 d ?_;refine wpAnyH_done (by kernel_rfl) ?_ _
  obtain⟨Z,af,aa⟩:=Y5 m 28 147 0 (.agg #[s0,s0]) underlying28 (fun w=>by kernel_rfl) rfl (by decide) (by simp [Value.cells,Value.oneCell']) (size:=2) g (i*2) 1 1 (by omega) (Y8 E.o _ _ (by rw [<-Nat.add_mul];exact Nat.mul_le_mul_right _ (by omega)));have c1:(i:Int)<=(i:Int)+1:=by omega
  have c2:(i:Int)+1<=(i:Int)+1:=by omega
  have c3: ¬ (i:Int)+1=(i:Int):=by omega
  have c4: ¬ i+1=i:=by omega
  have c5:(0:Int)<=(i:Int):=by omega
  have c6:i+1 - i=1:=by omega
  go_wp2_with fail;go_ret;exact⟨rfl,XE E.o Z _ lr,M.o.trans (ZF ab _ _),N.o.trans (XM (ZJ E.o).2.2.1 _ _),⟨by rw [YT];exact I.o.size,fun k C D=>(YZ m g (fun e=>D (by rw [e];rfl)) _ _).trans (I.o.block k C D)⟩⟩
 ·have ag: ¬ (c:Int)=(i:Int)+1:=by omega
  have am: ¬ c=i:=by omega
  go_wp2_with fail;refine wp_region_held_drew (S:=fun _=>True) (by kernel_rfl) trivial (fun d=> ?_)
  (try simp only [pp]);refine tk 0 20 d ?_;refine tk 1 21 d ?_;refine tk 2 22 d ?_;refine tk 3 23 d ?_;refine tk 4 24 d ?_;refine tk 5 25 d ?_;refine on 6 26 fun K J=> ?_
  rw [if_pos (by rfl)];refine wp_append_own_spare _ _ _ _ rfl base 147 i0 2 underlying28 ad ae g i c _ rfl L.o (aD g ((i+1)*2)) (n - (i+1)) (c - (i+1)) _ rfl O.o (fun j u G=>by rw [Addr.add_mid];exact HC.o j u G) V.o (by omega) ?_
  intro m F s;rw [show i+ (n - (i+1))=n - 1 from by omega] at F ⊢;have E:Hid (m.ownsRow base 147 2 (.slice (some (aD g 0)) (n - 1) c) (n - 1) ((l.eraseIdx i).flatMap Mb.cs)):=hid (by rw [HX.o];exact F);have M:Hid (Below base w m):=hid (Below.grown (show Below base w w.drew from br.drew) s (by simp;omega) (fun k C=>by injection C with C;omega))
  have N:Hid (ZS [147] w m):=hid (show ZS [147] w m from (ZS.drew w).trans (ZS.grown (w:=w.drew) L.o s (by simp) s.size));have I:Hid (Vm w m (.slice (some (aD g 0)) n c)):=hid ⟨by have:=s.size;simpa using this,fun k C D=>s.block k (by simpa using C) (fun e=>D (by rw [e];rfl))⟩
  clear F s;refine J _ _ trivial (fun d=> ?_)
  clear J K;(try simp only [pp])
  refine tk 7 0 d ?_;refine wpAnyH_done (by kernel_rfl) ?_ _
  obtain⟨Z,af,aa⟩:=Y5 m 28 147 0 (.agg #[s0,s0]) underlying28 (fun w=>by kernel_rfl) rfl (by decide) (by simp [Value.cells,Value.oneCell']) (size:=2) g ((n - 1)*2) 1 (c - (n - 1)) (by omega) (Y8 E.o _ _ (by rw [<-Nat.add_mul];exact Nat.mul_le_mul_right _ (by omega)));have c1:((n - 1:Nat):Int)<=(n:Int):=by omega
  have c2:(n:Int)<=(c:Int):=by omega
  have c3: ¬ (c:Int)=((n - 1:Nat):Int):=by omega
  have c4: ¬ c=n - 1:=by omega
  have c5:(0:Int)<=((n - 1:Nat):Int):=by omega
  have c6:n - (n - 1)=1:=by omega
  go_wp2_with fail;go_ret;exact⟨rfl,XE E.o Z _ lr,M.o.trans (ZF ab _ _),N.o.trans (XM (ZJ E.o).2.2.1 _ _),⟨by rw [YT];exact I.o.size,fun k C D=>(YZ m g (fun e=>D (by rw [e];rfl)) _ _).trans (I.o.block k C D)⟩⟩
theorem KN (base:Nat)(l:List lU)(A:oA)(c i:Nat)(w:World)(h:w.ownsRow base 9 1 (.slice A l.length c) l.length (l.flatMap Yy))(hi:i<l.length)(hl:l.length<=1099511627776):
  cQ 183 #[.slice A l.length c,i6 i,.int .i64 ((i:Int)+1)] w fun e w'=>e= .returned (.slice A (l.length - 1:Nat) c)/\w'.ownsRow base 9 1 (.slice A (l.length - 1:Nat) c) (l.length - 1) ((l.eraseIdx i).flatMap Yy)/\Below base w w'/\ZS [9] w w'/\Vm w w' (.slice A l.length c):=by
 obtain⟨g,rfl⟩: ∃ g,A=some (aD g 0):=by
  obtain⟨g,cap,T,_,_⟩:=h.form (by omega);exact⟨g,by injection T⟩
 obtain⟨i0,ad,ao,ae,ap⟩:=info_parts RV;obtain⟨aj,ak⟩:=Yw h;obtain⟨ab,an,ac,_,U⟩:=ZJ h;have HO:=hid h;have ah:=hid ac;have L:=hid (VH h (show i<=l.length by omega));have HX:Hid ((l.eraseIdx i).flatMap Yy=(l.flatMap Yy).take (i*1) ++ (l.flatMap Yy).drop ((i+1)*1)):=hid (by rw [List.eraseIdx_eq_take_drop_succ,List.flatMap_append,Xj Yy.k,WJ Yy.k]);have O:Hid (((l.flatMap Yy).drop ((i+1)*1)).length=(l.length - (i+1))*1):=hid (by rw [List.length_drop,Zm Yy.k,Nat.sub_mul]);have HC:Hid (∀ j u,((l.flatMap Yy).drop ((i+1)*1))[j]?=some u->w.cell? (aD g ((i+1)*1+j))=some u):=hid (fun j u G=>U _ u (by rw [List.getElem?_drop] at G;exact G));have V:Hid (∀ v∈(l.flatMap Yy).drop ((i+1)*1),v.oneCell'=true):=hid fun v T=>Yg Yy.one l v (List.mem_of_mem_drop T)
 clear h ac U;generalize (l.flatMap Yy)=xs at*;generalize hln:l.length=n at*;have b1:(0:Int)<=(i:Int):=by omega
 have b2:(i:Int)<=(i:Int)+1:=by omega
 have b3:(i:Int)+1<=(n:Int):=by omega
 have b4:(n:Int)<=(c:Int):=by omega
 have b5:((i:Int) ==(i:Int)+1)=false:=by simp;omega
 have b6:(0:Int)<=(i:Int)+1:=by omega
 have b7:((i:Int)+1).toNat=i+1:=by omega
 have b8:(i:Int)<=(c:Int):=by omega
 have b9:(i:Int)<=(n:Int):=by omega
 have ai:(i:Int)+1<=(c:Int):=by omega
 go_enter func183,ntmps183
 by_cases hce:c=i+1
 ·subst hce;obtain rfl:n=i+1:=by omega
  go_wp2_with fail;refine wp_region_held_drew (S:=fun _=>True) (by kernel_rfl) trivial (fun d=> ?_)
  (try simp only [pp]);refine tk 0 20 d ?_;refine tk 1 21 d ?_;refine tk 2 22 d ?_;refine tk 3 23 d ?_;refine tk 4 24 d ?_;refine tk 5 25 d ?_;refine on 6 26 fun K J=> ?_
  rw [if_pos (by rfl)];refine wp_append_own_spare _ _ _ _ rfl base 9 i0 1 underlying27 ad ae g i (i+1) _ rfl L.o (aD g 0) 0 0 _ rfl (by rw [O.o,Nat.sub_self]) (fun j u G=>by have h0:=(List.getElem?_eq_some_iff.1 G).1;rw [O.o,Nat.sub_self] at h0;omega) V.o (by omega) ?_
  intro m F s;rw [show i+0=i from rfl] at F ⊢;have E:Hid (m.ownsRow base 9 1 (.slice (some (aD g 0)) i (i+1)) i ((l.eraseIdx i).flatMap Yy)):=hid (by rw [HX.o];exact F);have M:Hid (Below base w m):=hid (Below.grown (show Below base w w.drew from br.drew) s (by simp;omega) (fun k C=>by injection C with C;omega))
  have N:Hid (ZS [9] w m):=hid (show ZS [9] w m from (ZS.drew w).trans (ZS.grown (w:=w.drew) L.o s (by simp) s.size));have I:Hid (Vm w m (.slice (some (aD g 0)) (i+1) (i+1))):=hid ⟨by have:=s.size;simpa using this,fun k C D=>s.block k (by simpa using C) (fun e=>D (by rw [e];rfl))⟩
  clear F s;refine J _ _ trivial (fun d=> ?_)
  clear J K;(try simp only [pp])
  refine tk 7 0 d ?_;refine wpAnyH_done (by kernel_rfl) ?_ _
  obtain⟨Z,af,aa⟩:=Y5 m 27 9 0 (s0) underlying27 (fun w=>by kernel_rfl) rfl (by decide) (by simp [Value.cells,Value.oneCell']) (size:=1) g i 1 1 (by omega) (Y8 E.o _ _ (by omega));have c1:(i:Int)<=(i:Int)+1:=by omega
  have c2:(i:Int)+1<=(i:Int)+1:=by omega
  have c3: ¬ (i:Int)+1=(i:Int):=by omega
  have c4: ¬ i+1=i:=by omega
  have c5:(0:Int)<=(i:Int):=by omega
  have c6:i+1 - i=1:=by omega
  go_wp2_with fail;go_ret;exact⟨rfl,XE E.o Z _ (by simp),M.o.trans (ZF ab _ _),N.o.trans (XM (ZJ E.o).2.2.1 _ _),⟨by rw [YT];exact I.o.size,fun k C D=>(YZ m g (fun e=>D (by rw [e];rfl)) _ _).trans (I.o.block k C D)⟩⟩
 ·have ag: ¬ (c:Int)=(i:Int)+1:=by omega
  have am: ¬ c=i:=by omega
  go_wp2_with fail;refine wp_region_held_drew (S:=fun _=>True) (by kernel_rfl) trivial (fun d=> ?_)
  (try simp only [pp]);refine tk 0 20 d ?_;refine tk 1 21 d ?_;refine tk 2 22 d ?_;refine tk 3 23 d ?_;refine tk 4 24 d ?_;refine tk 5 25 d ?_;refine on 6 26 fun K J=> ?_
  rw [if_pos (by rfl)];refine wp_append_own_spare _ _ _ _ rfl base 9 i0 1 underlying27 ad ae g i c _ rfl L.o (aD g (i+1)) (n - (i+1)) (c - (i+1)) _ rfl O.o (fun j u G=>by rw [Addr.add_mid];have:=HC.o j u G;simpa using this) V.o (by omega) ?_
  intro m F s;rw [show i+ (n - (i+1))=n - 1 from by omega] at F ⊢;have E:Hid (m.ownsRow base 9 1 (.slice (some (aD g 0)) (n - 1) c) (n - 1) ((l.eraseIdx i).flatMap Yy)):=hid (by rw [HX.o];exact F);have M:Hid (Below base w m):=hid (Below.grown (show Below base w w.drew from br.drew) s (by simp;omega) (fun k C=>by injection C with C;omega))
  have N:Hid (ZS [9] w m):=hid (show ZS [9] w m from (ZS.drew w).trans (ZS.grown (w:=w.drew) L.o s (by simp) s.size));have I:Hid (Vm w m (.slice (some (aD g 0)) n c)):=hid ⟨by have:=s.size;simpa using this,fun k C D=>s.block k (by simpa using C) (fun e=>D (by rw [e];rfl))⟩
  clear F s;refine J _ _ trivial (fun d=> ?_)
  clear J K;(try simp only [pp])
  refine tk 7 0 d ?_;refine wpAnyH_done (by kernel_rfl) ?_ _
  obtain⟨Z,af,aa⟩:=Y5 m 27 9 0 (s0) underlying27 (fun w=>by kernel_rfl) rfl (by decide) (by simp [Value.cells,Value.oneCell']) (size:=1) g (n - 1) 1 (c - (n - 1)) (by omega) (Y8 E.o _ _ (by omega));have c1:((n - 1:Nat):Int)<=(n:Int):=by omega
  have c2:(n:Int)<=(c:Int):=by omega
  have c3: ¬ (c:Int)=((n - 1:Nat):Int):=by omega
  have c4: ¬ c=n - 1:=by omega
  have c5:(0:Int)<=((n - 1:Nat):Int):=by omega
  have c6:n - (n - 1)=1:=by omega
  go_wp2_with fail;go_ret;exact⟨rfl,XE E.o Z _ (by simp),M.o.trans (ZF ab _ _),N.o.trans (XM (ZJ E.o).2.2.1 _ _),⟨by rw [YT];exact I.o.size,fun k C D=>(YZ m g (fun e=>D (by rw [e];rfl)) _ _).trans (I.o.block k C D)⟩⟩
theorem Y9 {w w':World}{base:Nat}{e:TypeId}{size n:Nat}{v:Value}{xs:List Value}(h:w.ownsRow base e size v n xs)(j: ∀ k,v.ownBlock=some k->w'.heap[k]?=w.heap[k]?):w'.ownsRow base e size v n xs:=by
 refine⟨h.1,?_⟩
 rcases h.2 with h | ⟨g,cap,d,rfl,m,s,rest⟩
 ·exact .inl h
 ·exact .inr ⟨g,cap,d,rfl,m,(j g rfl).trans s,rest⟩
structure Yj (w w':World) (gt lo hi:Nat) (us:List TypeId) (x:Option Nat):Prop where
 size:w.heap.size<=w'.heap.size
 block: ∀ k t,Za w k t->k≠gt->(t∈us-> ¬ (lo<=k/\k<hi))->x≠some k->w'.heap[k]?=w.heap[k]?
theorem Yj.ZA {w w':World}{gt m d:Nat}{us:List TypeId}{x:Option Nat}(h:Below w.heap.size w w'):Yj w w' gt m d us x:=⟨h.size,fun k t j _ _ _=>h.block k j.lt⟩
theorem Yj.trans {w D E:World}{gt j d:Nat}{us:List TypeId}{x:Option Nat}(h:Yj w D gt j d us x)(g:Yj D E gt j d us x):Yj w E gt j d us x:=
 ⟨Nat.le_trans h.size g.size,fun k t u m s C=>by
  have e:=h.block k t u m s C;exact(g.block k t (u.RN e) m s C).trans e⟩
theorem Yj.GB {w:World}{gt j d c i:Nat}{us:List TypeId}(u:Value):Yj w (w.setCell ⟨c,i,none⟩ u) gt j d us (some c):=⟨by simp [World.setCell],fun k _ _ _ _ h=>Below.heap_setCell w ⟨c,i,none⟩ u k (fun e=>h (by rw [e]))⟩
theorem Yj.Zx {w:World}{gt j d i:Nat}{us:List TypeId}{x:Option Nat}(u:Value):Yj w (w.setCell ⟨gt,i,none⟩ u) gt j d us x:=⟨by simp [World.setCell],fun k _ _ h _ _=>Below.heap_setCell w ⟨gt,i,none⟩ u k h⟩
theorem Yj.grown {w w':World}{gt C m:Nat}{us:List TypeId}{x:Option Nat}{v:Value}{base size n:Nat}{e:TypeId}{xs:List Value}(h:w.ownsRow base e size v n xs)(j:w.grownBy w' v.ownBlock)(E:e∈us)(hb: ∀ k,v.ownBlock=some k->C<=k/\k<m):Yj w w' gt C m us x:=
 ⟨j.size,fun k t u _ s _=>j.block k u.lt fun d=>by
  have D:=Yx h d.symm;rw [u.same D] at s;exact s E (hb k d.symm)⟩
theorem Yj.keeps {w w':World}{gt C m:Nat}{us:List TypeId}{T:TypeId}(h:Yj w w' gt C m us none)(u:Za w gt T):ZS (T ::us) w w':=⟨h.size,fun k t d j=>h.block k t d (by rintro rfl;exact j (by rw [d.same u];simp)) (fun s=>absurd (List.mem_cons_of_mem _ s) j) (by simp)⟩
theorem XT.EJ {w w':World}{gt K J s hi':Nat}{us:List TypeId}{x:Option Nat}{t:YX}(h:XT w s hi' t)(I:Yj w w' gt K J us x)(N:Za w gt 73)(hd:hi'<=K∨J<=s)(Z: ∀ c,x=some c->c<s):XT w' s hi' t:=by
 obtain⟨C,Jv,⟨rs,T,D,M⟩,Qu⟩:=h;have ne: ∀ k t,Za w k t->t≠73->k≠gt:=fun k t d U e=>by subst e;exact U (d.same N)
 have E: ∀ k,s<=k->x≠some k:=fun k j e=>by have:=Z k e;omega
 have F: ∀ k,s<=k->k<hi'-> ¬ (K<=k/\k<J):=fun k j u m=>by omega
 refine⟨Y9 C fun k d=>I.block k _ (Yx C d) (ne k _ (Yx C d) (by decide)) (fun _=>F k (ZD C k d) (Jv k d)) (E k (ZD C k d)),Jv,⟨rs,T,Y9 D fun k d=>I.block k _ (Yx D d) (ne k _ (Yx D d) (by decide)) (fun _=>F k (ZD D k d) (Qu k d)) (E k (ZD D k d)),fun r L=>⟨(M r L).1.YW (fun k O=> ?_) (fun p V=>World.cell?_of_block ?_),(M r L).2⟩⟩,Qu⟩
 ·obtain⟨⟨j,t,u,cs,m⟩,G⟩:=O;have e:=I.block k t ⟨_,_,m⟩ (ne k t ⟨_,_,m⟩ (by rw [List.mem_singleton.1 u];decide)) (fun _=>F k j G) (E k j)
  exact⟨⟨j,t,u,cs,e.trans m⟩,G⟩
 ·obtain⟨⟨j,t,u,cs,m⟩,G⟩:=V;exact I.block _ t ⟨_,_,m⟩ (ne _ t ⟨_,_,m⟩ (by rw [List.mem_singleton.1 u];decide)) (fun _=>F _ j G) (E _ j)
def Tp (o:Ob)(i:Nat)(t:Tb):Ob:=⟨o.Z7,o.Z8.set i t⟩
theorem VM.EJ {w w':World}{base gt:Nat}{o:Ob}{u:Option Addr}{k0 k1:Nat}{ts:List YX}{b:Nat->Nat}{us:List TypeId}{x:Option Nat}{i hi':Nat}{t':YX}(h:VM w base o u k0 (some ⟨gt,0,none⟩) k1 ts b)(Z:i<ts.length)(D:Yj w w' gt (b i) (b (i+1)) us x)(J:89∉us)(E: ∀ c,x=some c->c<base)
  (F:w'.ownsRow base 73 5 (.slice (some ⟨gt,0,none⟩) o.Z8.length k1) o.Z8.length ((ts.set i t').flatMap YX.cs)) (V:XT w' base hi' t'):Nv w' (Tp o i t'.1) u (some ⟨gt,0,none⟩):=by
 have s:Za w gt 73:=Yx h.Z8 rfl;have T:ts.length=o.Z8.length:=by rw [<-h.data,List.length_map]
 refine⟨?_,?_⟩
 ·have m:=Y9 h.Z7 (w':=w') fun k d=>D.block k _ (Yx h.Z7 d) (fun e=>by subst e;have:=(Yx h.Z7 d).same s;exact absurd this (by decide)) (fun U=>absurd U J) (fun e=>by have:=E k e;have:=ZD h.Z7 k d;omega)
  have C:=Ye (S:=fun _=>False) (sh:=Ze) Sc.da id Sc.k m rfl (fun a _=>Sc.VW a);rw [List.map_id] at C;exact C.YW (fun k d=>d.elim (fun h=>h.elim) (fun h=>h.Rp (by simp [OT]))) (fun _ _=>rfl)
 ·have m:=Ye (S:=Xs w' OT) (sh:=Zn) Tb.da (·.1) YX.k F (by rw [List.length_set,T]) (fun a M=>by
   obtain⟨j,O,rfl⟩:=List.getElem_of_mem M;rw [List.getElem_set];split
   ·exact ZE.YW (fun k d=>d.Rp (by simp [OT])) (fun _ _=>rfl) _ _ _ V.VW
   ·rename_i I;have G:j<ts.length:=by simpa using O
    have K:=(h.tab j G).2.EJ D s (by
     rcases Nat.lt_or_gt_of_ne I with L | L
     ·exact Or.inr (h.S5 j (i+1) (by omega) (by omega))
     ·exact Or.inl (h.S5 i (j+1) (by omega) (by omega))) (fun c N=>by have:=E c N;have:=h.low;have:=h.S5 j 0 (Nat.zero_le _) (by omega);omega)
    exact ZE.YW (fun k d=>d.Rp (by simp [OT])) (fun _ _=>rfl) _ _ _ K.VW)
  have e:(ts.set i t').map (·.1)=(Tp o i t'.1).Z8:=by
   show _=o.Z8.set i t'.1
   rw [List.map_set,h.data]
  rw [e] at m;exact m.YW (fun k d=>d.elim id (fun h=>h.Rp (by simp [OT]))) (fun _ _=>rfl)
theorem Tr {w:World}{base gt n k1 i f:Nat}{ts:List YX}(h:w.ownsRow base 73 5 (.slice (some ⟨gt,0,none⟩) n k1) n (ts.flatMap YX.cs))(m:i<ts.length)(j:f<5)(u:Value)(t':YX)(C:YX.cs t'=(YX.cs ts[i]).set f u):
  (w.setCell ⟨gt,i*5+f,none⟩ u).ownsRow base 73 5 (.slice (some ⟨gt,0,none⟩) n k1) n ((ts.set i t').flatMap YX.cs):=by
 have s:i*5+f< (ts.flatMap YX.cs).length:=by rw [Zm YX.k];omega
 have d:=XG h s u;rwa [X7 YX.k ts i f m j u t' C] at d
theorem WD {w:World}{base gt n k1 i:Nat}{ts:List YX}(h:w.ownsRow base 73 5 (.slice (some ⟨gt,0,none⟩) n k1) n (ts.flatMap YX.cs))(j:i<ts.length)(f:Nat)(d:f<5)(u:Value)(m:(YX.cs ts[i])[f]?=some u):w.cell? ⟨gt,i*5+f,none⟩=some u:=
 (ZJ h).2.2.2.2 _ _ (by rw [Zl YX.k ts i f j d];exact m)
section
variable {w w' : World} {base gt p i hi' : Nat} {o : Ob} {B0 : Option Addr} {l0 l1 : Nat} {ts : List YX} {b : Nat -> Nat} {us : List TypeId} {t' : YX} {R : Int -> Ob -> Prop} {xx : Option Nat}
theorem UG (h:VM w base o B0 l0 (some ⟨gt,0,none⟩) l1 ts b)(F:i<ts.length)(d:ZP w p 26 [.slice B0 o.Z7.length l0,.slice (some ⟨gt,0,none⟩) o.Z8.length l1])(m:Yj w w' gt (b i) (b (i+1)) us xx)(D:89∉us)(u:26∉us)(j: ∀ c,xx=some c->c<base)(J:base<=p)
  (s:w'.ownsRow base 73 5 (.slice (some ⟨gt,0,none⟩) o.Z8.length l1) o.Z8.length ((ts.set i t').flatMap YX.cs)) (I:XT w' base hi' t') (hb:Y6 base xx w w') (E:R 0 (Tp o i t'.1)):VY xx w base p gt B0 l0 l1 o R (.returned (.int .i64 0)) w':=by
 have C:Za w gt 73:=Yx h.Z8 rfl;exact⟨0,Tp o i t'.1,rfl,E,rfl,by simp [Tp],(m.block p _ d.Xr (fun e=>by subst e;exact absurd (d.Xr.same C) (by decide)) (fun G=>absurd G u) (fun e=>by have:=j _ e;omega)).trans d,h.EJ F m D j s I,hb⟩
theorem Sm {d:Int}(m:VM w base o B0 l0 (some ⟨gt,0,none⟩) l1 ts b)(j:base<=w.heap.size)(h:ZP w p 26 [.slice B0 o.Z7.length l0,.slice (some ⟨gt,0,none⟩) o.Z8.length l1])(hb:Below w.heap.size w w')(s:R d o):VY xx w base p gt B0 l0 l1 o R (.returned (.int .i64 d)) w':=
 ⟨d,o,rfl,s,rfl,rfl,h.below hb h.lt,m.t.keeps (ZS.ZA (ts:= []) hb lr) (by simp),(hb.mono j).x _⟩
end
def C9 (o:Ob)(P:Prop)(f:Ob)(er:Int)(o':Ob):Prop:=(er≠0/\o'=o)∨(er=0/\P/\o'=f)
def VX (o:Ob)(ow:List UInt8)(i:Nat)(er:Int)(o':Ob):Prop:=er=0/\ ∃ hi:i<o.Z8.length,o'=Tp o i { o.Z8[i] with ZN:=ow}
theorem Ou (o:Ob)(s n ow:List UInt8)(c2:Nat)(L:World)(h:ZP L c2 9 [.string (Z2 ow)]):Qm none 177 #[.pointer (some ⟨c2,0,none⟩)] o L s n (VX o ow):=by
 intro w base p gt i B0 l0 l1 ts b aa u d m J T N U hi;have ae:ts.length=o.Z8.length:=by rw [<-d.data,List.length_map]
 have hi':i<ts.length:=by omega
 have I:ts[i].1=o.Z8[i]:=by
  have:=d.data;rw [<-List.getElem_map (f:=fun x:YX=>x.1) (h:=by simpa using hi')];simp only [this]
 have C:=(d.tab i hi').2;have ac:base<=w.heap.size:=by
  have:=d.low;have:=m 0 (Nat.zero_le _);omega
 have G:Za w gt 73:=Yx d.Z8 rfl;have O:=(ZJ d.Z8).1;have F:=(ZJ d.Z8).2.1;have E:=(ZJ d.Z8).2.2.2.1;have M:base<=b i:=Nat.le_trans d.low (d.S5 i 0 (Nat.zero_le _) (by omega));have ab:b (i+1)<=w.heap.size:=m (i+1) (by omega);have D:Below w.heap.size w (w.alloc (.cells #[.slice B0 o.Z7.length l0,.slice (some ⟨gt,0,none⟩) o.Z8.length l1] 26)):=br.alloc lr _;have a0:(w.alloc (.cells #[.slice B0 o.Z7.length l0,.slice (some ⟨gt,0,none⟩) o.Z8.length l1] 26)).cell? ⟨c2,0,none⟩=some (.string (Z2 ow)):=((h.below u h.lt).alloc _).cell 0;have a1:(w.alloc (.cells #[.slice B0 o.Z7.length l0,.slice (some ⟨gt,0,none⟩) o.Z8.length l1] 26)).cell? ⟨gt,i*5+2,none⟩=some (.string (Z2 ts[i].1.ZN)):=(D.cell (p:=⟨gt,i*5+2,none⟩) F).trans (WD d.Z8 hi' 2 (by omega) _ rfl);have f1:(w.alloc (.cells #[.slice B0 o.Z7.length l0,.slice (some ⟨gt,0,none⟩) o.Z8.length l1] 26)).frozen? ⟨gt,i*5+2,none⟩=false:=(D.frozen (p:=⟨gt,i*5+2,none⟩) F).trans (E _);have ad:=h.lt;have af:=u.size;have V:Hid (∀ W,W=(w.setCell ⟨gt,i*5+2,none⟩ (.string (Z2 ow))).alloc (.cells #[.slice B0 o.Z7.length l0,.slice (some ⟨gt,0,none⟩) o.Z8.length l1] 26)->VY none w base p gt B0 l0 l1 o (VX o ow i) (.returned (.int .i64 0)) W):=hid (by
  rintro W rfl;have j:Below (w.setCell ⟨gt,i*5+2,none⟩ (.string (Z2 ow))).heap.size (w.setCell ⟨gt,i*5+2,none⟩ (.string (Z2 ow))) ((w.setCell ⟨gt,i*5+2,none⟩ (.string (Z2 ow))).alloc (.cells #[.slice B0 o.Z7.length l0,.slice (some ⟨gt,0,none⟩) o.Z8.length l1] 26)):=br.alloc lr _;have K:Yj w ((w.setCell ⟨gt,i*5+2,none⟩ (.string (Z2 ow))).alloc (.cells #[.slice B0 o.Z7.length l0,.slice (some ⟨gt,0,none⟩) o.Z8.length l1] 26)) gt (b i) (b (i+1)) [] none:=(Yj.Zx _).trans (Yj.ZA j);refine UG (t':=({ ts[i].1 with ZN:=ow},ts[i].2)) (hi':=b (i+1)) d hi' J K (by simp) (by simp) (by simp) T ((Tr d.Z8 hi' (by omega) _ _ rfl).ZC j) ?_ (((br.setCell O _).trans (j.mono (by simp [World.setCell];omega))).x _) ⟨rfl,hi,by rw [I]⟩
  obtain⟨Z,Jv,hr,Qu⟩:=C.keeps (K.keeps G) (by decide) (by decide) (by decide);exact XT.mono ⟨Z,Jv,hr,Qu⟩ M lr)
 clear d m J C G E N u h U I;go_enter func177,ntmps177
 go_wp2;go_ret;exact V.out _ rfl
theorem OL {w W:World}{I L base:Nat}{us:List TypeId}{t:Tb}{X Y D:oA}{x y E:Nat}{j:List Cl}(h:XT w I L (t,X,x,Y,y))(d:ZS us w W)(J:40∉us)(K:9∉us)(s:base<=I)
  (G:W.ownsRow base 119 3 (.slice D j.length E) j.length (j.flatMap Cl.cs)):XT W base W.heap.size ({ t with Z3:=j},D,E,Y,y):=by
 obtain⟨_,_,⟨rs,M,O,F⟩,Qu⟩:=h;have hd: ∀ t,t∈ [9]->t∉us:=fun t T=>by rw [List.mem_singleton.1 T];exact K
 have u:=(O.Yp s).keeps d J;exact⟨G,fun k d=>YB G d,⟨rs,M,u,fun r C=>⟨(F r C).1.YW (fun k m=>⟨((m.1.keeps d hd).1).mono s (fun _ h=>h),((m.1.keeps d hd).1).lt⟩) (fun _ N=>World.cell?_of_block (N.1.keeps d hd).2),(F r C).2⟩⟩,fun k d=>YB u d⟩
theorem Tt {w W:World}{G M base:Nat}{us:List TypeId}{t:Tb}{X Y C:oA}{x y D:Nat}{j:List Ru}(h:XT w G M (t,X,x,Y,y))(d:ZS us w W)(K:119∉us)(J:base<=G)
  (L: ∃ rs:List YH,rs.map (·.1)=j/\W.ownsRow base 40 8 (.slice C j.length D) j.length (rs.flatMap YH.cs)/\ ∀ r∈rs,ZT W (Nw W base [9]) [.Z2] (YV r.1.Z3) r.2.1/\Qo r.1):XT W base W.heap.size ({ t with ZW:=j},X,x,C,D):=by
 obtain⟨I,_,_,_⟩:=h;obtain⟨rs,N,F,E⟩:=L;have m:=(I.Yp J).keeps d K;exact⟨m,fun k d=>YB m d,⟨rs,N,F,fun r u=>⟨(E r u).1.YW (fun k s=>⟨s,s.lt⟩) (fun _ _=>rfl),(E r u).2⟩⟩,fun k d=>YB F d⟩
def UY (o:Ob)(c:Cl)(i:Nat)(er:Int)(o':Ob):Prop:=(er≠0/\o'=o)∨(er=0/\ ∃ hi:i<o.Z8.length,VR c=true/\c.null=true/\Y7 o.Z8[i].Z3 c.name=none/\o.Z8[i].Z3.length<8/\o'=Tp o i { o.Z8[i] with Z3:=o.Z8[i].Z3 ++ [c]})
theorem MC (o:Ob)(s n:lU)(c:Cl)(c2:Nat)(w0:World)(ho:o.Zo 1099511627776)(h:ZP w0 c2 119 [sT c.name,i6 c.ZV,.bool c.null]):Qm none 201 #[pT c2] o w0 s n (UY o c):=by
 intro w base p gt i B0 l0 l1 ts b aG ao E ak hp a8 aV ba hi;have bo:ts.length=o.Z8.length:=by rw [<-E.data,List.length_map]
 have hi':i<ts.length:=by omega
 have an:ts[i].1=o.Z8[i]:=by
  have:=E.data;rw [<-List.getElem_map (f:=fun x:YX=>x.1) (h:=by simpa using hi')];simp only [this]
 have ae:=(E.tab i hi').2;have aH:base<=w.heap.size:=by
  have:=E.low;have:=ak 0 (Nat.zero_le _);omega
 have aK:Za w gt 73:=Yx E.Z8 rfl;have aY:=(ZJ E.Z8).1;have am:=(ZJ E.Z8).2.1;have aJ:=(ZJ E.Z8).2.2.2.1;have ag:base<=b i:=Nat.le_trans E.low (E.S5 i 0 (Nat.zero_le _) (by omega));have aZ:b (i+1)<=w.heap.size:=ak (i+1) (by omega);have aI:=fun f hf u hu=>WD E.Z8 hi' f hf u hu
 have ah:=fun(W:World) (h:W.ownsRow base 73 5 (.slice (some (aD gt 0)) o.Z8.length l1) o.Z8.length (ts.flatMap YX.cs)) f hf u t' ht=>Tr h hi' (f:=f) hf u t' ht
 have aC:=hid (ho.2.2 o.Z8[i] (List.getElem_mem hi));generalize hT:ts[i]=T at*;obtain⟨t,X,x,Y,y⟩:=T;dsimp only at an;rw [<-an] at aC;have aq:=hid E;have U:=hid ae;have HP:=hid hp;have aP:=hid aK;have aO:=hid aJ;have bf:=hid ao;have au:=hid ah;have HT:=hid hT;have av:=hid an;have be:=hid ak;have bp:=ao.size;have bk:=hp.lt;have HC:=hid (h.below ao h.lt);have bh:=h.lt;have aj:Hid (∀ er W,er≠0->Bw w W->VY none w base p gt B0 l0 l1 o (UY o c i) (.returned (i6 er)) W):=hid fun er W J I=>Sm aq.o aH HP.o I (Or.inl ⟨J,rfl⟩)
 have aX:=aI 3 (by omega) (.slice X t.Z3.length x) rfl;clear E ae hp aK aJ ao ah hT ak aV ba an h aI ho;go_enter func201,ntmps201
 go_upto_region 1 with fail
 refine Wh _ fun W hW=> ?_
 have ap:=bP hW;clear hW;have C1:=hid (HC.o.below ap.o (by omega));have d0:=ce C1 0;have d1:=ce C1 1;have d2:=ce C1 2;have aR:Hid (∀ o',VR c=true->c.null=true->Y7 o.Z8[i].Z3 c.name=none->o.Z8[i].Z3.length<8->o'=Tp o i { o.Z8[i] with Z3:=o.Z8[i].Z3 ++ [c]} ->UY o c i 0 o'):=hid fun o' J I L M N=>Or.inr ⟨rfl,hi,J,I,L,M,N⟩
 go_wp2_with fail;refine(SS c W).mono ?_
 rintro e W2 ⟨rfl,hb⟩;have V:=bt ap hb;have C2:=bl C1 hb;clear hb d0 d1 d2 ap C1
 cases hm:VR c
 ·go_wp2;go_ret;exact aj.o 63 _ (by decide) V.o
 have d2:=ce C2 2
 cases hnu:c.null
 ·rw [hnu] at d2;go_wp2;go_ret;exact aj.o 63 _ (by decide) V.o
 rw [hnu] at d2;have HM:=hid hm;have ar:=hid hnu;have d0:=ce C2 0;have d1:=ce C2 1;have d3:W2.cell? (aD gt (i*5+3))=some (.slice X t.Z3.length x):=ct aX V.o am;have aL:=V.o.size;have aF:Bw w W2.drew:=V.o.drew;have ab:Hid (∀ j O,(fun w'=>Bw w w'/\w'.cell? (aD gt (i*5+3))=some (.slice X t.Z3.length x)/\w'.cell? (aD c2 0)=some (sT c.name)/\w'.cell? (aD c2 1)=some (i6 c.ZV)/\w'.cell? (aD c2 2)=some (.bool true)) j->Bw j O->(fun w'=>Bw w w'/\w'.cell? (aD gt (i*5+3))=some (.slice X t.Z3.length x)/\w'.cell? (aD c2 0)=some (sT c.name)/\w'.cell? (aD c2 1)=some (i6 c.ZV)/\w'.cell? (aD c2 2)=some (.bool true)) O):=hid (by
  intro j O ⟨J,I,L,M,N⟩ m;exact⟨J.trans (m.mono J.size),(m.cell (World.block_lt_of_cell? j _ I)).trans I,(m.cell (World.block_lt_of_cell? j _ L)).trans L,(m.cell (World.block_lt_of_cell? j _ M)).trans M,(m.cell (World.block_lt_of_cell? j _ N)).trans N⟩)
 have aM:Hid (∀ W,Bw w W->cQ 203 #[.slice X t.Z3.length x,sT c.name,.func (.func 204) #[] #[]] W fun e w'=>e= .returned (.int .i64 (WS (Y7 t.Z3 c.name)))/\Bw W w'):=hid (by
  intro W hW;have cB:=Xl (t.Z3.map Cl.da) X x c.name W (U.o.rows.1.later hW) (by simpa using aC.o.1);rwa [List.length_map,XL] at cB)
 have bi:=hm;clear hm hnu;go_wp2_with fail;go_region_held_law (fun w'=>Bw w w'/\w'.cell? (aD gt (i*5+3))=some (.slice X t.Z3.length x)/\w'.cell? (aD c2 0)=some (sT c.name)/\w'.cell? (aD c2 1)=some (i6 c.ZV)/\w'.cell? (aD c2 2)=some (.bool true))
  (first | exact ab.o _ _ (by assumption) (by assumption) | exact⟨aF,d3,d0,d1,d2⟩)
  (first | (go_at_call 203;refine(aM.o _ (by first | exact aF | assumption)).mono ?_;rintro e w' ⟨rfl,hb⟩))
 rename_i hS;have ai:=hid hS.1;have e3:=hS.2.1;clear hS ab V C2
 cases hcol:Y7 t.Z3 c.name with
 | some k=>
  have hk:(0:Int)<=(k:Int):=by omega
  rw [show WS (some k)=(k:Int) from rfl];go_wp2;go_ret;exact aj.o 60 _ (by decide) ai.o
 | none=>
  rw [show WS (none:Option Nat)= -1 from rfl];by_cases h8:8<=t.Z3.length
  ·have aT:(t.Z3.length:Int)>=8:=by omega
   have ax:(8:Int)<=(t.Z3.length:Int):=by omega
   go_wp2;go_ret;exact aj.o 2 _ (by decide) ai.o
  have aT: ¬ (t.Z3.length:Int)>=8:=by omega
  have ax: ¬ (8:Int)<=(t.Z3.length:Int):=by omega
  go_wp2_with fail;have q3:w'.drew.cell? (aD gt (i*5+3))=some (.slice X t.Z3.length x):=e3;have ay:Bw w w'.drew:=ai.o.drew;have C4:=hid (HC.o.below ay (by omega));rw [ar.o] at C4;have bg:gt<w'.heap.size:=Nat.lt_of_lt_of_le am ai.o.size;have a7:Hid (∀ j O,(fun w'=>w'.cell? (aD gt (i*5+3))=some (.slice X t.Z3.length x)/\w'.cell? (aD c2 0)=some (sT c.name)/\w'.cell? (aD c2 1)=some (i6 c.ZV)/\w'.cell? (aD c2 2)=some (.bool true)) j->Bw j O->(fun w'=>w'.cell? (aD gt (i*5+3))=some (.slice X t.Z3.length x)/\w'.cell? (aD c2 0)=some (sT c.name)/\w'.cell? (aD c2 1)=some (i6 c.ZV)/\w'.cell? (aD c2 2)=some (.bool true)) O):=hid (by
   intro j O ⟨I,L,M,N⟩ m;exact⟨(m.cell (World.block_lt_of_cell? j _ I)).trans I,(m.cell (World.block_lt_of_cell? j _ L)).trans L,(m.cell (World.block_lt_of_cell? j _ M)).trans M,(m.cell (World.block_lt_of_cell? j _ N)).trans N⟩)
  refine Ys 10 (S:=fun w'=>w'.cell? (aD gt (i*5+3))=some (.slice X t.Z3.length x)/\w'.cell? (aD c2 0)=some (sT c.name)/\w'.cell? (aD c2 1)=some (i6 c.ZV)/\w'.cell? (aD c2 2)=some (.bool true)) (by kernel_rfl) ⟨q3,C4.o.cell 0,C4.o.cell 1,C4.o.cell 2⟩ (fun d=> ?_)
  (try simp only [pp]);refine WZ 0 31 d ?_;refine WZ 1 32 d ?_;refine WZ 2 33 d ?_;refine WZ 3 34 d ?_;refine WZ 4 35 d ?_;refine WZ 5 36 d ?_;refine UK 6 37 fun K C=> ?_
  go_simp;refine Fe _ fun F m=> ?_
  have ac:Hid (Below w'.drew.heap.size w'.drew F):=hid (by rw [m];exact br.alloc lr _);have N6:Hid (ZP F w'.heap.size 119 [sT c.name,i6 c.ZV,.bool true]):=hid (by rw [m];exact ZP.new w'.drew _ _);clear m;have G:Hid (Bw w F):=hid (ay.trans (ac.o.mono ay.size));have d:=a7.o _ _ d ac.o;refine C.out _ _ d ?_
  clear C K;(try simp only [pp])
  refine UK 7 38 fun K C=> ?_
  have O6:=hid ((U.o.Z3.Yp ag).ZC G.o);obtain⟨i0,a6,bc,bd,aL⟩:=info_parts TH;have bm:=G.o.size;refine Ux rfl _ _ _ rfl base 119 i0 _ 3 32 underlying37 a6 bc bd aL rfl (by decide) (.slice X t.Z3.length x) t.Z3.length _ rfl O6.o (aD w'.heap.size 0) 1 1 [sT c.name,i6 c.ZV,.bool true] rfl rfl (ZP.news N6.o) (by simp [Value.oneCell']) (by unfold maxLen;omega) (by omega) (by omega) ?_
  intro Z c7 D aQ af;have bb:Yj w F gt (b i) (b (i+1)) [119] none:=Yj.ZA G.o;have aA:Yj F D gt (b i) (b (i+1)) [119] none:=Yj.grown ((U.o.Z3).ZC G.o) af.o (by simp) (fun k hk=>⟨ZD U.o.Z3 k hk,U.o.Jv k hk⟩);have aS:=hid (bb.trans aA);have ad:ZS [119] F D:=ZS.grown O6.o af.o (by simp) af.o.size;have aw:=hid ((aq.o.Z8.ZC G.o).keeps ad (by decide));have aB:Hid (Below base w D):=hid ((G.o.mono aH).grown af.o (by omega) (ZD O6.o));have bn:=af.o.size;have bj: ∀ k,(Value.slice X t.Z3.length x).ownBlock=some k->Za F k 119:=fun k hk=>Yx O6.o hk
  have aa:Za F gt 73:=aP.o.RN (G.o.block gt am);have e7:D.cell? (aD gt (i*5+3))=some (.slice X t.Z3.length x):=(World.cell?_of_block (w:=F) (ad.block gt _ aa (by decide))).trans d.1;have f7:D.frozen? (aD gt (i*5+3))=false:=(World.frozen?_of_block (w:=F) (ad.block gt _ aa (by decide))).trans ((G.o.frozen (p:=(aD gt (i*5+3))) am).trans (aO.o _));have az: ∀ f u,F.cell? (aD c2 f)=some u->D.cell? (aD c2 f)=some u:=fun f u hu=>by
   have h8:D.cell? (aD c2 f)=w.cell? (aD c2 f):=aB.o.cell (p:=(aD c2 f)) (by show c2<base;omega);have h9:F.cell? (aD c2 f)=w.cell? (aD c2 f):=G.o.cell (p:=(aD c2 f)) (by show c2<w.heap.size;omega)
   rw [h8,<-h9];exact hu
  have HF:Hid (∀ W,W=D.setCell (aD gt (i*5+3)) (.slice Z (t.Z3.length+1) c7)->VY none w base p gt B0 l0 l1 o (UY o c i) (.returned (i6 0)) W):=hid (by
   rintro W rfl;have aE:ZS [73] D (D.setCell (aD gt (i*5+3)) (.slice Z (t.Z3.length+1) c7)):=ZS.Zx (aa.RN (ad.block gt _ aa (by decide))) (by simp) _;have aU:ZS [119,73] w (D.setCell (aD gt (i*5+3)) (.slice Z (t.Z3.length+1) c7)):=((ZS.ZA G.o lr).trans (ad.X6 (by simp))).trans (aE.X6 (by simp));have aW:(D.setCell (aD gt (i*5+3)) (.slice Z (t.Z3.length+1) c7)).ownsRow base 119 3 (.slice Z (t.Z3 ++ [c]).length c7) (t.Z3 ++ [c]).length ((t.Z3 ++ [c]).flatMap Cl.cs):=by
    have J:=aQ.o.keeps aE (by decide);rw [List.length_append,List.flatMap_append];simpa [Cl.cs,ar.o] using J
   refine UG (us:= [119]) (t':=({ t with Z3:=t.Z3 ++ [c]},Z,c7,Y,y)) aq.o hi' HP.o (aS.o.trans (Yj.Zx _)) (by decide) (by decide) (by simp) a8 (au.o D aw.o 3 (by omega) _ _ (by simp [YX.cs,Tb.cs])) (OL U.o aU (by decide) (by decide) ag aW) ((aB.o.setCell aY _).x _) (aR.o _ HM.o ar.o (by rw [<-av.o];exact hcol) (by rw [<-av.o];omega) (by rw [<-av.o])))
  have d:=(show (fun w'=>w'.cell? (aD gt (i*5+3))=some (.slice X t.Z3.length x)/\w'.cell? (aD c2 0)=some (sT c.name)/\w'.cell? (aD c2 1)=some (i6 c.ZV)/\w'.cell? (aD c2 2)=some (.bool true)) D from ⟨e7,az _ _ d.2.1,az _ _ d.2.2.1,az _ _ d.2.2.2⟩)
  refine C.out _ _ d ?_
  clear C K;(try simp only [pp])
  refine UK 8 39 fun K C=> ?_
  go_simp;refine C.out _ _ d ?_
  clear C K;(try simp only [pp])
  refine UK 9 40 fun K C=> ?_
  go_simp;refine C.out _ _ d ?_
  clear C K;(try simp only [pp])
  refine Yt.WR (i:=10) (o:=⟨none,_,_,_,_,_⟩) (by kernel_rfl) rfl rfl (fun K C=> ?_)
  go_simp;refine C.out _ _ (Yt.done (by kernel_rfl) ?_ _);clear C K;go_wp2;go_ret;exact HF.o _ rfl
theorem Yj.WT {w w':World}{gt C m:Nat}{us:List TypeId}{x:Option Nat}{v:Value}{base size n:Nat}{e:TypeId}{xs:lV}(h:w.ownsRow base e size v n xs)(j:Vm w w' v)(E:e∈us)(hb: ∀ k,v.ownBlock=some k->C<=k/\k<m):Yj w w' gt C m us x:=
 ⟨j.size,fun k t u _ s _=>j.block k u.lt fun d=>by
  have D:=Yx h d;rw [u.same D] at s;exact s E (hb k d)⟩
def Ds (d:List Da)(i:Nat):List lU:=match d[i]? with
 | some (.rows l)=>l.map fun e=>tx e 0
 | _=> []
theorem Lg (r:Ru):Ds r.da 2=r.Z3:=by
 show (YV r.Z3).map (fun e=>tx e 0)=r.Z3
 unfold YV;rw [List.map_map];exact List.map_id' _
theorem Nf (r:Ru)(A:oA)(n:Nat)(nm:lU)(q:Nat)(w:World)(d:ZP w q 9 [sT nm])(j:rA w [.Z2] (YV r.Z3) A)(C:r.Z3.length<=1099511627776):
  cQ 207 #[.agg (r.cs A n).toArray,pT q] w fun e w'=>e= .returned (.bool (r.Z3.contains nm))/\Bw w w':=by
 have m:=hid j;have s:=hid d;have D:=d.lt;have u:=fun W h=>Zf r.Z3 A n nm W h C
 clear j d;unfold Ru.cs;generalize r.Z3.contains nm=bb at*;have q0:(w.alloc (.cells #[sT r.name,i6 r.ZV,sl A r.Z3 n,i6 r.low,i6 r.ZB,sT r.Z9,sT r.ZZ,sT r.key] 40)).cell? (aD q 0)=some (sT nm):=(s.o.alloc _).cell 0;go_enter func207,ntmps207
 go_wp2_with fail;refine(u _ (m.o.later (br.alloc lr _))).mono ?_
 rintro e E ⟨rfl,rfl⟩;go_wp2;go_ret;exact⟨rfl,br.alloc lr _⟩
def VL (o:Ob)(nm:lU)(i:Nat)(er:Int)(o':Ob):Prop:=(er≠0/\o'=o)∨(er=0/\ ∃ hi:i<o.Z8.length,∃ k,Y7 o.Z8[i].Z3 nm=some k/\o.Z8[i].Z3.length≠1/\(∀ r∈o.Z8[i].ZW,r.Z3.contains nm=false)/\o'=Tp o i { o.Z8[i] with Z3:=o.Z8[i].Z3.eraseIdx k})
theorem Ng (o:Ob)(s n nm:lU)(c2:Nat)(w0:World)(ho:o.Zo 1099511627776)(h:ZP w0 c2 9 [sT nm]):Qm none 205 #[pT c2] o w0 s n (VL o nm):=by
 intro w base p gt i B0 l0 l1 ts b ar ai j Z hp aS aL aT hi;have aZ:ts.length=o.Z8.length:=by rw [<-j.data,List.length_map]
 have hi':i<ts.length:=by omega
 have ah:ts[i].1=o.Z8[i]:=by
  have:=j.data;rw [<-List.getElem_map (f:=fun x:YX=>x.1) (h:=by simpa using hi')];simp only [this]
 have ae:=(j.tab i hi').2;have au:base<=w.heap.size:=by
  have:=j.low;have:=Z 0 (Nat.zero_le _);omega
 have ay:Za w gt 73:=Yx j.Z8 rfl;have aQ:=(ZJ j.Z8).1;have N:=(ZJ j.Z8).2.1;have ax:=(ZJ j.Z8).2.2.2.1;have af:base<=b i:=Nat.le_trans j.low (j.S5 i 0 (Nat.zero_le _) (by omega));have aR:b (i+1)<=w.heap.size:=Z (i+1) (by omega);have an:=fun f hf u hu=>WD j.Z8 hi' f hf u hu
 have ag:=fun(W:World) (h:W.ownsRow base 73 5 (.slice (some (aD gt 0)) o.Z8.length l1) o.Z8.length (ts.flatMap YX.cs)) f hf u t' ht=>Tr h hi' (f:=f) hf u t' ht
 have I:=hid (ho.2.2 o.Z8[i] (List.getElem_mem hi));generalize hT:ts[i]=T at*;obtain⟨t,X,x,Y,y⟩:=T;dsimp only at ah;rw [<-ah] at I;have aj:=hid j;have G:=hid ae;have HP:=hid hp;have aG:=hid ay;have aF:=hid ax;have aV:=hid ai;have am:=hid ag;have HT:=hid hT;have V:=hid ah;have aU:=hid Z;have a7:=ai.size;have aY:=hp.lt;have HC:=hid (h.below ai h.lt);have aW:=h.lt;have ak:Hid (∀ er W,er≠0->Bw w W->VY none w base p gt B0 l0 l1 o (VL o nm i) (.returned (i6 er)) W):=hid fun er W F K=>Sm aj.o au HP.o K (Or.inl ⟨F,rfl⟩)
 have aw:=an 3 (by omega) (.slice X t.Z3.length x) rfl;have aP:=an 4 (by omega) (.slice Y t.ZW.length y) rfl;have aI:Hid (∀ o' k,Y7 o.Z8[i].Z3 nm=some k->o.Z8[i].Z3.length≠1->(∀ r∈o.Z8[i].ZW,r.Z3.contains nm=false)->o'=Tp o i { o.Z8[i] with Z3:=o.Z8[i].Z3.eraseIdx k} ->VL o nm i 0 o'):=hid fun o' k F K h3 h4=>Or.inr ⟨rfl,hi,k,F,K,h3,h4⟩
 clear j ae hp ay ax ai ag hT Z aL aT ah h an ho;go_enter func205,ntmps205
 go_upto_region 1 with fail
 refine Wh _ fun W hW=> ?_
 have M:=bP hW;clear hW;have d0:=cd (HC.o.below M.o (by omega)) 0;have d3:W.cell? (aD gt (i*5+3))=some (.slice X t.Z3.length x):=ct aw M.o N;have a8:=M.o.size;have ap:Bw w W.drew:=M.o.drew;have aa:Hid (∀ O w2,(fun w'=>Bw w w'/\w'.cell? (aD gt (i*5+3))=some (.slice X t.Z3.length x)/\w'.cell? (aD c2 0)=some (sT nm)) O->Bw O w2->(fun w'=>Bw w w'/\w'.cell? (aD gt (i*5+3))=some (.slice X t.Z3.length x)/\w'.cell? (aD c2 0)=some (sT nm)) w2):=hid (by
  intro O w2 ⟨F,K,h3⟩ h6;exact⟨F.trans (h6.mono F.size),(h6.cell (World.block_lt_of_cell? O _ K)).trans K,(h6.cell (World.block_lt_of_cell? O _ h3)).trans h3⟩)
 have aC:Hid (∀ W,Bw w W->cQ 203 #[.slice X t.Z3.length x,sT nm,.func (.func 204) #[] #[]] W fun e w'=>e= .returned (.int .i64 (WS (Y7 t.Z3 nm)))/\Bw W w'):=hid (by
  intro W hW;have cB:=Xl (t.Z3.map Cl.da) X x nm W (G.o.rows.1.later hW) (by simpa using I.o.1);rwa [List.length_map,XL] at cB)
 go_region_held_law (fun w'=>Bw w w'/\w'.cell? (aD gt (i*5+3))=some (.slice X t.Z3.length x)/\w'.cell? (aD c2 0)=some (sT nm))
  (first | exact aa.o _ _ (by assumption) (by assumption) | exact⟨ap,d3,d0⟩)
  (first | (go_at_call 203;refine(aC.o _ (by first | exact ap | assumption)).mono ?_;rintro e w' ⟨rfl,hb⟩))
 rename_i hS;have E:=hid hS.1;have e3:=hS.2.1;clear hS aa M d0 d3
 cases hcol:Y7 t.Z3 nm with
 | none=>
  rw [show WS (none:Option Nat)= -1 from rfl];go_wp2;go_ret;exact ak.o 61 _ (by decide) E.o
 | some k=>
  have aE:=hid hcol;obtain⟨az,_⟩:=Wt (show t.Z3.findIdx? (fun c=>c.name == nm)=some k from hcol);clear hcol;have hk:(0:Int)<=(k:Int):=by omega
  have aX: ¬ (k:Int)<0:=by omega
  rw [show WS (some k)=(k:Int) from rfl];by_cases F:t.Z3.length=1
  ·have aJ:((t.Z3.length:Int) == 1)=true:=by simp;omega
   go_wp2;go_ret;exact ak.o 62 _ (by decide) E.o
  have aJ:((t.Z3.length:Int) == 1)=false:=by simp;omega
  have e4:w'.cell? (aD gt (i*5+4))=some (.slice Y t.ZW.length y):=ct aP E.o N;go_wp2_with fail;have cH:=Hp (fun d=>(Ds d 2).contains nm) 207 #[pT c2] (t.ZW.map Ru.da) Y y w' (enters_of func207 (by kernel_rfl) rfl) (G.o.rows.2.later E.o) (by simpa using I.o.2.1) (by
   intro W d vs hb hd hv;obtain⟨r,hr,rfl⟩:=List.mem_map.1 hd;obtain⟨A,m,rfl,hA,_⟩:=Ru.YY hv;simp only [Lg];exact Nf r A m nm c2 W (HC.o.below (E.o.trans (hb.mono E.o.size)) (by omega)) (hA.YW (fun _ h=>Nat.lt_of_lt_of_le h hb.size) fun _ _=>rfl) (I.o.2.2 r hr).1)
  rw [List.length_map] at cH;have ac:Hid ((t.ZW.map Ru.da).any (fun d=>(Ds d 2).contains nm)=t.ZW.any fun r=>r.Z3.contains nm):=hid (by
   rw [List.any_map];congr 1
   funext r
   exact congrArg (fun l=>List.contains l nm) (Lg r))
  rw [ac.o] at cH;refine cH.mono ?_
  rintro e L ⟨rfl,hb⟩;have C:=bt E hb;have g3:L.cell? (aD gt (i*5+3))=some (.slice X t.Z3.length x):=ct aw C.o N;have gf:L.frozen? (aD gt (i*5+3))=false:=(C.o.frozen (p:=(aD gt (i*5+3))) N).trans (aF.o _);clear hb cH E e3 e4
  cases hany:t.ZW.any fun r=>r.Z3.contains nm
  case true=>
   go_wp2;go_ret;exact ak.o 62 _ (by decide) C.o
  have ad:Hid (∀ r∈t.ZW,r.Z3.contains nm=false):=hid (by
   intro r hr;have:=List.any_eq_false.1 hany r hr;simpa using this)
  clear hany ac;have O4:=hid ((G.o.Z3.Yp af).ZC C.o);have a6:IntKind.i64.wrap ((k:Int)+1)=(k:Int)+1:=by
   have:=I.o.1;simp [IntKind.wrap,IntKind.bits,IntKind.signed];omega
  go_wp2_with fail;refine(OD base t.Z3 X x k L O4.o az I.o.1).mono ?_
  rintro e D ⟨rfl,aA,aq,J,aO⟩;have aH:=hid aA;have U:Za L gt 73:=aG.o.RN (C.o.block gt N);have e7:D.cell? (aD gt (i*5+3))=some (.slice X t.Z3.length x):=(World.cell?_of_block (w:=L) (J.block gt _ U (by decide))).trans g3;have f7:D.frozen? (aD gt (i*5+3))=false:=(World.frozen?_of_block (w:=L) (J.block gt _ U (by decide))).trans gf;have aB:Hid (Below base w D):=hid ((C.o.mono au).trans aq);have ab:=(aj.o.Z8.ZC C.o).keeps J (by decide);have hU:Yj w D gt (b i) (b (i+1)) [119] none:=(Yj.ZA C.o).trans (Yj.WT (G.o.Z3.ZC C.o) aO (by simp) fun k hk=>⟨ZD G.o.Z3 k hk,G.o.Jv k hk⟩);have HF:Hid (∀ W,W=D.setCell (aD gt (i*5+3)) (.slice X (t.Z3.length - 1:Nat) x)->VY none w base p gt B0 l0 l1 o (VL o nm i) (.returned (i6 0)) W):=hid (by
   rintro W rfl;have ao:ZS [73] D (D.setCell (aD gt (i*5+3)) (.slice X (t.Z3.length - 1:Nat) x)):=ZS.Zx (U.RN (J.block gt _ U (by decide))) (by simp) _;have aK:ZS [119,73] w (D.setCell (aD gt (i*5+3)) (.slice X (t.Z3.length - 1:Nat) x)):=((ZS.ZA C.o lr).trans (J.X6 (by simp))).trans (ao.X6 (by simp));have av:(t.Z3.eraseIdx k).length=t.Z3.length - 1:=List.length_eraseIdx_of_lt az;have aM:(D.setCell (aD gt (i*5+3)) (.slice X (t.Z3.length - 1:Nat) x)).ownsRow base 119 3 (.slice X (t.Z3.eraseIdx k).length x) (t.Z3.eraseIdx k).length ((t.Z3.eraseIdx k).flatMap Cl.cs):=by
    rw [av];exact aH.out.keeps ao (by decide)
   refine UG (us:= [119]) (t':=({ t with Z3:=t.Z3.eraseIdx k},X,x,Y,y)) aj.o hi' HP.o (hU.trans (Yj.Zx _)) (by decide) (by decide) (by simp) aS (am.o D ab 3 (by omega) _ _ (by simp [YX.cs,Tb.cs,av])) (OL G.o aK (by decide) (by decide) af aM) ((aB.o.setCell aQ _).x _) (aI.o _ k (by rw [<-V.o];exact aE.o) (by rw [<-V.o];exact F) (by rw [<-V.o];exact ad.o) (by rw [<-V.o])))
  clear aA aq J ab hU;go_wp2;go_ret;exact HF.o _ rfl
end Go.Proofs.YtnhmoibjlakhjaaGreat
