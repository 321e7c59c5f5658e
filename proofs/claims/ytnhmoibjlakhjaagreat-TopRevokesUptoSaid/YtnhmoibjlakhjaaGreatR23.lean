/- Lemmas of the proof. No condition but each theorem's own. -/
import Derived.Test.YtnhmoibjlakhjaaGreatR22
import Derived.Laws.OwnMore
import Derived.Deep.DeepAppendRoom
import Derived.Test.YtnhmoibjlakhjaaGreatR18
import Derived.Test.YtnhmoibjlakhjaaGreatR10
import Derived.Test.YtnhmoibjlakhjaaGreatR03
set_option linter.unusedVariables false
set_option linter.unusedSimpArgs false
namespace Go.Proofs.YtnhmoibjlakhjaaGreat
open Lib (hid)
set_option maxRecDepth 100000
set_option maxHeartbeats 16000000
open Go.RowKit
section
variable {α : Type} {enc : α → List Value} {k : Nat}
theorem XF (hk: ∀ x,(enc x).length=k): ∀ (l:List α)(i:Nat),(l.take i).flatMap enc=(l.flatMap enc).take (i*k)
 | [],i=>by simp
 | a ::l,0=>by simp
 | a ::l,i+1=>by
  rw [List.take_succ_cons,List.flatMap_cons,XF hk l i,List.flatMap_cons,Nat.add_mul,Nat.one_mul,Nat.add_comm,←hk a,List.take_length_add_append]
theorem Xl (hk: ∀ x,(enc x).length=k): ∀ (l:List α)(i:Nat),(l.drop i).flatMap enc=(l.flatMap enc).drop (i*k)
 | [],i=>by simp
 | a ::l,0=>by simp
 | a ::l,i+1=>by
  rw [List.drop_succ_cons,Xl hk l i,List.flatMap_cons,Nat.add_mul,Nat.one_mul,Nat.add_comm,←hk a,List.drop_length_add_append]
end
theorem WC {w:World}{base g n c k m:Nat}{T:TypeId}{xs:List Value}(h:w.ownsRow base T k (.slice (some ⟨g,0,none⟩) n c) n xs)(hm:m≤n):w.ownsRow base T k (.slice (some ⟨g,0,none⟩) m c) m (xs.take (m*k)):=by
 obtain⟨hl,h2⟩:=h;have hmk:m*k≤n*k:=Nat.mul_le_mul_right _ hm;refine⟨by rw [List.length_take,hl,Nat.min_eq_left hmk],?_⟩
 rcases h2 with ⟨h0,_⟩ | ⟨g',cap,cur,hv,hb,hh,h3,h4,h5,h6⟩
 ·cases h0
 ·injection hv with hv1 hv2 hv3
  subst hv3;exact .inr ⟨g',c,cur,by rw [hv1],hb,hh,by omega,h4,h5,by rw [←h6,List.take_take,Nat.min_eq_left hmk]⟩
theorem XY {w:World}{base g n c k:Nat}{T:TypeId}{xs:List Value}(h:w.ownsRow base T k (.slice (some ⟨g,0,none⟩) n c) n xs): ∀ (Z:List Value)(o:Nat),n*k≤o→(w.setCells g o Z).ownsRow base T k (.slice (some ⟨g,0,none⟩) n c) n xs:=by
 have one: ∀ {w:World} (h:w.ownsRow base T k (.slice (some ⟨g,0,none⟩) n c) n xs) (i:Nat) (u:Value),n*k≤i→(w.setCell ⟨g,i,none⟩ u).ownsRow base T k (.slice (some ⟨g,0,none⟩) n c) n xs:=by
  intro w h i u hi;obtain⟨hl,h2⟩:=h;refine⟨hl,?_⟩
  rcases h2 with ⟨h0,_⟩ | ⟨g',cap,cur,hv,hb,hh,h3,h4,h5,h6⟩
  ·cases h0
  ·injection hv with hv1 hv2 hv3
   injection hv1 with hv1
   injection hv1 with hv1
   subst hv1;subst hv3;have hB:ZP w g T cur.toList:=by simpa [ZP] using hh
   have hB2:=hB.Zx i u;refine .inr ⟨g,c,(cur.toList.set i u).toArray,rfl,hb,hB2,h3,h4,by simpa using h5,?_⟩
   rw [←h6,List.take_set];exact List.set_eq_of_length_le (by rw [List.length_take];omega)
 intro Z;induction Z generalizing w with
 | nil=>intro o _;exact h
 | cons u Z ih=>
  intro o ho;exact ih (one h o u ho) (o+1) (by omega)
theorem Zg {w:World}{base g n c k:Nat}{T:TypeId}{xs:List Value}(h:w.ownsRow base T k (.slice (some ⟨g,0,none⟩) n c) n xs)(o m:Nat)(hm:o+m≤c*k):w.there g o m:=by
 obtain⟨hl,h2⟩:=h;rcases h2 with ⟨h0,_⟩ | ⟨g',cap,cur,hv,hb,hh,h3,h4,h5,h6⟩
 ·cases h0
 ·injection hv with hv1 hv2 hv3
  injection hv1 with hv1
  injection hv1 with hv1
  subst hv1;subst hv3;have hB:ZP w g T cur.toList:=by simpa [ZP] using hh
  exact hB.there o m (by rw [Array.length_toList,h5];exact hm)
theorem YR {w:World}{base g n c k:Nat}{T:TypeId}{xs:List Value}(h:w.ownsRow base T k (.slice (some ⟨g,0,none⟩) n c) n xs):n≤c∧c≤maxLen:=by
 obtain⟨hl,h2⟩:=h;rcases h2 with ⟨h0,_⟩ | ⟨g',cap,cur,hv,hb,hh,h3,h4,h5,h6⟩
 ·cases h0
 ·injection hv with hv1 hv2 hv3
  subst hv3;exact⟨h3,h4⟩
theorem X4 {w:World}{g:Nat}{T:TypeId}(ht:Zc w g T)(o:Nat)(Z:List Value):ZR [T] w (w.setCells g o Z):=ZR.setCells (by simp) ht o Z
theorem Zd {P:Program}(w:World)(t e ty:TypeId)(z:Value)(ht:P.underlying t=some (.slice e))(hv: ∀ w,(zeroValue e).run P w= .ok z w){size:Nat}(hz:z.cells.size=size)(hs:0<size)(h1: ∀ v∈z.cells.toList,v.oneCell'=true)(b o n c:Nat)(hn:0<n)(hB:w.there b o (n*size)):
  ∃ Z:List Value,Z.length=n*size∧(Builtin.clear_ #[t] ty #[.slice (some ⟨b,o,none⟩) n c]).run P w= .ok (.tuple #[]) (w.setCells b o Z):=by
 have hl:(Builtin.zeroCells z.cells n).toList.length=n*size:=by simp [Builtin.zeroCells,hz]
 have hst:=run_storeCells_cells (P:=P) b o (Builtin.zeroCells z.cells n).toList 0 w (fun j hj=>by simpa using (hB j (by omega)).1) (fun j hj=>by simpa using (hB j (by omega)).2) (by
  intro v hv';simp only [Builtin.zeroCells,Array.toList_map,List.mem_map] at hv';obtain⟨i,_,rfl⟩:=hv';have hi:i % z.cells.size<z.cells.size:=Nat.mod_lt _ (by omega);rw [getElem!_pos z.cells _ hi];exact h1 _ (by simp))
 simp only [Nat.add_zero] at hst;refine⟨_,hl,?_⟩
 obtain⟨m,rfl⟩: ∃ m,n=m+1:=⟨n - 1,by omega⟩
 simp [Builtin.clear_,run_underlying ht,hv,hst]
theorem PI (base:Nat)(l:List Za)(A:Option Addr)(c i:Nat)(w:World)(h:w.ownsRow base 73 5 (.slice A l.length c) l.length (l.flatMap Za.cs))(hi:i<l.length)(hl:l.length≤1099511627776):
  Calls Tryz.prog 175 #[.slice A l.length c,.int .i64 i,.int .i64 ((i:Int)+1)] w fun e w'=>e= .returned (.slice A (l.length - 1:Nat) c)∧w'.ownsRow base 73 5 (.slice A (l.length - 1:Nat) c) (l.length - 1) ((l.eraseIdx i).flatMap Za.cs)∧Below base w w'∧ZR [73] w w'∧Wh w w' (.slice A l.length c):=by
 obtain⟨g,rfl⟩: ∃ g,A=some ⟨g,0,none⟩:=by
  obtain⟨g,cap,hv,_,_⟩:=h.form (by omega);exact⟨g,by injection hv⟩
 obtain⟨i0,hi0,hz0,hz1,hz2⟩:=info_parts VX;obtain⟨hc1,hc2⟩:=YR h;obtain⟨hgb,hgl,hgt,_,hcell⟩:=ZK h;have HO:=hid h;have HGT:=hid hgt;have H1:=hid (WC h (show i≤l.length by omega));have HX:Hid ((l.eraseIdx i).flatMap Za.cs=(l.flatMap Za.cs).take (i*5) ++ (l.flatMap Za.cs).drop ((i+1)*5)):=hid (by rw [List.eraseIdx_eq_take_drop_succ,List.flatMap_append,XF Za.k,Xl Za.k]);have HN:Hid (((l.flatMap Za.cs).drop ((i+1)*5)).length=(l.length - (i+1))*5):=hid (by rw [List.length_drop,Zq Za.k,Nat.sub_mul]);have HC:Hid (∀ j u,((l.flatMap Za.cs).drop ((i+1)*5))[j]?=some u→w.cell? ⟨g,(i+1)*5+j,none⟩=some u):=hid (fun j u hu=>hcell _ u (by rw [List.getElem?_drop] at hu;exact hu));have HOne:Hid (∀ v∈(l.flatMap Za.cs).drop ((i+1)*5),v.oneCell'=true):=hid fun v hv=>Yg Za.one l v (List.mem_of_mem_drop hv)
 clear h hgt hcell;generalize (l.flatMap Za.cs)=xs at*;generalize hln:l.length=n at*;have b1:(0:Int)≤(i:Int):=by omega
 have b2:(i:Int)≤(i:Int)+1:=by omega
 have b3:(i:Int)+1≤(n:Int):=by omega
 have b4:(n:Int)≤(c:Int):=by omega
 have b5:((i:Int) ==(i:Int)+1)=false:=by simp;omega
 have b6:(0:Int)≤(i:Int)+1:=by omega
 have b7:((i:Int)+1).toNat=i+1:=by omega
 have b8:(i:Int)≤(c:Int):=by omega
 have b9:(i:Int)≤(n:Int):=by omega
 have b10:(i:Int)+1≤(c:Int):=by omega
 go_enter Tryz.func175,Tryz.ntmps175
 by_cases hce:c=i+1
 ·subst hce;obtain rfl:n=i+1:=by omega
  go_wp2_with fail;refine wp_region_held_drew (S:=fun _=>True) (by kernel_rfl) trivial (fun HD=> ?_)
  (try simp only [pp]);refine tk 0 20 HD ?_;refine tk 1 21 HD ?_;refine tk 2 22 HD ?_;refine tk 3 23 HD ?_;refine tk 4 24 HD ?_;refine tk 5 25 HD ?_;refine on 6 26 fun K hK=> ?_
  rw [if_pos (by rfl)];refine wp_append_own_spare _ _ _ _ rfl base 73 i0 5 Tryz.underlying24 hi0 hz1 g i (i+1) _ rfl H1.out ⟨g,0,none⟩ 0 0 _ rfl (by rw [HN.out,Nat.sub_self]) (fun j u hu=>by have h0:=(List.getElem?_eq_some_iff.1 hu).1;rw [HN.out,Nat.sub_self] at h0;omega) HOne.out (by omega) ?_
  intro w2 ho2 hg2;rw [show i+0=i from rfl] at ho2 ⊢;have HO2:Hid (w2.ownsRow base 73 5 (.slice (some ⟨g,0,none⟩) i (i+1)) i ((l.eraseIdx i).flatMap Za.cs)):=hid (by rw [HX.out];exact ho2);have HB2:Hid (Below base w w2):=hid (Below.grown (show Below base w w.drew from br.drew) hg2 (by simp;omega) (fun k hk=>by injection hk with hk;omega))
  have HK2:Hid (ZR [73] w w2):=hid (show ZR [73] w w2 from (ZR.drew w).trans (ZR.grown (w:=w.drew) H1.out hg2 (by simp) hg2.size));have HFr:Hid (Wh w w2 (.slice (some ⟨g,0,none⟩) (i+1) (i+1))):=hid ⟨by have:=hg2.size;simpa using this,fun k hk hn=>hg2.block k (by simpa using hk) (fun e=>hn (by rw [e];rfl))⟩
  clear ho2 hg2;refine hK _ _ trivial (fun HD=> ?_)
  clear hK K;(try simp only [pp])
  refine tk 7 0 HD ?_;refine wpAnyH_done (by kernel_rfl) ?_ _
  obtain⟨Z,hZl,hclr⟩:=Zd w2 24 73 0 (.agg #[.string ⟨#[]⟩,.string ⟨#[]⟩,.string ⟨#[]⟩,.slice none 0 0,.slice none 0 0]) Tryz.underlying24 (fun w=>by kernel_rfl) rfl (by decide) (by simp [Value.cells,Value.oneCell']) (size:=5) g (i*5) 1 1 (by omega) (Zg HO2.out _ _ (by rw [←Nat.add_mul];exact Nat.mul_le_mul_right _ (by omega)));have c1:(i:Int)≤(i:Int)+1:=by omega
  have c2:(i:Int)+1≤(i:Int)+1:=by omega
  have c3: ¬ (i:Int)+1=(i:Int):=by omega
  have c4: ¬ i+1=i:=by omega
  have c5:(0:Int)≤(i:Int):=by omega
  have c6:i+1 - i=1:=by omega
  go_wp2_with fail;go_ret;exact⟨rfl,XY HO2.out Z _ lr,HB2.out.trans (ZJ hgb _ _),HK2.out.trans (X4 (ZK HO2.out).2.2.1 _ _),⟨by rw [Y8];exact HFr.out.size,fun k hk hn=>(Zb w2 g (fun e=>hn (by rw [e];rfl)) _ _).trans (HFr.out.block k hk hn)⟩⟩
 ·have hce': ¬ (c:Int)=(i:Int)+1:=by omega
  have hci: ¬ c=i:=by omega
  go_wp2_with fail;refine wp_region_held_drew (S:=fun _=>True) (by kernel_rfl) trivial (fun HD=> ?_)
  (try simp only [pp]);refine tk 0 20 HD ?_;refine tk 1 21 HD ?_;refine tk 2 22 HD ?_;refine tk 3 23 HD ?_;refine tk 4 24 HD ?_;refine tk 5 25 HD ?_;refine on 6 26 fun K hK=> ?_
  rw [if_pos (by rfl)];refine wp_append_own_spare _ _ _ _ rfl base 73 i0 5 Tryz.underlying24 hi0 hz1 g i c _ rfl H1.out ⟨g,(i+1)*5,none⟩ (n - (i+1)) (c - (i+1)) _ rfl HN.out (fun j u hu=>by rw [Addr.add_mid];exact HC.out j u hu) HOne.out (by omega) ?_
  intro w2 ho2 hg2;rw [show i+ (n - (i+1))=n - 1 from by omega] at ho2 ⊢;have HO2:Hid (w2.ownsRow base 73 5 (.slice (some ⟨g,0,none⟩) (n - 1) c) (n - 1) ((l.eraseIdx i).flatMap Za.cs)):=hid (by rw [HX.out];exact ho2);have HB2:Hid (Below base w w2):=hid (Below.grown (show Below base w w.drew from br.drew) hg2 (by simp;omega) (fun k hk=>by injection hk with hk;omega))
  have HK2:Hid (ZR [73] w w2):=hid (show ZR [73] w w2 from (ZR.drew w).trans (ZR.grown (w:=w.drew) H1.out hg2 (by simp) hg2.size));have HFr:Hid (Wh w w2 (.slice (some ⟨g,0,none⟩) n c)):=hid ⟨by have:=hg2.size;simpa using this,fun k hk hn=>hg2.block k (by simpa using hk) (fun e=>hn (by rw [e];rfl))⟩
  clear ho2 hg2;refine hK _ _ trivial (fun HD=> ?_)
  clear hK K;(try simp only [pp])
  refine tk 7 0 HD ?_;refine wpAnyH_done (by kernel_rfl) ?_ _
  obtain⟨Z,hZl,hclr⟩:=Zd w2 24 73 0 (.agg #[.string ⟨#[]⟩,.string ⟨#[]⟩,.string ⟨#[]⟩,.slice none 0 0,.slice none 0 0]) Tryz.underlying24 (fun w=>by kernel_rfl) rfl (by decide) (by simp [Value.cells,Value.oneCell']) (size:=5) g ((n - 1)*5) 1 (c - (n - 1)) (by omega) (Zg HO2.out _ _ (by rw [←Nat.add_mul];exact Nat.mul_le_mul_right _ (by omega)));have c1:((n - 1:Nat):Int)≤(n:Int):=by omega
  have c2:(n:Int)≤(c:Int):=by omega
  have c3: ¬ (c:Int)=((n - 1:Nat):Int):=by omega
  have c4: ¬ c=n - 1:=by omega
  have c5:(0:Int)≤((n - 1:Nat):Int):=by omega
  have c6:n - (n - 1)=1:=by omega
  go_wp2_with fail;go_ret;exact⟨rfl,XY HO2.out Z _ lr,HB2.out.trans (ZJ hgb _ _),HK2.out.trans (X4 (ZK HO2.out).2.2.1 _ _),⟨by rw [Y8];exact HFr.out.size,fun k hk hn=>(Zb w2 g (fun e=>hn (by rw [e];rfl)) _ _).trans (HFr.out.block k hk hn)⟩⟩
theorem QY (base:Nat)(l:List Sc)(A:Option Addr)(c i:Nat)(w:World)(h:w.ownsRow base 89 2 (.slice A l.length c) l.length (l.flatMap Sc.cs))(hi:i<l.length)(hl:l.length≤1099511627776):
  Calls Tryz.prog 198 #[.slice A l.length c,.int .i64 i,.int .i64 ((i:Int)+1)] w fun e w'=>e= .returned (.slice A (l.length - 1:Nat) c)∧w'.ownsRow base 89 2 (.slice A (l.length - 1:Nat) c) (l.length - 1) ((l.eraseIdx i).flatMap Sc.cs)∧Below base w w'∧ZR [89] w w'∧Wh w w' (.slice A l.length c):=by
 obtain⟨g,rfl⟩: ∃ g,A=some ⟨g,0,none⟩:=by
  obtain⟨g,cap,hv,_,_⟩:=h.form (by omega);exact⟨g,by injection hv⟩
 obtain⟨i0,hi0,hz0,hz1,hz2⟩:=info_parts UX;obtain⟨hc1,hc2⟩:=YR h;obtain⟨hgb,hgl,hgt,_,hcell⟩:=ZK h;have HO:=hid h;have HGT:=hid hgt;have H1:=hid (WC h (show i≤l.length by omega));have HX:Hid ((l.eraseIdx i).flatMap Sc.cs=(l.flatMap Sc.cs).take (i*2) ++ (l.flatMap Sc.cs).drop ((i+1)*2)):=hid (by rw [List.eraseIdx_eq_take_drop_succ,List.flatMap_append,XF Sc.k,Xl Sc.k]);have HN:Hid (((l.flatMap Sc.cs).drop ((i+1)*2)).length=(l.length - (i+1))*2):=hid (by rw [List.length_drop,Zq Sc.k,Nat.sub_mul]);have HC:Hid (∀ j u,((l.flatMap Sc.cs).drop ((i+1)*2))[j]?=some u→w.cell? ⟨g,(i+1)*2+j,none⟩=some u):=hid (fun j u hu=>hcell _ u (by rw [List.getElem?_drop] at hu;exact hu));have HOne:Hid (∀ v∈(l.flatMap Sc.cs).drop ((i+1)*2),v.oneCell'=true):=hid fun v hv=>Yg Sc.one l v (List.mem_of_mem_drop hv)
 clear h hgt hcell;generalize (l.flatMap Sc.cs)=xs at*;generalize hln:l.length=n at*;have b1:(0:Int)≤(i:Int):=by omega
 have b2:(i:Int)≤(i:Int)+1:=by omega
 have b3:(i:Int)+1≤(n:Int):=by omega
 have b4:(n:Int)≤(c:Int):=by omega
 have b5:((i:Int) ==(i:Int)+1)=false:=by simp;omega
 have b6:(0:Int)≤(i:Int)+1:=by omega
 have b7:((i:Int)+1).toNat=i+1:=by omega
 have b8:(i:Int)≤(c:Int):=by omega
 have b9:(i:Int)≤(n:Int):=by omega
 have b10:(i:Int)+1≤(c:Int):=by omega
 go_enter Tryz.func198,Tryz.ntmps198
 by_cases hce:c=i+1
 ·subst hce;obtain rfl:n=i+1:=by omega
  go_wp2_with fail;refine wp_region_held_drew (S:=fun _=>True) (by kernel_rfl) trivial (fun HD=> ?_)
  (try simp only [pp]);refine tk 0 20 HD ?_;refine tk 1 21 HD ?_;refine tk 2 22 HD ?_;refine tk 3 23 HD ?_;refine tk 4 24 HD ?_;refine tk 5 25 HD ?_;refine on 6 26 fun K hK=> ?_
  rw [if_pos (by rfl)];refine wp_append_own_spare _ _ _ _ rfl base 89 i0 2 Tryz.underlying23 hi0 hz1 g i (i+1) _ rfl H1.out ⟨g,0,none⟩ 0 0 _ rfl (by rw [HN.out,Nat.sub_self]) (fun j u hu=>by have h0:=(List.getElem?_eq_some_iff.1 hu).1;rw [HN.out,Nat.sub_self] at h0;omega) HOne.out (by omega) ?_
  intro w2 ho2 hg2;rw [show i+0=i from rfl] at ho2 ⊢;have HO2:Hid (w2.ownsRow base 89 2 (.slice (some ⟨g,0,none⟩) i (i+1)) i ((l.eraseIdx i).flatMap Sc.cs)):=hid (by rw [HX.out];exact ho2);have HB2:Hid (Below base w w2):=hid (Below.grown (show Below base w w.drew from br.drew) hg2 (by simp;omega) (fun k hk=>by injection hk with hk;omega))
  have HK2:Hid (ZR [89] w w2):=hid (show ZR [89] w w2 from (ZR.drew w).trans (ZR.grown (w:=w.drew) H1.out hg2 (by simp) hg2.size));have HFr:Hid (Wh w w2 (.slice (some ⟨g,0,none⟩) (i+1) (i+1))):=hid ⟨by have:=hg2.size;simpa using this,fun k hk hn=>hg2.block k (by simpa using hk) (fun e=>hn (by rw [e];rfl))⟩
  clear ho2 hg2;refine hK _ _ trivial (fun HD=> ?_)
  clear hK K;(try simp only [pp])
  refine tk 7 0 HD ?_;refine wpAnyH_done (by kernel_rfl) ?_ _
  obtain⟨Z,hZl,hclr⟩:=Zd w2 23 89 0 (.agg #[.string ⟨#[]⟩,.string ⟨#[]⟩]) Tryz.underlying23 (fun w=>by kernel_rfl) rfl (by decide) (by simp [Value.cells,Value.oneCell']) (size:=2) g (i*2) 1 1 (by omega) (Zg HO2.out _ _ (by rw [←Nat.add_mul];exact Nat.mul_le_mul_right _ (by omega)));have c1:(i:Int)≤(i:Int)+1:=by omega
  have c2:(i:Int)+1≤(i:Int)+1:=by omega
  have c3: ¬ (i:Int)+1=(i:Int):=by omega
  have c4: ¬ i+1=i:=by omega
  have c5:(0:Int)≤(i:Int):=by omega
  have c6:i+1 - i=1:=by omega
  go_wp2_with fail;go_ret;exact⟨rfl,XY HO2.out Z _ lr,HB2.out.trans (ZJ hgb _ _),HK2.out.trans (X4 (ZK HO2.out).2.2.1 _ _),⟨by rw [Y8];exact HFr.out.size,fun k hk hn=>(Zb w2 g (fun e=>hn (by rw [e];rfl)) _ _).trans (HFr.out.block k hk hn)⟩⟩
 ·have hce': ¬ (c:Int)=(i:Int)+1:=by omega
  have hci: ¬ c=i:=by omega
  go_wp2_with fail;refine wp_region_held_drew (S:=fun _=>True) (by kernel_rfl) trivial (fun HD=> ?_)
  (try simp only [pp]);refine tk 0 20 HD ?_;refine tk 1 21 HD ?_;refine tk 2 22 HD ?_;refine tk 3 23 HD ?_;refine tk 4 24 HD ?_;refine tk 5 25 HD ?_;refine on 6 26 fun K hK=> ?_
  rw [if_pos (by rfl)];refine wp_append_own_spare _ _ _ _ rfl base 89 i0 2 Tryz.underlying23 hi0 hz1 g i c _ rfl H1.out ⟨g,(i+1)*2,none⟩ (n - (i+1)) (c - (i+1)) _ rfl HN.out (fun j u hu=>by rw [Addr.add_mid];exact HC.out j u hu) HOne.out (by omega) ?_
  intro w2 ho2 hg2;rw [show i+ (n - (i+1))=n - 1 from by omega] at ho2 ⊢;have HO2:Hid (w2.ownsRow base 89 2 (.slice (some ⟨g,0,none⟩) (n - 1) c) (n - 1) ((l.eraseIdx i).flatMap Sc.cs)):=hid (by rw [HX.out];exact ho2);have HB2:Hid (Below base w w2):=hid (Below.grown (show Below base w w.drew from br.drew) hg2 (by simp;omega) (fun k hk=>by injection hk with hk;omega))
  have HK2:Hid (ZR [89] w w2):=hid (show ZR [89] w w2 from (ZR.drew w).trans (ZR.grown (w:=w.drew) H1.out hg2 (by simp) hg2.size));have HFr:Hid (Wh w w2 (.slice (some ⟨g,0,none⟩) n c)):=hid ⟨by have:=hg2.size;simpa using this,fun k hk hn=>hg2.block k (by simpa using hk) (fun e=>hn (by rw [e];rfl))⟩
  clear ho2 hg2;refine hK _ _ trivial (fun HD=> ?_)
  clear hK K;(try simp only [pp])
  refine tk 7 0 HD ?_;refine wpAnyH_done (by kernel_rfl) ?_ _
  obtain⟨Z,hZl,hclr⟩:=Zd w2 23 89 0 (.agg #[.string ⟨#[]⟩,.string ⟨#[]⟩]) Tryz.underlying23 (fun w=>by kernel_rfl) rfl (by decide) (by simp [Value.cells,Value.oneCell']) (size:=2) g ((n - 1)*2) 1 (c - (n - 1)) (by omega) (Zg HO2.out _ _ (by rw [←Nat.add_mul];exact Nat.mul_le_mul_right _ (by omega)));have c1:((n - 1:Nat):Int)≤(n:Int):=by omega
  have c2:(n:Int)≤(c:Int):=by omega
  have c3: ¬ (c:Int)=((n - 1:Nat):Int):=by omega
  have c4: ¬ c=n - 1:=by omega
  have c5:(0:Int)≤((n - 1:Nat):Int):=by omega
  have c6:n - (n - 1)=1:=by omega
  go_wp2_with fail;go_ret;exact⟨rfl,XY HO2.out Z _ lr,HB2.out.trans (ZJ hgb _ _),HK2.out.trans (X4 (ZK HO2.out).2.2.1 _ _),⟨by rw [Y8];exact HFr.out.size,fun k hk hn=>(Zb w2 g (fun e=>hn (by rw [e];rfl)) _ _).trans (HFr.out.block k hk hn)⟩⟩
theorem Q8 (base:Nat)(l:List Cl)(A:Option Addr)(c i:Nat)(w:World)(h:w.ownsRow base 119 3 (.slice A l.length c) l.length (l.flatMap Cl.cs))(hi:i<l.length)(hl:l.length≤1099511627776):
  Calls Tryz.prog 208 #[.slice A l.length c,.int .i64 i,.int .i64 ((i:Int)+1)] w fun e w'=>e= .returned (.slice A (l.length - 1:Nat) c)∧w'.ownsRow base 119 3 (.slice A (l.length - 1:Nat) c) (l.length - 1) ((l.eraseIdx i).flatMap Cl.cs)∧Below base w w'∧ZR [119] w w'∧Wh w w' (.slice A l.length c):=by
 obtain⟨g,rfl⟩: ∃ g,A=some ⟨g,0,none⟩:=by
  obtain⟨g,cap,hv,_,_⟩:=h.form (by omega);exact⟨g,by injection hv⟩
 obtain⟨i0,hi0,hz0,hz1,hz2⟩:=info_parts UZ;obtain⟨hc1,hc2⟩:=YR h;obtain⟨hgb,hgl,hgt,_,hcell⟩:=ZK h;have HO:=hid h;have HGT:=hid hgt;have H1:=hid (WC h (show i≤l.length by omega));have HX:Hid ((l.eraseIdx i).flatMap Cl.cs=(l.flatMap Cl.cs).take (i*3) ++ (l.flatMap Cl.cs).drop ((i+1)*3)):=hid (by rw [List.eraseIdx_eq_take_drop_succ,List.flatMap_append,XF Cl.k,Xl Cl.k]);have HN:Hid (((l.flatMap Cl.cs).drop ((i+1)*3)).length=(l.length - (i+1))*3):=hid (by rw [List.length_drop,Zq Cl.k,Nat.sub_mul]);have HC:Hid (∀ j u,((l.flatMap Cl.cs).drop ((i+1)*3))[j]?=some u→w.cell? ⟨g,(i+1)*3+j,none⟩=some u):=hid (fun j u hu=>hcell _ u (by rw [List.getElem?_drop] at hu;exact hu));have HOne:Hid (∀ v∈(l.flatMap Cl.cs).drop ((i+1)*3),v.oneCell'=true):=hid fun v hv=>Yg Cl.one l v (List.mem_of_mem_drop hv)
 clear h hgt hcell;generalize (l.flatMap Cl.cs)=xs at*;generalize hln:l.length=n at*;have b1:(0:Int)≤(i:Int):=by omega
 have b2:(i:Int)≤(i:Int)+1:=by omega
 have b3:(i:Int)+1≤(n:Int):=by omega
 have b4:(n:Int)≤(c:Int):=by omega
 have b5:((i:Int) ==(i:Int)+1)=false:=by simp;omega
 have b6:(0:Int)≤(i:Int)+1:=by omega
 have b7:((i:Int)+1).toNat=i+1:=by omega
 have b8:(i:Int)≤(c:Int):=by omega
 have b9:(i:Int)≤(n:Int):=by omega
 have b10:(i:Int)+1≤(c:Int):=by omega
 go_enter Tryz.func208,Tryz.ntmps208
 by_cases hce:c=i+1
 ·subst hce;obtain rfl:n=i+1:=by omega
  go_wp2_with fail;refine wp_region_held_drew (S:=fun _=>True) (by kernel_rfl) trivial (fun HD=> ?_)
  (try simp only [pp]);refine tk 0 20 HD ?_;refine tk 1 21 HD ?_;refine tk 2 22 HD ?_;refine tk 3 23 HD ?_;refine tk 4 24 HD ?_;refine tk 5 25 HD ?_;refine on 6 26 fun K hK=> ?_
  rw [if_pos (by rfl)];refine wp_append_own_spare _ _ _ _ rfl base 119 i0 3 Tryz.underlying37 hi0 hz1 g i (i+1) _ rfl H1.out ⟨g,0,none⟩ 0 0 _ rfl (by rw [HN.out,Nat.sub_self]) (fun j u hu=>by have h0:=(List.getElem?_eq_some_iff.1 hu).1;rw [HN.out,Nat.sub_self] at h0;omega) HOne.out (by omega) ?_
  intro w2 ho2 hg2;rw [show i+0=i from rfl] at ho2 ⊢;have HO2:Hid (w2.ownsRow base 119 3 (.slice (some ⟨g,0,none⟩) i (i+1)) i ((l.eraseIdx i).flatMap Cl.cs)):=hid (by rw [HX.out];exact ho2);have HB2:Hid (Below base w w2):=hid (Below.grown (show Below base w w.drew from br.drew) hg2 (by simp;omega) (fun k hk=>by injection hk with hk;omega))
  have HK2:Hid (ZR [119] w w2):=hid (show ZR [119] w w2 from (ZR.drew w).trans (ZR.grown (w:=w.drew) H1.out hg2 (by simp) hg2.size));have HFr:Hid (Wh w w2 (.slice (some ⟨g,0,none⟩) (i+1) (i+1))):=hid ⟨by have:=hg2.size;simpa using this,fun k hk hn=>hg2.block k (by simpa using hk) (fun e=>hn (by rw [e];rfl))⟩
  clear ho2 hg2;refine hK _ _ trivial (fun HD=> ?_)
  clear hK K;(try simp only [pp])
  refine tk 7 0 HD ?_;refine wpAnyH_done (by kernel_rfl) ?_ _
  obtain⟨Z,hZl,hclr⟩:=Zd w2 37 119 0 (.agg #[.string ⟨#[]⟩,.int .i64 0,.bool false]) Tryz.underlying37 (fun w=>by kernel_rfl) rfl (by decide) (by simp [Value.cells,Value.oneCell']) (size:=3) g (i*3) 1 1 (by omega) (Zg HO2.out _ _ (by rw [←Nat.add_mul];exact Nat.mul_le_mul_right _ (by omega)));have c1:(i:Int)≤(i:Int)+1:=by omega
  have c2:(i:Int)+1≤(i:Int)+1:=by omega
  have c3: ¬ (i:Int)+1=(i:Int):=by omega
  have c4: ¬ i+1=i:=by omega
  have c5:(0:Int)≤(i:Int):=by omega
  have c6:i+1 - i=1:=by omega
  go_wp2_with fail;go_ret;exact⟨rfl,XY HO2.out Z _ lr,HB2.out.trans (ZJ hgb _ _),HK2.out.trans (X4 (ZK HO2.out).2.2.1 _ _),⟨by rw [Y8];exact HFr.out.size,fun k hk hn=>(Zb w2 g (fun e=>hn (by rw [e];rfl)) _ _).trans (HFr.out.block k hk hn)⟩⟩
 ·have hce': ¬ (c:Int)=(i:Int)+1:=by omega
  have hci: ¬ c=i:=by omega
  go_wp2_with fail;refine wp_region_held_drew (S:=fun _=>True) (by kernel_rfl) trivial (fun HD=> ?_)
  (try simp only [pp]);refine tk 0 20 HD ?_;refine tk 1 21 HD ?_;refine tk 2 22 HD ?_;refine tk 3 23 HD ?_;refine tk 4 24 HD ?_;refine tk 5 25 HD ?_;refine on 6 26 fun K hK=> ?_
  rw [if_pos (by rfl)];refine wp_append_own_spare _ _ _ _ rfl base 119 i0 3 Tryz.underlying37 hi0 hz1 g i c _ rfl H1.out ⟨g,(i+1)*3,none⟩ (n - (i+1)) (c - (i+1)) _ rfl HN.out (fun j u hu=>by rw [Addr.add_mid];exact HC.out j u hu) HOne.out (by omega) ?_
  intro w2 ho2 hg2;rw [show i+ (n - (i+1))=n - 1 from by omega] at ho2 ⊢;have HO2:Hid (w2.ownsRow base 119 3 (.slice (some ⟨g,0,none⟩) (n - 1) c) (n - 1) ((l.eraseIdx i).flatMap Cl.cs)):=hid (by rw [HX.out];exact ho2);have HB2:Hid (Below base w w2):=hid (Below.grown (show Below base w w.drew from br.drew) hg2 (by simp;omega) (fun k hk=>by injection hk with hk;omega))
  have HK2:Hid (ZR [119] w w2):=hid (show ZR [119] w w2 from (ZR.drew w).trans (ZR.grown (w:=w.drew) H1.out hg2 (by simp) hg2.size));have HFr:Hid (Wh w w2 (.slice (some ⟨g,0,none⟩) n c)):=hid ⟨by have:=hg2.size;simpa using this,fun k hk hn=>hg2.block k (by simpa using hk) (fun e=>hn (by rw [e];rfl))⟩
  clear ho2 hg2;refine hK _ _ trivial (fun HD=> ?_)
  clear hK K;(try simp only [pp])
  refine tk 7 0 HD ?_;refine wpAnyH_done (by kernel_rfl) ?_ _
  obtain⟨Z,hZl,hclr⟩:=Zd w2 37 119 0 (.agg #[.string ⟨#[]⟩,.int .i64 0,.bool false]) Tryz.underlying37 (fun w=>by kernel_rfl) rfl (by decide) (by simp [Value.cells,Value.oneCell']) (size:=3) g ((n - 1)*3) 1 (c - (n - 1)) (by omega) (Zg HO2.out _ _ (by rw [←Nat.add_mul];exact Nat.mul_le_mul_right _ (by omega)));have c1:((n - 1:Nat):Int)≤(n:Int):=by omega
  have c2:(n:Int)≤(c:Int):=by omega
  have c3: ¬ (c:Int)=((n - 1:Nat):Int):=by omega
  have c4: ¬ c=n - 1:=by omega
  have c5:(0:Int)≤((n - 1:Nat):Int):=by omega
  have c6:n - (n - 1)=1:=by omega
  go_wp2_with fail;go_ret;exact⟨rfl,XY HO2.out Z _ lr,HB2.out.trans (ZJ hgb _ _),HK2.out.trans (X4 (ZK HO2.out).2.2.1 _ _),⟨by rw [Y8];exact HFr.out.size,fun k hk hn=>(Zb w2 g (fun e=>hn (by rw [e];rfl)) _ _).trans (HFr.out.block k hk hn)⟩⟩
theorem OX (base:Nat)(l:List Yv)(A:Option Addr)(c i:Nat)(w:World)(h:w.ownsRow base 40 8 (.slice A l.length c) l.length (l.flatMap Yv.cs))(hi:i<l.length)(hl:l.length≤1099511627776):
  Calls Tryz.prog 215 #[.slice A l.length c,.int .i64 i,.int .i64 ((i:Int)+1)] w fun e w'=>e= .returned (.slice A (l.length - 1:Nat) c)∧w'.ownsRow base 40 8 (.slice A (l.length - 1:Nat) c) (l.length - 1) ((l.eraseIdx i).flatMap Yv.cs)∧Below base w w'∧ZR [40] w w'∧Wh w w' (.slice A l.length c):=by
 obtain⟨g,rfl⟩: ∃ g,A=some ⟨g,0,none⟩:=by
  obtain⟨g,cap,hv,_,_⟩:=h.form (by omega);exact⟨g,by injection hv⟩
 obtain⟨i0,hi0,hz0,hz1,hz2⟩:=info_parts UG;obtain⟨hc1,hc2⟩:=YR h;obtain⟨hgb,hgl,hgt,_,hcell⟩:=ZK h;have HO:=hid h;have HGT:=hid hgt;have H1:=hid (WC h (show i≤l.length by omega));have HX:Hid ((l.eraseIdx i).flatMap Yv.cs=(l.flatMap Yv.cs).take (i*8) ++ (l.flatMap Yv.cs).drop ((i+1)*8)):=hid (by rw [List.eraseIdx_eq_take_drop_succ,List.flatMap_append,XF Yv.k,Xl Yv.k]);have HN:Hid (((l.flatMap Yv.cs).drop ((i+1)*8)).length=(l.length - (i+1))*8):=hid (by rw [List.length_drop,Zq Yv.k,Nat.sub_mul]);have HC:Hid (∀ j u,((l.flatMap Yv.cs).drop ((i+1)*8))[j]?=some u→w.cell? ⟨g,(i+1)*8+j,none⟩=some u):=hid (fun j u hu=>hcell _ u (by rw [List.getElem?_drop] at hu;exact hu));have HOne:Hid (∀ v∈(l.flatMap Yv.cs).drop ((i+1)*8),v.oneCell'=true):=hid fun v hv=>Yg Yv.one l v (List.mem_of_mem_drop hv)
 clear h hgt hcell;generalize (l.flatMap Yv.cs)=xs at*;generalize hln:l.length=n at*;have b1:(0:Int)≤(i:Int):=by omega
 have b2:(i:Int)≤(i:Int)+1:=by omega
 have b3:(i:Int)+1≤(n:Int):=by omega
 have b4:(n:Int)≤(c:Int):=by omega
 have b5:((i:Int) ==(i:Int)+1)=false:=by simp;omega
 have b6:(0:Int)≤(i:Int)+1:=by omega
 have b7:((i:Int)+1).toNat=i+1:=by omega
 have b8:(i:Int)≤(c:Int):=by omega
 have b9:(i:Int)≤(n:Int):=by omega
 have b10:(i:Int)+1≤(c:Int):=by omega
 go_enter Tryz.func215,Tryz.ntmps215
 by_cases hce:c=i+1
 ·subst hce;obtain rfl:n=i+1:=by omega
  go_wp2_with fail;refine wp_region_held_drew (S:=fun _=>True) (by kernel_rfl) trivial (fun HD=> ?_)
  (try simp only [pp]);refine tk 0 20 HD ?_;refine tk 1 21 HD ?_;refine tk 2 22 HD ?_;refine tk 3 23 HD ?_;refine tk 4 24 HD ?_;refine tk 5 25 HD ?_;refine on 6 26 fun K hK=> ?_
  rw [if_pos (by rfl)];refine wp_append_own_spare _ _ _ _ rfl base 40 i0 8 Tryz.underlying71 hi0 hz1 g i (i+1) _ rfl H1.out ⟨g,0,none⟩ 0 0 _ rfl (by rw [HN.out,Nat.sub_self]) (fun j u hu=>by have h0:=(List.getElem?_eq_some_iff.1 hu).1;rw [HN.out,Nat.sub_self] at h0;omega) HOne.out (by omega) ?_
  intro w2 ho2 hg2;rw [show i+0=i from rfl] at ho2 ⊢;have HO2:Hid (w2.ownsRow base 40 8 (.slice (some ⟨g,0,none⟩) i (i+1)) i ((l.eraseIdx i).flatMap Yv.cs)):=hid (by rw [HX.out];exact ho2);have HB2:Hid (Below base w w2):=hid (Below.grown (show Below base w w.drew from br.drew) hg2 (by simp;omega) (fun k hk=>by injection hk with hk;omega))
  have HK2:Hid (ZR [40] w w2):=hid (show ZR [40] w w2 from (ZR.drew w).trans (ZR.grown (w:=w.drew) H1.out hg2 (by simp) hg2.size));have HFr:Hid (Wh w w2 (.slice (some ⟨g,0,none⟩) (i+1) (i+1))):=hid ⟨by have:=hg2.size;simpa using this,fun k hk hn=>hg2.block k (by simpa using hk) (fun e=>hn (by rw [e];rfl))⟩
  clear ho2 hg2;refine hK _ _ trivial (fun HD=> ?_)
  clear hK K;(try simp only [pp])
  refine tk 7 0 HD ?_;refine wpAnyH_done (by kernel_rfl) ?_ _
  obtain⟨Z,hZl,hclr⟩:=Zd w2 71 40 0 (.agg #[.string ⟨#[]⟩,.int .i64 0,.slice none 0 0,.int .i64 0,.int .i64 0,.string ⟨#[]⟩,.string ⟨#[]⟩,.string ⟨#[]⟩]) Tryz.underlying71 (fun w=>by kernel_rfl) rfl (by decide) (by simp [Value.cells,Value.oneCell']) (size:=8) g (i*8) 1 1 (by omega) (Zg HO2.out _ _ (by rw [←Nat.add_mul];exact Nat.mul_le_mul_right _ (by omega)));have c1:(i:Int)≤(i:Int)+1:=by omega
  have c2:(i:Int)+1≤(i:Int)+1:=by omega
  have c3: ¬ (i:Int)+1=(i:Int):=by omega
  have c4: ¬ i+1=i:=by omega
  have c5:(0:Int)≤(i:Int):=by omega
  have c6:i+1 - i=1:=by omega
  go_wp2_with fail;go_ret;exact⟨rfl,XY HO2.out Z _ lr,HB2.out.trans (ZJ hgb _ _),HK2.out.trans (X4 (ZK HO2.out).2.2.1 _ _),⟨by rw [Y8];exact HFr.out.size,fun k hk hn=>(Zb w2 g (fun e=>hn (by rw [e];rfl)) _ _).trans (HFr.out.block k hk hn)⟩⟩
 ·have hce': ¬ (c:Int)=(i:Int)+1:=by omega
  have hci: ¬ c=i:=by omega
  go_wp2_with fail;refine wp_region_held_drew (S:=fun _=>True) (by kernel_rfl) trivial (fun HD=> ?_)
  (try simp only [pp]);refine tk 0 20 HD ?_;refine tk 1 21 HD ?_;refine tk 2 22 HD ?_;refine tk 3 23 HD ?_;refine tk 4 24 HD ?_;refine tk 5 25 HD ?_;refine on 6 26 fun K hK=> ?_
  rw [if_pos (by rfl)];refine wp_append_own_spare _ _ _ _ rfl base 40 i0 8 Tryz.underlying71 hi0 hz1 g i c _ rfl H1.out ⟨g,(i+1)*8,none⟩ (n - (i+1)) (c - (i+1)) _ rfl HN.out (fun j u hu=>by rw [Addr.add_mid];exact HC.out j u hu) HOne.out (by omega) ?_
  intro w2 ho2 hg2;rw [show i+ (n - (i+1))=n - 1 from by omega] at ho2 ⊢;have HO2:Hid (w2.ownsRow base 40 8 (.slice (some ⟨g,0,none⟩) (n - 1) c) (n - 1) ((l.eraseIdx i).flatMap Yv.cs)):=hid (by rw [HX.out];exact ho2);have HB2:Hid (Below base w w2):=hid (Below.grown (show Below base w w.drew from br.drew) hg2 (by simp;omega) (fun k hk=>by injection hk with hk;omega))
  have HK2:Hid (ZR [40] w w2):=hid (show ZR [40] w w2 from (ZR.drew w).trans (ZR.grown (w:=w.drew) H1.out hg2 (by simp) hg2.size));have HFr:Hid (Wh w w2 (.slice (some ⟨g,0,none⟩) n c)):=hid ⟨by have:=hg2.size;simpa using this,fun k hk hn=>hg2.block k (by simpa using hk) (fun e=>hn (by rw [e];rfl))⟩
  clear ho2 hg2;refine hK _ _ trivial (fun HD=> ?_)
  clear hK K;(try simp only [pp])
  refine tk 7 0 HD ?_;refine wpAnyH_done (by kernel_rfl) ?_ _
  obtain⟨Z,hZl,hclr⟩:=Zd w2 71 40 0 (.agg #[.string ⟨#[]⟩,.int .i64 0,.slice none 0 0,.int .i64 0,.int .i64 0,.string ⟨#[]⟩,.string ⟨#[]⟩,.string ⟨#[]⟩]) Tryz.underlying71 (fun w=>by kernel_rfl) rfl (by decide) (by simp [Value.cells,Value.oneCell']) (size:=8) g ((n - 1)*8) 1 (c - (n - 1)) (by omega) (Zg HO2.out _ _ (by rw [←Nat.add_mul];exact Nat.mul_le_mul_right _ (by omega)));have c1:((n - 1:Nat):Int)≤(n:Int):=by omega
  have c2:(n:Int)≤(c:Int):=by omega
  have c3: ¬ (c:Int)=((n - 1:Nat):Int):=by omega
  have c4: ¬ c=n - 1:=by omega
  have c5:(0:Int)≤((n - 1:Nat):Int):=by omega
  have c6:n - (n - 1)=1:=by omega
  go_wp2_with fail;go_ret;exact⟨rfl,XY HO2.out Z _ lr,HB2.out.trans (ZJ hgb _ _),HK2.out.trans (X4 (ZK HO2.out).2.2.1 _ _),⟨by rw [Y8];exact HFr.out.size,fun k hk hn=>(Zb w2 g (fun e=>hn (by rw [e];rfl)) _ _).trans (HFr.out.block k hk hn)⟩⟩
theorem QZ (base:Nat)(l:List Mb)(A:Option Addr)(c i:Nat)(w:World)(h:w.ownsRow base 147 2 (.slice A l.length c) l.length (l.flatMap Mb.cs))(hi:i<l.length)(hl:l.length≤1099511627776):
  Calls Tryz.prog 193 #[.slice A l.length c,.int .i64 i,.int .i64 ((i:Int)+1)] w fun e w'=>e= .returned (.slice A (l.length - 1:Nat) c)∧w'.ownsRow base 147 2 (.slice A (l.length - 1:Nat) c) (l.length - 1) ((l.eraseIdx i).flatMap Mb.cs)∧Below base w w'∧ZR [147] w w'∧Wh w w' (.slice A l.length c):=by
 obtain⟨g,rfl⟩: ∃ g,A=some ⟨g,0,none⟩:=by
  obtain⟨g,cap,hv,_,_⟩:=h.form (by omega);exact⟨g,by injection hv⟩
 obtain⟨i0,hi0,hz0,hz1,hz2⟩:=info_parts UY;obtain⟨hc1,hc2⟩:=YR h;obtain⟨hgb,hgl,hgt,_,hcell⟩:=ZK h;have HO:=hid h;have HGT:=hid hgt;have H1:=hid (WC h (show i≤l.length by omega));have HX:Hid ((l.eraseIdx i).flatMap Mb.cs=(l.flatMap Mb.cs).take (i*2) ++ (l.flatMap Mb.cs).drop ((i+1)*2)):=hid (by rw [List.eraseIdx_eq_take_drop_succ,List.flatMap_append,XF Mb.k,Xl Mb.k]);have HN:Hid (((l.flatMap Mb.cs).drop ((i+1)*2)).length=(l.length - (i+1))*2):=hid (by rw [List.length_drop,Zq Mb.k,Nat.sub_mul]);have HC:Hid (∀ j u,((l.flatMap Mb.cs).drop ((i+1)*2))[j]?=some u→w.cell? ⟨g,(i+1)*2+j,none⟩=some u):=hid (fun j u hu=>hcell _ u (by rw [List.getElem?_drop] at hu;exact hu));have HOne:Hid (∀ v∈(l.flatMap Mb.cs).drop ((i+1)*2),v.oneCell'=true):=hid fun v hv=>Yg Mb.one l v (List.mem_of_mem_drop hv)
 clear h hgt hcell;generalize (l.flatMap Mb.cs)=xs at*;generalize hln:l.length=n at*;have b1:(0:Int)≤(i:Int):=by omega
 have b2:(i:Int)≤(i:Int)+1:=by omega
 have b3:(i:Int)+1≤(n:Int):=by omega
 have b4:(n:Int)≤(c:Int):=by omega
 have b5:((i:Int) ==(i:Int)+1)=false:=by simp;omega
 have b6:(0:Int)≤(i:Int)+1:=by omega
 have b7:((i:Int)+1).toNat=i+1:=by omega
 have b8:(i:Int)≤(c:Int):=by omega
 have b9:(i:Int)≤(n:Int):=by omega
 have b10:(i:Int)+1≤(c:Int):=by omega
 go_enter Tryz.func193,Tryz.ntmps193
 by_cases hce:c=i+1
 ·subst hce;obtain rfl:n=i+1:=by omega
  go_wp2_with fail;refine wp_region_held_drew (S:=fun _=>True) (by kernel_rfl) trivial (fun HD=> ?_)
  (try simp only [pp]);refine tk 0 20 HD ?_;refine tk 1 21 HD ?_;refine tk 2 22 HD ?_;refine tk 3 23 HD ?_;refine tk 4 24 HD ?_;refine tk 5 25 HD ?_;refine on 6 26 fun K hK=> ?_
  rw [if_pos (by rfl)];refine wp_append_own_spare _ _ _ _ rfl base 147 i0 2 Tryz.underlying28 hi0 hz1 g i (i+1) _ rfl H1.out ⟨g,0,none⟩ 0 0 _ rfl (by rw [HN.out,Nat.sub_self]) (fun j u hu=>by have h0:=(List.getElem?_eq_some_iff.1 hu).1;rw [HN.out,Nat.sub_self] at h0;omega) HOne.out (by omega) ?_
  intro w2 ho2 hg2;rw [show i+0=i from rfl] at ho2 ⊢;have HO2:Hid (w2.ownsRow base 147 2 (.slice (some ⟨g,0,none⟩) i (i+1)) i ((l.eraseIdx i).flatMap Mb.cs)):=hid (by rw [HX.out];exact ho2);have HB2:Hid (Below base w w2):=hid (Below.grown (show Below base w w.drew from br.drew) hg2 (by simp;omega) (fun k hk=>by injection hk with hk;omega))
  have HK2:Hid (ZR [147] w w2):=hid (show ZR [147] w w2 from (ZR.drew w).trans (ZR.grown (w:=w.drew) H1.out hg2 (by simp) hg2.size));have HFr:Hid (Wh w w2 (.slice (some ⟨g,0,none⟩) (i+1) (i+1))):=hid ⟨by have:=hg2.size;simpa using this,fun k hk hn=>hg2.block k (by simpa using hk) (fun e=>hn (by rw [e];rfl))⟩
  clear ho2 hg2;refine hK _ _ trivial (fun HD=> ?_)
  clear hK K;(try simp only [pp])
  refine tk 7 0 HD ?_;refine wpAnyH_done (by kernel_rfl) ?_ _
  obtain⟨Z,hZl,hclr⟩:=Zd w2 28 147 0 (.agg #[.string ⟨#[]⟩,.string ⟨#[]⟩]) Tryz.underlying28 (fun w=>by kernel_rfl) rfl (by decide) (by simp [Value.cells,Value.oneCell']) (size:=2) g (i*2) 1 1 (by omega) (Zg HO2.out _ _ (by rw [←Nat.add_mul];exact Nat.mul_le_mul_right _ (by omega)));have c1:(i:Int)≤(i:Int)+1:=by omega
  have c2:(i:Int)+1≤(i:Int)+1:=by omega
  have c3: ¬ (i:Int)+1=(i:Int):=by omega
  have c4: ¬ i+1=i:=by omega
  have c5:(0:Int)≤(i:Int):=by omega
  have c6:i+1 - i=1:=by omega
  go_wp2_with fail;go_ret;exact⟨rfl,XY HO2.out Z _ lr,HB2.out.trans (ZJ hgb _ _),HK2.out.trans (X4 (ZK HO2.out).2.2.1 _ _),⟨by rw [Y8];exact HFr.out.size,fun k hk hn=>(Zb w2 g (fun e=>hn (by rw [e];rfl)) _ _).trans (HFr.out.block k hk hn)⟩⟩
 ·have hce': ¬ (c:Int)=(i:Int)+1:=by omega
  have hci: ¬ c=i:=by omega
  go_wp2_with fail;refine wp_region_held_drew (S:=fun _=>True) (by kernel_rfl) trivial (fun HD=> ?_)
  (try simp only [pp]);refine tk 0 20 HD ?_;refine tk 1 21 HD ?_;refine tk 2 22 HD ?_;refine tk 3 23 HD ?_;refine tk 4 24 HD ?_;refine tk 5 25 HD ?_;refine on 6 26 fun K hK=> ?_
  rw [if_pos (by rfl)];refine wp_append_own_spare _ _ _ _ rfl base 147 i0 2 Tryz.underlying28 hi0 hz1 g i c _ rfl H1.out ⟨g,(i+1)*2,none⟩ (n - (i+1)) (c - (i+1)) _ rfl HN.out (fun j u hu=>by rw [Addr.add_mid];exact HC.out j u hu) HOne.out (by omega) ?_
  intro w2 ho2 hg2;rw [show i+ (n - (i+1))=n - 1 from by omega] at ho2 ⊢;have HO2:Hid (w2.ownsRow base 147 2 (.slice (some ⟨g,0,none⟩) (n - 1) c) (n - 1) ((l.eraseIdx i).flatMap Mb.cs)):=hid (by rw [HX.out];exact ho2);have HB2:Hid (Below base w w2):=hid (Below.grown (show Below base w w.drew from br.drew) hg2 (by simp;omega) (fun k hk=>by injection hk with hk;omega))
  have HK2:Hid (ZR [147] w w2):=hid (show ZR [147] w w2 from (ZR.drew w).trans (ZR.grown (w:=w.drew) H1.out hg2 (by simp) hg2.size));have HFr:Hid (Wh w w2 (.slice (some ⟨g,0,none⟩) n c)):=hid ⟨by have:=hg2.size;simpa using this,fun k hk hn=>hg2.block k (by simpa using hk) (fun e=>hn (by rw [e];rfl))⟩
  clear ho2 hg2;refine hK _ _ trivial (fun HD=> ?_)
  clear hK K;(try simp only [pp])
  refine tk 7 0 HD ?_;refine wpAnyH_done (by kernel_rfl) ?_ _
  obtain⟨Z,hZl,hclr⟩:=Zd w2 28 147 0 (.agg #[.string ⟨#[]⟩,.string ⟨#[]⟩]) Tryz.underlying28 (fun w=>by kernel_rfl) rfl (by decide) (by simp [Value.cells,Value.oneCell']) (size:=2) g ((n - 1)*2) 1 (c - (n - 1)) (by omega) (Zg HO2.out _ _ (by rw [←Nat.add_mul];exact Nat.mul_le_mul_right _ (by omega)));have c1:((n - 1:Nat):Int)≤(n:Int):=by omega
  have c2:(n:Int)≤(c:Int):=by omega
  have c3: ¬ (c:Int)=((n - 1:Nat):Int):=by omega
  have c4: ¬ c=n - 1:=by omega
  have c5:(0:Int)≤((n - 1:Nat):Int):=by omega
  have c6:n - (n - 1)=1:=by omega
  go_wp2_with fail;go_ret;exact⟨rfl,XY HO2.out Z _ lr,HB2.out.trans (ZJ hgb _ _),HK2.out.trans (X4 (ZK HO2.out).2.2.1 _ _),⟨by rw [Y8];exact HFr.out.size,fun k hk hn=>(Zb w2 g (fun e=>hn (by rw [e];rfl)) _ _).trans (HFr.out.block k hk hn)⟩⟩
theorem NX (base:Nat)(l:List (List UInt8))(A:Option Addr)(c i:Nat)(w:World)(h:w.ownsRow base 9 1 (.slice A l.length c) l.length (l.flatMap YS))(hi:i<l.length)(hl:l.length≤1099511627776):
  Calls Tryz.prog 183 #[.slice A l.length c,.int .i64 i,.int .i64 ((i:Int)+1)] w fun e w'=>e= .returned (.slice A (l.length - 1:Nat) c)∧w'.ownsRow base 9 1 (.slice A (l.length - 1:Nat) c) (l.length - 1) ((l.eraseIdx i).flatMap YS)∧Below base w w'∧ZR [9] w w'∧Wh w w' (.slice A l.length c):=by
 obtain⟨g,rfl⟩: ∃ g,A=some ⟨g,0,none⟩:=by
  obtain⟨g,cap,hv,_,_⟩:=h.form (by omega);exact⟨g,by injection hv⟩
 obtain⟨i0,hi0,hz0,hz1,hz2⟩:=info_parts Ty;obtain⟨hc1,hc2⟩:=YR h;obtain⟨hgb,hgl,hgt,_,hcell⟩:=ZK h;have HO:=hid h;have HGT:=hid hgt;have H1:=hid (WC h (show i≤l.length by omega));have HX:Hid ((l.eraseIdx i).flatMap YS=(l.flatMap YS).take (i*1) ++ (l.flatMap YS).drop ((i+1)*1)):=hid (by rw [List.eraseIdx_eq_take_drop_succ,List.flatMap_append,XF YS.k,Xl YS.k]);have HN:Hid (((l.flatMap YS).drop ((i+1)*1)).length=(l.length - (i+1))*1):=hid (by rw [List.length_drop,Zq YS.k,Nat.sub_mul]);have HC:Hid (∀ j u,((l.flatMap YS).drop ((i+1)*1))[j]?=some u→w.cell? ⟨g,(i+1)*1+j,none⟩=some u):=hid (fun j u hu=>hcell _ u (by rw [List.getElem?_drop] at hu;exact hu));have HOne:Hid (∀ v∈(l.flatMap YS).drop ((i+1)*1),v.oneCell'=true):=hid fun v hv=>Yg YS.one l v (List.mem_of_mem_drop hv)
 clear h hgt hcell;generalize (l.flatMap YS)=xs at*;generalize hln:l.length=n at*;have b1:(0:Int)≤(i:Int):=by omega
 have b2:(i:Int)≤(i:Int)+1:=by omega
 have b3:(i:Int)+1≤(n:Int):=by omega
 have b4:(n:Int)≤(c:Int):=by omega
 have b5:((i:Int) ==(i:Int)+1)=false:=by simp;omega
 have b6:(0:Int)≤(i:Int)+1:=by omega
 have b7:((i:Int)+1).toNat=i+1:=by omega
 have b8:(i:Int)≤(c:Int):=by omega
 have b9:(i:Int)≤(n:Int):=by omega
 have b10:(i:Int)+1≤(c:Int):=by omega
 go_enter Tryz.func183,Tryz.ntmps183
 by_cases hce:c=i+1
 ·subst hce;obtain rfl:n=i+1:=by omega
  go_wp2_with fail;refine wp_region_held_drew (S:=fun _=>True) (by kernel_rfl) trivial (fun HD=> ?_)
  (try simp only [pp]);refine tk 0 20 HD ?_;refine tk 1 21 HD ?_;refine tk 2 22 HD ?_;refine tk 3 23 HD ?_;refine tk 4 24 HD ?_;refine tk 5 25 HD ?_;refine on 6 26 fun K hK=> ?_
  rw [if_pos (by rfl)];refine wp_append_own_spare _ _ _ _ rfl base 9 i0 1 Tryz.underlying27 hi0 hz1 g i (i+1) _ rfl H1.out ⟨g,0,none⟩ 0 0 _ rfl (by rw [HN.out,Nat.sub_self]) (fun j u hu=>by have h0:=(List.getElem?_eq_some_iff.1 hu).1;rw [HN.out,Nat.sub_self] at h0;omega) HOne.out (by omega) ?_
  intro w2 ho2 hg2;rw [show i+0=i from rfl] at ho2 ⊢;have HO2:Hid (w2.ownsRow base 9 1 (.slice (some ⟨g,0,none⟩) i (i+1)) i ((l.eraseIdx i).flatMap YS)):=hid (by rw [HX.out];exact ho2);have HB2:Hid (Below base w w2):=hid (Below.grown (show Below base w w.drew from br.drew) hg2 (by simp;omega) (fun k hk=>by injection hk with hk;omega))
  have HK2:Hid (ZR [9] w w2):=hid (show ZR [9] w w2 from (ZR.drew w).trans (ZR.grown (w:=w.drew) H1.out hg2 (by simp) hg2.size));have HFr:Hid (Wh w w2 (.slice (some ⟨g,0,none⟩) (i+1) (i+1))):=hid ⟨by have:=hg2.size;simpa using this,fun k hk hn=>hg2.block k (by simpa using hk) (fun e=>hn (by rw [e];rfl))⟩
  clear ho2 hg2;refine hK _ _ trivial (fun HD=> ?_)
  clear hK K;(try simp only [pp])
  refine tk 7 0 HD ?_;refine wpAnyH_done (by kernel_rfl) ?_ _
  obtain⟨Z,hZl,hclr⟩:=Zd w2 27 9 0 (.string ⟨#[]⟩) Tryz.underlying27 (fun w=>by kernel_rfl) rfl (by decide) (by simp [Value.cells,Value.oneCell']) (size:=1) g i 1 1 (by omega) (Zg HO2.out _ _ (by omega));have c1:(i:Int)≤(i:Int)+1:=by omega
  have c2:(i:Int)+1≤(i:Int)+1:=by omega
  have c3: ¬ (i:Int)+1=(i:Int):=by omega
  have c4: ¬ i+1=i:=by omega
  have c5:(0:Int)≤(i:Int):=by omega
  have c6:i+1 - i=1:=by omega
  go_wp2_with fail;go_ret;exact⟨rfl,XY HO2.out Z _ (by simp),HB2.out.trans (ZJ hgb _ _),HK2.out.trans (X4 (ZK HO2.out).2.2.1 _ _),⟨by rw [Y8];exact HFr.out.size,fun k hk hn=>(Zb w2 g (fun e=>hn (by rw [e];rfl)) _ _).trans (HFr.out.block k hk hn)⟩⟩
 ·have hce': ¬ (c:Int)=(i:Int)+1:=by omega
  have hci: ¬ c=i:=by omega
  go_wp2_with fail;refine wp_region_held_drew (S:=fun _=>True) (by kernel_rfl) trivial (fun HD=> ?_)
  (try simp only [pp]);refine tk 0 20 HD ?_;refine tk 1 21 HD ?_;refine tk 2 22 HD ?_;refine tk 3 23 HD ?_;refine tk 4 24 HD ?_;refine tk 5 25 HD ?_;refine on 6 26 fun K hK=> ?_
  rw [if_pos (by rfl)];refine wp_append_own_spare _ _ _ _ rfl base 9 i0 1 Tryz.underlying27 hi0 hz1 g i c _ rfl H1.out ⟨g,i+1,none⟩ (n - (i+1)) (c - (i+1)) _ rfl HN.out (fun j u hu=>by rw [Addr.add_mid];have:=HC.out j u hu;simpa using this) HOne.out (by omega) ?_
  intro w2 ho2 hg2;rw [show i+ (n - (i+1))=n - 1 from by omega] at ho2 ⊢;have HO2:Hid (w2.ownsRow base 9 1 (.slice (some ⟨g,0,none⟩) (n - 1) c) (n - 1) ((l.eraseIdx i).flatMap YS)):=hid (by rw [HX.out];exact ho2);have HB2:Hid (Below base w w2):=hid (Below.grown (show Below base w w.drew from br.drew) hg2 (by simp;omega) (fun k hk=>by injection hk with hk;omega))
  have HK2:Hid (ZR [9] w w2):=hid (show ZR [9] w w2 from (ZR.drew w).trans (ZR.grown (w:=w.drew) H1.out hg2 (by simp) hg2.size));have HFr:Hid (Wh w w2 (.slice (some ⟨g,0,none⟩) n c)):=hid ⟨by have:=hg2.size;simpa using this,fun k hk hn=>hg2.block k (by simpa using hk) (fun e=>hn (by rw [e];rfl))⟩
  clear ho2 hg2;refine hK _ _ trivial (fun HD=> ?_)
  clear hK K;(try simp only [pp])
  refine tk 7 0 HD ?_;refine wpAnyH_done (by kernel_rfl) ?_ _
  obtain⟨Z,hZl,hclr⟩:=Zd w2 27 9 0 (.string ⟨#[]⟩) Tryz.underlying27 (fun w=>by kernel_rfl) rfl (by decide) (by simp [Value.cells,Value.oneCell']) (size:=1) g (n - 1) 1 (c - (n - 1)) (by omega) (Zg HO2.out _ _ (by omega));have c1:((n - 1:Nat):Int)≤(n:Int):=by omega
  have c2:(n:Int)≤(c:Int):=by omega
  have c3: ¬ (c:Int)=((n - 1:Nat):Int):=by omega
  have c4: ¬ c=n - 1:=by omega
  have c5:(0:Int)≤((n - 1:Nat):Int):=by omega
  have c6:n - (n - 1)=1:=by omega
  go_wp2_with fail;go_ret;exact⟨rfl,XY HO2.out Z _ (by simp),HB2.out.trans (ZJ hgb _ _),HK2.out.trans (X4 (ZK HO2.out).2.2.1 _ _),⟨by rw [Y8];exact HFr.out.size,fun k hk hn=>(Zb w2 g (fun e=>hn (by rw [e];rfl)) _ _).trans (HFr.out.block k hk hn)⟩⟩
end Go.Proofs.YtnhmoibjlakhjaaGreat
namespace Go.Proofs.YtnhmoibjlakhjaaGreat
set_option maxRecDepth 100000
set_option maxHeartbeats 16000000
open Go.RowKit
theorem Xu {w w':World}{base:Nat}{e:TypeId}{size n:Nat}{v:Value}{xs:List Value}(h:w.ownsRow base e size v n xs)(he: ∀ k,v.ownBlock=some k→w'.heap[k]?=w.heap[k]?):w'.ownsRow base e size v n xs:=by
 refine⟨h.1,?_⟩
 rcases h.2 with h | ⟨g,cap,cur,rfl,hg,hh,rest⟩
 ·exact .inl h
 ·exact .inr ⟨g,cap,cur,rfl,hg,(he g rfl).trans hh,rest⟩
structure Yz (w w':World) (gt lo hi:Nat) (us:List TypeId) (x:Option Nat):Prop where
 size:w.heap.size≤w'.heap.size
 block: ∀ k t,Zc w k t→k≠gt→(t∈us→ ¬ (lo≤k∧k<hi))→x≠some k→w'.heap[k]?=w.heap[k]?
theorem Yz.Zp {w w':World}{gt lo hi:Nat}{us:List TypeId}{x:Option Nat}(h:Below w.heap.size w w'):Yz w w' gt lo hi us x:=⟨h.size,fun k t ht _ _ _=>h.block k ht.lt⟩
theorem Yz.trans {w w1 w2:World}{gt lo hi:Nat}{us:List TypeId}{x:Option Nat}(h:Yz w w1 gt lo hi us x)(g:Yz w1 w2 gt lo hi us x):Yz w w2 gt lo hi us x:=
 ⟨Nat.le_trans h.size g.size,fun k t ht hk hn hx=>by
  have e:=h.block k t ht hk hn hx;exact(g.block k t (ht.Tt e) hk hn hx).trans e⟩
theorem Yz.K2 {w:World}{gt lo hi c i:Nat}{us:List TypeId}(u:Value):Yz w (w.setCell ⟨c,i,none⟩ u) gt lo hi us (some c):=⟨by simp [World.setCell],fun k _ _ _ _ hx=>Below.heap_setCell w ⟨c,i,none⟩ u k (fun e=>hx (by rw [e]))⟩
theorem Yz.Zx {w:World}{gt lo hi i:Nat}{us:List TypeId}{x:Option Nat}(u:Value):Yz w (w.setCell ⟨gt,i,none⟩ u) gt lo hi us x:=⟨by simp [World.setCell],fun k _ _ hk _ _=>Below.heap_setCell w ⟨gt,i,none⟩ u k hk⟩
theorem Yz.grown {w w':World}{gt lo hi:Nat}{us:List TypeId}{x:Option Nat}{v:Value}{base size n:Nat}{e:TypeId}{xs:List Value}(h:w.ownsRow base e size v n xs)(hg:w.grownBy w' v.ownBlock)(he:e∈us)(hb: ∀ k,v.ownBlock=some k→lo≤k∧k<hi):Yz w w' gt lo hi us x:=
 ⟨hg.size,fun k t ht _ hn _=>hg.block k ht.lt fun e'=>by
  have ht':=YC h e'.symm;rw [ht.same ht'] at hn;exact hn he (hb k e'.symm)⟩
theorem Yz.keeps {w w':World}{gt lo hi:Nat}{us:List TypeId}{T:TypeId}(h:Yz w w' gt lo hi us none)(ht:Zc w gt T):ZR (T ::us) w w':=⟨h.size,fun k t hk hn=>h.block k t hk (by rintro rfl;exact hn (by rw [hk.same ht];simp)) (fun hm=>absurd (List.mem_cons_of_mem _ hm) hn) (by simp)⟩
theorem X5.IC {w w':World}{gt lo hi lo' hi':Nat}{us:List TypeId}{x:Option Nat}{t:Za}(h:X5 w lo' hi' t)(hu:Yz w w' gt lo hi us x)(hgt:Zc w gt 73)(hd:hi'≤lo∨hi≤lo')(hx: ∀ c,x=some c→c<lo'):X5 w' lo' hi' t:=by
 obtain⟨hc,MQ,⟨rs,hm,hr,ha⟩,Qy⟩:=h;have ne: ∀ k t,Zc w k t→t≠73→k≠gt:=fun k t hk hn e=>by subst e;exact hn (hk.same hgt)
 have hxk: ∀ k,lo'≤k→x≠some k:=fun k h1 e=>by have:=hx k e;omega
 have dj: ∀ k,lo'≤k→k<hi'→ ¬ (lo≤k∧k<hi):=fun k h1 h2 h3=>by omega
 refine⟨Xu hc fun k hk=>hu.block k _ (YC hc hk) (ne k _ (YC hc hk) (by decide)) (fun _=>dj k (Zu hc k hk) (MQ k hk)) (hxk k (Zu hc k hk)),MQ,⟨rs,hm,Xu hr fun k hk=>hu.block k _ (YC hr hk) (ne k _ (YC hr hk) (by decide)) (fun _=>dj k (Zu hr k hk) (Qy k hk)) (hxk k (Zu hr k hk)),fun r hr'=>⟨(ha r hr').1.Y6 (fun k hk'=> ?_) (fun p hp=>World.cell?_of_block ?_),(ha r hr').2⟩⟩,Qy⟩
 ·obtain⟨⟨h1,t,h2,cs,h3⟩,h4⟩:=hk';have e:=hu.block k t ⟨_,_,h3⟩ (ne k t ⟨_,_,h3⟩ (by rw [List.mem_singleton.1 h2];decide)) (fun _=>dj k h1 h4) (hxk k h1)
  exact⟨⟨h1,t,h2,cs,e.trans h3⟩,h4⟩
 ·obtain⟨⟨h1,t,h2,cs,h3⟩,h4⟩:=hp;exact hu.block _ t ⟨_,_,h3⟩ (ne _ t ⟨_,_,h3⟩ (by rw [List.mem_singleton.1 h2];decide)) (fun _=>dj _ h1 h4) (hxk _ h1)
def UJ (o:Ob)(i:Nat)(t:Tb):Ob:=⟨o.Z4,o.Z7.set i t⟩
theorem WH.IC {w w':World}{base gt:Nat}{o:Ob}{A0:Option Addr}{k0 k1:Nat}{ts:List Za}{b:Nat→Nat}{us:List TypeId}{x:Option Nat}{i hi':Nat}{t':Za}(h:WH w base o A0 k0 (some ⟨gt,0,none⟩) k1 ts b)(hi:i<ts.length)(hu:Yz w w' gt (b i) (b (i+1)) us x)(hus:89∉us)(hx: ∀ c,x=some c→c<base)
  (hrow:w'.ownsRow base 73 5 (.slice (some ⟨gt,0,none⟩) o.Z7.length k1) o.Z7.length ((ts.set i t').flatMap Za.cs)) (ht:X5 w' base hi' t'):PW w' (UJ o i t'.1) A0 (some ⟨gt,0,none⟩):=by
 have hgt:Zc w gt 73:=YC h.Z7 rfl;have hl:ts.length=o.Z7.length:=by rw [←h.data,List.length_map]
 refine⟨?_,?_⟩
 ·have h1:=Xu h.Z4 (w':=w') fun k hk=>hu.block k _ (YC h.Z4 hk) (fun e=>by subst e;have:=(YC h.Z4 hk).same hgt;exact absurd this (by decide)) (fun hm=>absurd hm hus) (fun e=>by have:=hx k e;have:=Zu h.Z4 k hk;omega)
  have h2:=Yk (S:=fun _=>False) (sh:=Zh) Sc.da id Sc.k h1 rfl (fun a _=>Sc.VH a);rw [List.map_id] at h2;exact h2.Y6 (fun k hk=>hk.elim (fun h=>h.elim) (fun h=>h.Sz (by simp [OT]))) (fun _ _=>rfl)
 ·have h1:=Yk (S:=Xn w' OT) (sh:=Zt) Tb.da (·.1) Za.k hrow (by rw [List.length_set,hl]) (fun a ha=>by
   obtain⟨j,hj,rfl⟩:=List.getElem_of_mem ha;rw [List.getElem_set];split
   ·exact ZH.Y6 (fun k hk=>hk.Sz (by simp [OT])) (fun _ _=>rfl) _ _ _ ht.VH
   ·rename_i hne;have hj':j<ts.length:=by simpa using hj
    have h3:=(h.tab j hj').2.IC hu hgt (by
     rcases Nat.lt_or_gt_of_ne hne with h4 | h4
     ·exact Or.inr (h.Ur j (i+1) (by omega) (by omega))
     ·exact Or.inl (h.Ur i (j+1) (by omega) (by omega))) (fun c hc=>by have:=hx c hc;have:=h.low;have:=h.Ur j 0 (Nat.zero_le _) (by omega);omega)
    exact ZH.Y6 (fun k hk=>hk.Sz (by simp [OT])) (fun _ _=>rfl) _ _ _ h3.VH)
  have e:(ts.set i t').map (·.1)=(UJ o i t'.1).Z7:=by
   show _=o.Z7.set i t'.1
   rw [List.map_set,h.data]
  rw [e] at h1;exact h1.Y6 (fun k hk=>hk.elim id (fun h=>h.Sz (by simp [OT]))) (fun _ _=>rfl)
theorem UL {w:World}{base gt n k1 i f:Nat}{ts:List Za}(h:w.ownsRow base 73 5 (.slice (some ⟨gt,0,none⟩) n k1) n (ts.flatMap Za.cs))(hi:i<ts.length)(hf:f<5)(u:Value)(t':Za)(ht:Za.cs t'=(Za.cs ts[i]).set f u):
  (w.setCell ⟨gt,i*5+f,none⟩ u).ownsRow base 73 5 (.slice (some ⟨gt,0,none⟩) n k1) n ((ts.set i t').flatMap Za.cs):=by
 have hl:i*5+f< (ts.flatMap Za.cs).length:=by rw [Zq Za.k];omega
 have h2:=XU h hl u;rwa [Yf Za.k ts i f hi hf u t' ht] at h2
theorem Xg {w:World}{base gt n k1 i:Nat}{ts:List Za}(h:w.ownsRow base 73 5 (.slice (some ⟨gt,0,none⟩) n k1) n (ts.flatMap Za.cs))(hi:i<ts.length)(f:Nat)(hf:f<5)(u:Value)(hu:(Za.cs ts[i])[f]?=some u):w.cell? ⟨gt,i*5+f,none⟩=some u:=
 (ZK h).2.2.2.2 _ _ (by rw [Zj Za.k ts i f hi hf];exact hu)
end Go.Proofs.YtnhmoibjlakhjaaGreat
namespace Go.Proofs.YtnhmoibjlakhjaaGreat
open Lib (hid)
set_option maxRecDepth 100000
set_option maxHeartbeats 16000000
open Go.RowKit
section
variable {w w' : World} {base gt p i hi' : Nat} {o : Ob} {B0 : Option Addr} {l0 l1 : Nat} {ts : List Za} {b : Nat → Nat} {us : List TypeId} {t' : Za} {R : Int → Ob → Prop} {xx : Option Nat}
theorem VE (hin:WH w base o B0 l0 (some ⟨gt,0,none⟩) l1 ts b)(hi:i<ts.length)(hp:ZP w p 26 [.slice B0 o.Z4.length l0,.slice (some ⟨gt,0,none⟩) o.Z7.length l1])(hu:Yz w w' gt (b i) (b (i+1)) us xx)(hus:89∉us)(hus2:26∉us)(hxx: ∀ c,xx=some c→c<base)(hpb:base≤p)
  (hrow:w'.ownsRow base 73 5 (.slice (some ⟨gt,0,none⟩) o.Z7.length l1) o.Z7.length ((ts.set i t').flatMap Za.cs)) (ht:X5 w' base hi' t') (hb:Zf base xx w w') (hR:R 0 (UJ o i t'.1)):WT xx w base p gt B0 l0 l1 o R (.returned (.int .i64 0)) w':=by
 have hgt:Zc w gt 73:=YC hin.Z7 rfl;exact⟨0,UJ o i t'.1,rfl,hR,rfl,by simp [UJ],(hu.block p _ hp.Xr (fun e=>by subst e;exact absurd (hp.Xr.same hgt) (by decide)) (fun hm=>absurd hm hus2) (fun e=>by have:=hxx _ e;omega)).trans hp,hin.IC hi hu hus hxx hrow ht,hb⟩
theorem TI {er:Int}(hin:WH w base o B0 l0 (some ⟨gt,0,none⟩) l1 ts b)(hbz:base≤w.heap.size)(hp:ZP w p 26 [.slice B0 o.Z4.length l0,.slice (some ⟨gt,0,none⟩) o.Z7.length l1])(hb:Below w.heap.size w w')(hR:R er o):WT xx w base p gt B0 l0 l1 o R (.returned (.int .i64 er)) w':=
 ⟨er,o,rfl,hR,rfl,rfl,hp.below hb hp.lt,hin.t.keeps (ZR.Zp (ts:= []) hb lr) (by simp),(hb.mono hbz).x _⟩
end
def Ip (o:Ob)(P:Prop)(f:Ob)(er:Int)(o':Ob):Prop:=(er≠0∧o'=o)∨(er=0∧P∧o'=f)
def Wj (o:Ob)(ow:List UInt8)(i:Nat)(er:Int)(o':Ob):Prop:=er=0∧ ∃ hi:i<o.Z7.length,o'=UJ o i { o.Z7[i] with ZL:=ow}
theorem QN (o:Ob)(s n ow:List UInt8)(c2:Nat)(w0:World)(h:ZP w0 c2 9 [.string (Z9 ow)]):Ss none 177 #[.pointer (some ⟨c2,0,none⟩)] o w0 s n (Wj o ow):=by
 intro w base p gt i B0 l0 l1 ts b hbase hw0 hin hbd hp hpb hck hta hi;have hts:ts.length=o.Z7.length:=by rw [←hin.data,List.length_map]
 have hi':i<ts.length:=by omega
 have hti:ts[i].1=o.Z7[i]:=by
  have:=hin.data;rw [←List.getElem_map (f:=fun x:Za=>x.1) (h:=by simpa using hi')];simp only [this]
 have hTab:=(hin.tab i hi').2;have hbz:base≤w.heap.size:=by
  have:=hin.low;have:=hbd 0 (Nat.zero_le _);omega
 have hgt:Zc w gt 73:=YC hin.Z7 rfl;have hgb:=(ZK hin.Z7).1;have hgl:=(ZK hin.Z7).2.1;have hgf:=(ZK hin.Z7).2.2.2.1;have hlob:base≤b i:=Nat.le_trans hin.low (hin.Ur i 0 (Nat.zero_le _) (by omega));have hhib:b (i+1)≤w.heap.size:=hbd (i+1) (by omega);have hb0:Below w.heap.size w (w.alloc (.cells #[.slice B0 o.Z4.length l0,.slice (some ⟨gt,0,none⟩) o.Z7.length l1] 26)):=br.alloc lr _;have a0:(w.alloc (.cells #[.slice B0 o.Z4.length l0,.slice (some ⟨gt,0,none⟩) o.Z7.length l1] 26)).cell? ⟨c2,0,none⟩=some (.string (Z9 ow)):=((h.below hw0 h.lt).alloc _).cell 0;have a1:(w.alloc (.cells #[.slice B0 o.Z4.length l0,.slice (some ⟨gt,0,none⟩) o.Z7.length l1] 26)).cell? ⟨gt,i*5+2,none⟩=some (.string (Z9 ts[i].1.ZL)):=(hb0.cell (p:=⟨gt,i*5+2,none⟩) hgl).trans (Xg hin.Z7 hi' 2 (by omega) _ rfl);have f1:(w.alloc (.cells #[.slice B0 o.Z4.length l0,.slice (some ⟨gt,0,none⟩) o.Z7.length l1] 26)).frozen? ⟨gt,i*5+2,none⟩=false:=(hb0.frozen (p:=⟨gt,i*5+2,none⟩) hgl).trans (hgf _);have hc2:=h.lt;have hwz:=hw0.size;have HF:Hid (∀ W,W=(w.setCell ⟨gt,i*5+2,none⟩ (.string (Z9 ow))).alloc (.cells #[.slice B0 o.Z4.length l0,.slice (some ⟨gt,0,none⟩) o.Z7.length l1] 26)→WT none w base p gt B0 l0 l1 o (Wj o ow i) (.returned (.int .i64 0)) W):=hid (by
  rintro W rfl;have hb1:Below (w.setCell ⟨gt,i*5+2,none⟩ (.string (Z9 ow))).heap.size (w.setCell ⟨gt,i*5+2,none⟩ (.string (Z9 ow))) ((w.setCell ⟨gt,i*5+2,none⟩ (.string (Z9 ow))).alloc (.cells #[.slice B0 o.Z4.length l0,.slice (some ⟨gt,0,none⟩) o.Z7.length l1] 26)):=br.alloc lr _;have hu:Yz w ((w.setCell ⟨gt,i*5+2,none⟩ (.string (Z9 ow))).alloc (.cells #[.slice B0 o.Z4.length l0,.slice (some ⟨gt,0,none⟩) o.Z7.length l1] 26)) gt (b i) (b (i+1)) [] none:=(Yz.Zx _).trans (Yz.Zp hb1);refine VE (t':=({ ts[i].1 with ZL:=ow},ts[i].2)) (hi':=b (i+1)) hin hi' hp hu (by simp) (by simp) (by simp) hpb ((UL hin.Z7 hi' (by omega) _ _ rfl).Zw hb1) ?_ (((br.setCell hgb _).trans (hb1.mono (by simp [World.setCell];omega))).x _) ⟨rfl,hi,by rw [hti]⟩
  obtain⟨hc,MQ,hr,Qy⟩:=hTab.keeps (hu.keeps hgt) (by decide) (by decide) (by decide);exact X5.mono ⟨hc,MQ,hr,Qy⟩ hlob lr)
 clear hin hbd hp hTab hgt hgf hck hw0 h hta hti;go_enter Tryz.func177,Tryz.ntmps177
 go_wp2;go_ret;exact HF.out _ rfl
theorem Rk {w W:World}{lo hi base:Nat}{us:List TypeId}{t:Tb}{X Y A':Option Addr}{x y c':Nat}{cols':List Cl}(h:X5 w lo hi (t,X,x,Y,y))(hk:ZR us w W)(h1:40∉us)(h2:9∉us)(hlo:base≤lo)
  (hc:W.ownsRow base 119 3 (.slice A' cols'.length c') cols'.length (cols'.flatMap Cl.cs)):X5 W base W.heap.size ({ t with ZX:=cols'},A',c',Y,y):=by
 obtain⟨_,_,⟨rs,hm,hr,ha⟩,Qy⟩:=h;have hd: ∀ t,t∈ [9]→t∉us:=fun t ht=>by rw [List.mem_singleton.1 ht];exact h2
 have hr':=(hr.Yn hlo).keeps hk h1;exact⟨hc,fun k hk=>XQ hc hk,⟨rs,hm,hr',fun r hr2=>⟨(ha r hr2).1.Y6 (fun k hk2=>⟨((hk2.1.keeps hk hd).1).mono hlo (fun _ h=>h),((hk2.1.keeps hk hd).1).lt⟩) (fun _ hp=>World.cell?_of_block (hp.1.keeps hk hd).2),(ha r hr2).2⟩⟩,fun k hk=>XQ hr' hk⟩
theorem UN {w W:World}{lo hi base:Nat}{us:List TypeId}{t:Tb}{X Y A':Option Addr}{x y c':Nat}{rules':List Ru}(h:X5 w lo hi (t,X,x,Y,y))(hk:ZR us w W)(h1:119∉us)(hlo:base≤lo)
  (hc: ∃ rs:List Yv,rs.map (·.1)=rules'∧W.ownsRow base 40 8 (.slice A' rules'.length c') rules'.length (rs.flatMap Yv.cs)∧ ∀ r∈rs,ZV W (Nw W base [9]) [.Z9] (YU r.1.ZX) r.2.1∧QJ r.1):X5 W base W.heap.size ({ t with ZS:=rules'},X,x,A',c'):=by
 obtain⟨hcc,_,_,_⟩:=h;obtain⟨rs,hm,hr,ha⟩:=hc;have hc':=(hcc.Yn hlo).keeps hk h1;exact⟨hc',fun k hk=>XQ hc' hk,⟨rs,hm,hr,fun r hr2=>⟨(ha r hr2).1.Y6 (fun k hk2=>⟨hk2,hk2.lt⟩) (fun _ _=>rfl),(ha r hr2).2⟩⟩,fun k hk=>XQ hr hk⟩
def Vr (o:Ob)(c:Cl)(i:Nat)(er:Int)(o':Ob):Prop:=(er≠0∧o'=o)∨(er=0∧ ∃ hi:i<o.Z7.length,Vi c=true∧c.null=true∧XJ o.Z7[i].ZX c.name=none∧o.Z7[i].ZX.length<8∧o'=UJ o i { o.Z7[i] with ZX:=o.Z7[i].ZX ++ [c]})
theorem Pe (o:Ob)(s n:List UInt8)(c:Cl)(c2:Nat)(w0:World)(ho:o.Zv 1099511627776)(h:ZP w0 c2 119 [.string (Z9 c.name),.int .i64 c.ZQ,.bool c.null]):Ss none 201 #[.pointer (some ⟨c2,0,none⟩)] o w0 s n (Vr o c):=by
 intro w base p gt i B0 l0 l1 ts b hbase hw0 hin hbd hp hpb hck hta hi;have hts:ts.length=o.Z7.length:=by rw [←hin.data,List.length_map]
 have hi':i<ts.length:=by omega
 have hti:ts[i].1=o.Z7[i]:=by
  have:=hin.data;rw [←List.getElem_map (f:=fun x:Za=>x.1) (h:=by simpa using hi')];simp only [this]
 have hTab:=(hin.tab i hi').2;have hbz:base≤w.heap.size:=by
  have:=hin.low;have:=hbd 0 (Nat.zero_le _);omega
 have hgt:Zc w gt 73:=YC hin.Z7 rfl;have hgb:=(ZK hin.Z7).1;have hgl:=(ZK hin.Z7).2.1;have hgf:=(ZK hin.Z7).2.2.2.1;have hlob:base≤b i:=Nat.le_trans hin.low (hin.Ur i 0 (Nat.zero_le _) (by omega));have hhib:b (i+1)≤w.heap.size:=hbd (i+1) (by omega);have hgc:=fun f hf u hu=>Xg hin.Z7 hi' f hf u hu
 have hput:=fun(W:World) (h:W.ownsRow base 73 5 (.slice (some ⟨gt,0,none⟩) o.Z7.length l1) o.Z7.length (ts.flatMap Za.cs)) f hf u t' ht=>UL h hi' (f:=f) hf u t' ht
 have HOt:=hid (ho.2.2 o.Z7[i] (List.getElem_mem hi));generalize hT:ts[i]=T at*;obtain⟨t,X,x,Y,y⟩:=T;dsimp only at hti;rw [←hti] at HOt;have HIn:=hid hin;have HTab:=hid hTab;have HP:=hid hp;have HGt:=hid hgt;have HGf:=hid hgf;have HW0:=hid hw0;have HPut:=hid hput;have HT:=hid hT;have HTi:=hid hti;have HBd:=hid hbd;have hwz:=hw0.size;have hpl:=hp.lt;have HC:=hid (h.below hw0 h.lt);have hc2:=h.lt;have HNo:Hid (∀ er W,er≠0→Below w.heap.size w W→WT none w base p gt B0 l0 l1 o (Vr o c i) (.returned (.int .i64 er)) W):=hid fun er W h1 h2=>TI HIn.out hbz HP.out h2 (Or.inl ⟨h1,rfl⟩)
 have hg3:=hgc 3 (by omega) (.slice X t.ZX.length x) rfl;clear hin hTab hp hgt hgf hw0 hput hT hbd hck hta hti h hgc ho;go_enter Tryz.func201,Tryz.ntmps201
 go_upto_region 1 with fail
 refine Uv _ fun W hW=> ?_
 have HB1:=bP hW;clear hW;have C1:=hid (HC.out.below HB1.out (by omega));have d0:=ce C1 0;have d1:=ce C1 1;have d2:=ce C1 2;have HRr:Hid (∀ o',Vi c=true→c.null=true→XJ o.Z7[i].ZX c.name=none→o.Z7[i].ZX.length<8→o'=UJ o i { o.Z7[i] with ZX:=o.Z7[i].ZX ++ [c]} →Vr o c i 0 o'):=hid fun o' h1 h2 h3 h4 h5=>Or.inr ⟨rfl,hi,h1,h2,h3,h4,h5⟩
 go_wp2_with fail;refine(Uk c W).mono ?_
 rintro e W2 ⟨rfl,hb⟩;have HB2:=bt HB1 hb;have C2:=bl C1 hb;clear hb d0 d1 d2 HB1 C1
 cases hm:Vi c
 ·go_wp2;go_ret;exact HNo.out 63 _ (by decide) HB2.out
 have d2:=ce C2 2
 cases hnu:c.null
 ·rw [hnu] at d2;go_wp2;go_ret;exact HNo.out 63 _ (by decide) HB2.out
 rw [hnu] at d2;have HM:=hid hm;have HNu:=hid hnu;have d0:=ce C2 0;have d1:=ce C2 1;have d3:W2.cell? ⟨gt,i*5+3,none⟩=some (.slice X t.ZX.length x):=ct hg3 HB2.out hgl;have hz2:=HB2.out.size;have hW0:Below w.heap.size w W2.drew:=HB2.out.drew;have hkeep:Hid (∀ w1 w2,(fun w'=>Below w.heap.size w w'∧w'.cell? ⟨gt,i*5+3,none⟩=some (.slice X t.ZX.length x)∧w'.cell? ⟨c2,0,none⟩=some (.string (Z9 c.name))∧w'.cell? ⟨c2,1,none⟩=some (.int .i64 c.ZQ)∧w'.cell? ⟨c2,2,none⟩=some (.bool true)) w1→Below w1.heap.size w1 w2→(fun w'=>Below w.heap.size w w'∧w'.cell? ⟨gt,i*5+3,none⟩=some (.slice X t.ZX.length x)∧w'.cell? ⟨c2,0,none⟩=some (.string (Z9 c.name))∧w'.cell? ⟨c2,1,none⟩=some (.int .i64 c.ZQ)∧w'.cell? ⟨c2,2,none⟩=some (.bool true)) w2):=hid (by
  intro w1 w2 ⟨h1,h2,h3,h4,h5⟩ h6;exact⟨h1.trans (h6.mono h1.size),(h6.cell (World.block_lt_of_cell? w1 _ h2)).trans h2,(h6.cell (World.block_lt_of_cell? w1 _ h3)).trans h3,(h6.cell (World.block_lt_of_cell? w1 _ h4)).trans h4,(h6.cell (World.block_lt_of_cell? w1 _ h5)).trans h5⟩)
 have HBy:Hid (∀ W,Below w.heap.size w W→Calls Tryz.prog 203 #[.slice X t.ZX.length x,.string (Z9 c.name),.func (.func 204) #[] #[]] W fun e w'=>e= .returned (.int .i64 (Xe (XJ t.ZX c.name)))∧Below W.heap.size W w'):=hid (by
  intro W hW;have cB:=XH (t.ZX.map Cl.da) X x c.name W (HTab.out.rows.1.later hW) (by simpa using HOt.out.1);rwa [List.length_map,Xz] at cB)
 have hm':=hm;clear hm hnu;go_wp2_with fail;go_region_held_law (fun w'=>Below w.heap.size w w'∧w'.cell? ⟨gt,i*5+3,none⟩=some (.slice X t.ZX.length x)∧w'.cell? ⟨c2,0,none⟩=some (.string (Z9 c.name))∧w'.cell? ⟨c2,1,none⟩=some (.int .i64 c.ZQ)∧w'.cell? ⟨c2,2,none⟩=some (.bool true))
  (first | exact hkeep.out _ _ (by assumption) (by assumption) | exact⟨hW0,d3,d0,d1,d2⟩)
  (first | (go_at_call 203;refine(HBy.out _ (by first | exact hW0 | assumption)).mono ?_;rintro e w' ⟨rfl,hb⟩))
 rename_i hS;have HB3:=hid hS.1;have e3:=hS.2.1;clear hS hkeep HB2 C2
 cases hcol:XJ t.ZX c.name with
 | some k=>
  have hk:(0:Int)≤(k:Int):=by omega
  rw [show Xe (some k)=(k:Int) from rfl];go_wp2;go_ret;exact HNo.out 60 _ (by decide) HB3.out
 | none=>
  rw [show Xe (none:Option Nat)= -1 from rfl];by_cases h8:8≤t.ZX.length
  ·have h8':(t.ZX.length:Int)≥8:=by omega
   have h8'':(8:Int)≤(t.ZX.length:Int):=by omega
   go_wp2;go_ret;exact HNo.out 2 _ (by decide) HB3.out
  have h8': ¬ (t.ZX.length:Int)≥8:=by omega
  have h8'': ¬ (8:Int)≤(t.ZX.length:Int):=by omega
  go_wp2_with fail;have q3:w'.drew.cell? ⟨gt,i*5+3,none⟩=some (.slice X t.ZX.length x):=e3;have hB4:Below w.heap.size w w'.drew:=HB3.out.drew;have C4:=hid (HC.out.below hB4 (by omega));rw [HNu.out] at C4;have hGz:gt<w'.heap.size:=Nat.lt_of_lt_of_le hgl HB3.out.size;have hkp:Hid (∀ w1 w2,(fun w'=>w'.cell? ⟨gt,i*5+3,none⟩=some (.slice X t.ZX.length x)∧w'.cell? ⟨c2,0,none⟩=some (.string (Z9 c.name))∧w'.cell? ⟨c2,1,none⟩=some (.int .i64 c.ZQ)∧w'.cell? ⟨c2,2,none⟩=some (.bool true)) w1→Below w1.heap.size w1 w2→(fun w'=>w'.cell? ⟨gt,i*5+3,none⟩=some (.slice X t.ZX.length x)∧w'.cell? ⟨c2,0,none⟩=some (.string (Z9 c.name))∧w'.cell? ⟨c2,1,none⟩=some (.int .i64 c.ZQ)∧w'.cell? ⟨c2,2,none⟩=some (.bool true)) w2):=hid (by
   intro w1 w2 ⟨h2,h3,h4,h5⟩ h6;exact⟨(h6.cell (World.block_lt_of_cell? w1 _ h2)).trans h2,(h6.cell (World.block_lt_of_cell? w1 _ h3)).trans h3,(h6.cell (World.block_lt_of_cell? w1 _ h4)).trans h4,(h6.cell (World.block_lt_of_cell? w1 _ h5)).trans h5⟩)
  refine YB 10 (S:=fun w'=>w'.cell? ⟨gt,i*5+3,none⟩=some (.slice X t.ZX.length x)∧w'.cell? ⟨c2,0,none⟩=some (.string (Z9 c.name))∧w'.cell? ⟨c2,1,none⟩=some (.int .i64 c.ZQ)∧w'.cell? ⟨c2,2,none⟩=some (.bool true)) (by kernel_rfl) ⟨q3,C4.out.cell 0,C4.out.cell 1,C4.out.cell 2⟩ (fun HD'=> ?_)
  (try simp only [pp]);refine Xk 0 31 HD' ?_;refine Xk 1 32 HD' ?_;refine Xk 2 33 HD' ?_;refine Xk 3 34 HD' ?_;refine Xk 4 35 HD' ?_;refine Xk 5 36 HD' ?_;refine Vd 6 37 fun K hK=> ?_
  go_simp;refine JC _ fun w6 h6=> ?_
  have HB56:Hid (Below w'.drew.heap.size w'.drew w6):=hid (by rw [h6];exact br.alloc lr _);have N6:Hid (ZP w6 w'.heap.size 119 [.string (Z9 c.name),.int .i64 c.ZQ,.bool true]):=hid (by rw [h6];exact ZP.new w'.drew _ _);clear h6;have HB6:Hid (Below w.heap.size w w6):=hid (hB4.trans (HB56.out.mono hB4.size));have HD':=hkp.out _ _ HD' HB56.out;refine hK.out _ _ HD' ?_
  clear hK K;(try simp only [pp])
  refine Vd 7 38 fun K hK=> ?_
  have O6:=hid ((HTab.out.ZX.Yn hlob).Zw HB6.out);obtain⟨i0,hi0,hz0,hz1,hz2⟩:=info_parts UZ;have hs6:=HB6.out.size;refine Uz rfl _ _ _ rfl base 119 i0 _ 3 32 Tryz.underlying37 hi0 hz0 hz1 hz2 rfl (by decide) (.slice X t.ZX.length x) t.ZX.length _ rfl O6.out ⟨w'.heap.size,0,none⟩ 1 1 [.string (Z9 c.name),.int .i64 c.ZQ,.bool true] rfl rfl (ZP.news N6.out) (by simp [Value.oneCell']) (by unfold maxLen;omega) (by omega) (by omega) ?_
  intro A7 c7 w7 HO7 hg7;have hu6:Yz w w6 gt (b i) (b (i+1)) [119] none:=Yz.Zp HB6.out;have hu67:Yz w6 w7 gt (b i) (b (i+1)) [119] none:=Yz.grown ((HTab.out.ZX).Zw HB6.out) hg7.out (by simp) (fun k hk=>⟨Zu HTab.out.ZX k hk,HTab.out.MQ k hk⟩);have HU7:=hid (hu6.trans hu67);have hK7:ZR [119] w6 w7:=ZR.grown O6.out hg7.out (by simp) hg7.out.size;have HTr7:=hid ((HIn.out.Z7.Zw HB6.out).keeps hK7 (by decide));have HB7:Hid (Below base w w7):=hid ((HB6.out.mono hbz).grown hg7.out (by omega) (Zu O6.out));have hs7:=hg7.out.size;have hne: ∀ k,(Value.slice X t.ZX.length x).ownBlock=some k→Zc w6 k 119:=fun k hk=>YC O6.out hk
  have hgt6:Zc w6 gt 73:=HGt.out.Tt (HB6.out.block gt hgl);have e7:w7.cell? ⟨gt,i*5+3,none⟩=some (.slice X t.ZX.length x):=(World.cell?_of_block (w:=w6) (hK7.block gt _ hgt6 (by decide))).trans HD'.1;have f7:w7.frozen? ⟨gt,i*5+3,none⟩=false:=(World.frozen?_of_block (w:=w6) (hK7.block gt _ hgt6 (by decide))).trans ((HB6.out.frozen (p:=⟨gt,i*5+3,none⟩) hgl).trans (HGf.out _));have hc7: ∀ f u,w6.cell? ⟨c2,f,none⟩=some u→w7.cell? ⟨c2,f,none⟩=some u:=fun f u hu=>by
   have h8:w7.cell? ⟨c2,f,none⟩=w.cell? ⟨c2,f,none⟩:=HB7.out.cell (p:=⟨c2,f,none⟩) (by show c2<base;omega);have h9:w6.cell? ⟨c2,f,none⟩=w.cell? ⟨c2,f,none⟩:=HB6.out.cell (p:=⟨c2,f,none⟩) (by show c2<w.heap.size;omega)
   rw [h8,←h9];exact hu
  have HF:Hid (∀ W,W=w7.setCell ⟨gt,i*5+3,none⟩ (.slice A7 (t.ZX.length+1) c7)→WT none w base p gt B0 l0 l1 o (Vr o c i) (.returned (.int .i64 0)) W):=hid (by
   rintro W rfl;have hK8:ZR [73] w7 (w7.setCell ⟨gt,i*5+3,none⟩ (.slice A7 (t.ZX.length+1) c7)):=ZR.Zx (hgt6.Tt (hK7.block gt _ hgt6 (by decide))) (by simp) _;have hKW:ZR [119,73] w (w7.setCell ⟨gt,i*5+3,none⟩ (.slice A7 (t.ZX.length+1) c7)):=((ZR.Zp HB6.out lr).trans (hK7.Ya (by simp))).trans (hK8.Ya (by simp));have hcl:(w7.setCell ⟨gt,i*5+3,none⟩ (.slice A7 (t.ZX.length+1) c7)).ownsRow base 119 3 (.slice A7 (t.ZX ++ [c]).length c7) (t.ZX ++ [c]).length ((t.ZX ++ [c]).flatMap Cl.cs):=by
    have h1:=HO7.out.keeps hK8 (by decide);rw [List.length_append,List.flatMap_append];simpa [Cl.cs,HNu.out] using h1
   refine VE (us:= [119]) (t':=({ t with ZX:=t.ZX ++ [c]},A7,c7,Y,y)) HIn.out hi' HP.out (HU7.out.trans (Yz.Zx _)) (by decide) (by decide) (by simp) hpb (HPut.out w7 HTr7.out 3 (by omega) _ _ (by simp [Za.cs,Tb.cs])) (Rk HTab.out hKW (by decide) (by decide) hlob hcl) ((HB7.out.setCell hgb _).x _) (HRr.out _ HM.out HNu.out (by rw [←HTi.out];exact hcol) (by rw [←HTi.out];omega) (by rw [←HTi.out])))
  have HD':=(show (fun w'=>w'.cell? ⟨gt,i*5+3,none⟩=some (.slice X t.ZX.length x)∧w'.cell? ⟨c2,0,none⟩=some (.string (Z9 c.name))∧w'.cell? ⟨c2,1,none⟩=some (.int .i64 c.ZQ)∧w'.cell? ⟨c2,2,none⟩=some (.bool true)) w7 from ⟨e7,hc7 _ _ HD'.2.1,hc7 _ _ HD'.2.2.1,hc7 _ _ HD'.2.2.2⟩)
  refine hK.out _ _ HD' ?_
  clear hK K;(try simp only [pp])
  refine Vd 8 39 fun K hK=> ?_
  go_simp;refine hK.out _ _ HD' ?_
  clear hK K;(try simp only [pp])
  refine Vd 9 40 fun K hK=> ?_
  go_simp;refine hK.out _ _ HD' ?_
  clear hK K;(try simp only [pp])
  refine YI.Xo (i:=10) (o:=⟨none,_,_,_,_,_⟩) (by kernel_rfl) rfl rfl (fun K hK=> ?_)
  go_simp;refine hK.out _ _ (YI.done (by kernel_rfl) ?_ _);clear hK K;go_wp2;go_ret;exact HF.out _ rfl
theorem Yz.Wx {w w':World}{gt lo hi:Nat}{us:List TypeId}{x:Option Nat}{v:Value}{base size n:Nat}{e:TypeId}{xs:List Value}(h:w.ownsRow base e size v n xs)(hf:Wh w w' v)(he:e∈us)(hb: ∀ k,v.ownBlock=some k→lo≤k∧k<hi):Yz w w' gt lo hi us x:=
 ⟨hf.size,fun k t ht _ hn _=>hf.block k ht.lt fun e'=>by
  have ht':=YC h e';rw [ht.same ht'] at hn;exact hn he (hb k e')⟩
def ID (d:List Da)(i:Nat):List (List UInt8):=match d[i]? with
 | some (.rows l)=>l.map fun e=>tx e 0
 | _=> []
theorem Og (r:Ru):ID r.da 2=r.ZX:=by
 show (YU r.ZX).map (fun e=>tx e 0)=r.ZX
 unfold YU;rw [List.map_map];exact List.map_id' _
theorem PG (r:Ru)(A:Option Addr)(n:Nat)(nm:List UInt8)(q:Nat)(w:World)(hq:ZP w q 9 [.string (Z9 nm)])(hA:ZV w (· < w.heap.size) [.Z9] (YU r.ZX) A)(hr:r.ZX.length≤1099511627776):
  Calls Tryz.prog 207 #[.agg (r.cs A n).toArray,.pointer (some ⟨q,0,none⟩)] w fun e w'=>e= .returned (.bool (r.ZX.contains nm))∧Below w.heap.size w w':=by
 have HA:=hid hA;have HQ:=hid hq;have hql:=hq.lt;have cC:=fun W h=>Zn r.ZX A n nm W h hr
 clear hA hq;unfold Ru.cs;generalize r.ZX.contains nm=bb at*;have q0:(w.alloc (.cells #[.string (Z9 r.name),.int .i64 r.ZQ,.slice A r.ZX.length n,.int .i64 r.low,.int .i64 r.ZF,.string (Z9 r.Z8),.string (Z9 r.ZY),.string (Z9 r.key)] 40)).cell? ⟨q,0,none⟩=some (.string (Z9 nm)):=(HQ.out.alloc _).cell 0;go_enter Tryz.func207,Tryz.ntmps207
 go_wp2_with fail;refine(cC _ (HA.out.later (br.alloc lr _))).mono ?_
 rintro e w2 ⟨rfl,rfl⟩;go_wp2;go_ret;exact⟨rfl,br.alloc lr _⟩
def Wc (o:Ob)(nm:List UInt8)(i:Nat)(er:Int)(o':Ob):Prop:=(er≠0∧o'=o)∨(er=0∧ ∃ hi:i<o.Z7.length,∃ k,XJ o.Z7[i].ZX nm=some k∧o.Z7[i].ZX.length≠1∧(∀ r∈o.Z7[i].ZS,r.ZX.contains nm=false)∧o'=UJ o i { o.Z7[i] with ZX:=o.Z7[i].ZX.eraseIdx k})
theorem PH (o:Ob)(s n nm:List UInt8)(c2:Nat)(w0:World)(ho:o.Zv 1099511627776)(h:ZP w0 c2 9 [.string (Z9 nm)]):Ss none 205 #[.pointer (some ⟨c2,0,none⟩)] o w0 s n (Wc o nm):=by
 intro w base p gt i B0 l0 l1 ts b hbase hw0 hin hbd hp hpb hck hta hi;have hts:ts.length=o.Z7.length:=by rw [←hin.data,List.length_map]
 have hi':i<ts.length:=by omega
 have hti:ts[i].1=o.Z7[i]:=by
  have:=hin.data;rw [←List.getElem_map (f:=fun x:Za=>x.1) (h:=by simpa using hi')];simp only [this]
 have hTab:=(hin.tab i hi').2;have hbz:base≤w.heap.size:=by
  have:=hin.low;have:=hbd 0 (Nat.zero_le _);omega
 have hgt:Zc w gt 73:=YC hin.Z7 rfl;have hgb:=(ZK hin.Z7).1;have hgl:=(ZK hin.Z7).2.1;have hgf:=(ZK hin.Z7).2.2.2.1;have hlob:base≤b i:=Nat.le_trans hin.low (hin.Ur i 0 (Nat.zero_le _) (by omega));have hhib:b (i+1)≤w.heap.size:=hbd (i+1) (by omega);have hgc:=fun f hf u hu=>Xg hin.Z7 hi' f hf u hu
 have hput:=fun(W:World) (h:W.ownsRow base 73 5 (.slice (some ⟨gt,0,none⟩) o.Z7.length l1) o.Z7.length (ts.flatMap Za.cs)) f hf u t' ht=>UL h hi' (f:=f) hf u t' ht
 have HOt:=hid (ho.2.2 o.Z7[i] (List.getElem_mem hi));generalize hT:ts[i]=T at*;obtain⟨t,X,x,Y,y⟩:=T;dsimp only at hti;rw [←hti] at HOt;have HIn:=hid hin;have HTab:=hid hTab;have HP:=hid hp;have HGt:=hid hgt;have HGf:=hid hgf;have HW0:=hid hw0;have HPut:=hid hput;have HT:=hid hT;have HTi:=hid hti;have HBd:=hid hbd;have hwz:=hw0.size;have hpl:=hp.lt;have HC:=hid (h.below hw0 h.lt);have hc2:=h.lt;have HNo:Hid (∀ er W,er≠0→Below w.heap.size w W→WT none w base p gt B0 l0 l1 o (Wc o nm i) (.returned (.int .i64 er)) W):=hid fun er W h1 h2=>TI HIn.out hbz HP.out h2 (Or.inl ⟨h1,rfl⟩)
 have hg3:=hgc 3 (by omega) (.slice X t.ZX.length x) rfl;have hg4:=hgc 4 (by omega) (.slice Y t.ZS.length y) rfl;have HRr:Hid (∀ o' k,XJ o.Z7[i].ZX nm=some k→o.Z7[i].ZX.length≠1→(∀ r∈o.Z7[i].ZS,r.ZX.contains nm=false)→o'=UJ o i { o.Z7[i] with ZX:=o.Z7[i].ZX.eraseIdx k} →Wc o nm i 0 o'):=hid fun o' k h1 h2 h3 h4=>Or.inr ⟨rfl,hi,k,h1,h2,h3,h4⟩
 clear hin hTab hp hgt hgf hw0 hput hT hbd hck hta hti h hgc ho;go_enter Tryz.func205,Tryz.ntmps205
 go_upto_region 1 with fail
 refine Uv _ fun W hW=> ?_
 have HB1:=bP hW;clear hW;have d0:=cd (HC.out.below HB1.out (by omega)) 0;have d3:W.cell? ⟨gt,i*5+3,none⟩=some (.slice X t.ZX.length x):=ct hg3 HB1.out hgl;have hz2:=HB1.out.size;have hW0:Below w.heap.size w W.drew:=HB1.out.drew;have hkeep:Hid (∀ w1 w2,(fun w'=>Below w.heap.size w w'∧w'.cell? ⟨gt,i*5+3,none⟩=some (.slice X t.ZX.length x)∧w'.cell? ⟨c2,0,none⟩=some (.string (Z9 nm))) w1→Below w1.heap.size w1 w2→(fun w'=>Below w.heap.size w w'∧w'.cell? ⟨gt,i*5+3,none⟩=some (.slice X t.ZX.length x)∧w'.cell? ⟨c2,0,none⟩=some (.string (Z9 nm))) w2):=hid (by
  intro w1 w2 ⟨h1,h2,h3⟩ h6;exact⟨h1.trans (h6.mono h1.size),(h6.cell (World.block_lt_of_cell? w1 _ h2)).trans h2,(h6.cell (World.block_lt_of_cell? w1 _ h3)).trans h3⟩)
 have HBy:Hid (∀ W,Below w.heap.size w W→Calls Tryz.prog 203 #[.slice X t.ZX.length x,.string (Z9 nm),.func (.func 204) #[] #[]] W fun e w'=>e= .returned (.int .i64 (Xe (XJ t.ZX nm)))∧Below W.heap.size W w'):=hid (by
  intro W hW;have cB:=XH (t.ZX.map Cl.da) X x nm W (HTab.out.rows.1.later hW) (by simpa using HOt.out.1);rwa [List.length_map,Xz] at cB)
 go_region_held_law (fun w'=>Below w.heap.size w w'∧w'.cell? ⟨gt,i*5+3,none⟩=some (.slice X t.ZX.length x)∧w'.cell? ⟨c2,0,none⟩=some (.string (Z9 nm)))
  (first | exact hkeep.out _ _ (by assumption) (by assumption) | exact⟨hW0,d3,d0⟩)
  (first | (go_at_call 203;refine(HBy.out _ (by first | exact hW0 | assumption)).mono ?_;rintro e w' ⟨rfl,hb⟩))
 rename_i hS;have HB3:=hid hS.1;have e3:=hS.2.1;clear hS hkeep HB1 d0 d3
 cases hcol:XJ t.ZX nm with
 | none=>
  rw [show Xe (none:Option Nat)= -1 from rfl];go_wp2;go_ret;exact HNo.out 61 _ (by decide) HB3.out
 | some k=>
  have HCo:=hid hcol;obtain⟨hkl,_⟩:=Xa (show t.ZX.findIdx? (fun c=>c.name == nm)=some k from hcol);clear hcol;have hk:(0:Int)≤(k:Int):=by omega
  have hk2: ¬ (k:Int)<0:=by omega
  rw [show Xe (some k)=(k:Int) from rfl];by_cases h1:t.ZX.length=1
  ·have h1':((t.ZX.length:Int) == 1)=true:=by simp;omega
   go_wp2;go_ret;exact HNo.out 62 _ (by decide) HB3.out
  have h1':((t.ZX.length:Int) == 1)=false:=by simp;omega
  have e4:w'.cell? ⟨gt,i*5+4,none⟩=some (.slice Y t.ZS.length y):=ct hg4 HB3.out hgl;go_wp2_with fail;have cH:=LB (fun d=>(ID d 2).contains nm) 207 #[.pointer (some ⟨c2,0,none⟩)] (t.ZS.map Ru.da) Y y w' (enters_of Tryz.func207 (by kernel_rfl) rfl) (HTab.out.rows.2.later HB3.out) (by simpa using HOt.out.2.1) (by
   intro W d vs hb hd hv;obtain⟨r,hr,rfl⟩:=List.mem_map.1 hd;obtain⟨A,m,rfl,hA,_⟩:=Ru.YO hv;simp only [Og];exact PG r A m nm c2 W (HC.out.below (HB3.out.trans (hb.mono HB3.out.size)) (by omega)) (hA.Y6 (fun _ h=>Nat.lt_of_lt_of_le h hb.size) fun _ _=>rfl) (HOt.out.2.2 r hr).1)
  rw [List.length_map] at cH;have HAny:Hid ((t.ZS.map Ru.da).any (fun d=>(ID d 2).contains nm)=t.ZS.any fun r=>r.ZX.contains nm):=hid (by
   rw [List.any_map];congr 1
   funext r
   exact congrArg (fun l=>List.contains l nm) (Og r))
  rw [HAny.out] at cH;refine cH.mono ?_
  rintro e w4 ⟨rfl,hb⟩;have HB4:=bt HB3 hb;have g3:w4.cell? ⟨gt,i*5+3,none⟩=some (.slice X t.ZX.length x):=ct hg3 HB4.out hgl;have gf:w4.frozen? ⟨gt,i*5+3,none⟩=false:=(HB4.out.frozen (p:=⟨gt,i*5+3,none⟩) hgl).trans (HGf.out _);clear hb cH HB3 e3 e4
  cases hany:t.ZS.any fun r=>r.ZX.contains nm
  case true=>
   go_wp2;go_ret;exact HNo.out 62 _ (by decide) HB4.out
  have HNone:Hid (∀ r∈t.ZS,r.ZX.contains nm=false):=hid (by
   intro r hr;have:=List.any_eq_false.1 hany r hr;simpa using this)
  clear hany HAny;have O4:=hid ((HTab.out.ZX.Yn hlob).Zw HB4.out);have hwr:IntKind.i64.wrap ((k:Int)+1)=(k:Int)+1:=by
   have:=HOt.out.1;simp [IntKind.wrap,IntKind.bits,IntKind.signed];omega
  go_wp2_with fail;refine(Q8 base t.ZX X x k w4 O4.out hkl HOt.out.1).mono ?_
  rintro e w7 ⟨rfl,ho7,hb7,hk7,hf7⟩;have HO7:=hid ho7;have hgt4:Zc w4 gt 73:=HGt.out.Tt (HB4.out.block gt hgl);have e7:w7.cell? ⟨gt,i*5+3,none⟩=some (.slice X t.ZX.length x):=(World.cell?_of_block (w:=w4) (hk7.block gt _ hgt4 (by decide))).trans g3;have f7:w7.frozen? ⟨gt,i*5+3,none⟩=false:=(World.frozen?_of_block (w:=w4) (hk7.block gt _ hgt4 (by decide))).trans gf;have HB7:Hid (Below base w w7):=hid ((HB4.out.mono hbz).trans hb7);have hrow7:=(HIn.out.Z7.Zw HB4.out).keeps hk7 (by decide);have hU:Yz w w7 gt (b i) (b (i+1)) [119] none:=(Yz.Zp HB4.out).trans (Yz.Wx (HTab.out.ZX.Zw HB4.out) hf7 (by simp) fun k hk=>⟨Zu HTab.out.ZX k hk,HTab.out.MQ k hk⟩);have HF:Hid (∀ W,W=w7.setCell ⟨gt,i*5+3,none⟩ (.slice X (t.ZX.length - 1:Nat) x)→WT none w base p gt B0 l0 l1 o (Wc o nm i) (.returned (.int .i64 0)) W):=hid (by
   rintro W rfl;have hK8:ZR [73] w7 (w7.setCell ⟨gt,i*5+3,none⟩ (.slice X (t.ZX.length - 1:Nat) x)):=ZR.Zx (hgt4.Tt (hk7.block gt _ hgt4 (by decide))) (by simp) _;have hKW:ZR [119,73] w (w7.setCell ⟨gt,i*5+3,none⟩ (.slice X (t.ZX.length - 1:Nat) x)):=((ZR.Zp HB4.out lr).trans (hk7.Ya (by simp))).trans (hK8.Ya (by simp));have hel:(t.ZX.eraseIdx k).length=t.ZX.length - 1:=List.length_eraseIdx_of_lt hkl;have hcl:(w7.setCell ⟨gt,i*5+3,none⟩ (.slice X (t.ZX.length - 1:Nat) x)).ownsRow base 119 3 (.slice X (t.ZX.eraseIdx k).length x) (t.ZX.eraseIdx k).length ((t.ZX.eraseIdx k).flatMap Cl.cs):=by
    rw [hel];exact HO7.out.keeps hK8 (by decide)
   refine VE (us:= [119]) (t':=({ t with ZX:=t.ZX.eraseIdx k},X,x,Y,y)) HIn.out hi' HP.out (hU.trans (Yz.Zx _)) (by decide) (by decide) (by simp) hpb (HPut.out w7 hrow7 3 (by omega) _ _ (by simp [Za.cs,Tb.cs,hel])) (Rk HTab.out hKW (by decide) (by decide) hlob hcl) ((HB7.out.setCell hgb _).x _) (HRr.out _ k (by rw [←HTi.out];exact HCo.out) (by rw [←HTi.out];exact h1) (by rw [←HTi.out];exact HNone.out) (by rw [←HTi.out])))
  clear ho7 hb7 hk7 hrow7 hU;go_wp2;go_ret;exact HF.out _ rfl
end Go.Proofs.YtnhmoibjlakhjaaGreat
