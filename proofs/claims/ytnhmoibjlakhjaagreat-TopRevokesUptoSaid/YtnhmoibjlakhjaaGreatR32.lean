/- Lemmas of the proof. No condition but each theorem's own. -/
import Derived.Test.YtnhmoibjlakhjaaGreatR31
import Derived.Lib.AppendZerosOnto
import Derived.Lib.Overlaps
import Derived.Shelf.Spec.SlicesInsert
import Derived.Test.YtnhmoibjlakhjaaGreatR03
import Derived.Test.YtnhmoibjlakhjaaGreatR10
set_option linter.unusedVariables false
set_option linter.unusedSimpArgs false
namespace Go.Proofs.YtnhmoibjlakhjaaGreat
set_option maxRecDepth 100000
set_option maxHeartbeats 16000000
open Go.RowKit
theorem Yi {P:Program}(w:World)(dT sT ty elem:TypeId)(b o dLen dCap:Nat)(a:Addr)(sLen sCap m k:Nat)(cs:List Value)
  (hu:P.underlying dT=some (.slice elem)) (hs:(P.info? elem).map (·.size)=some k) (hm:Nat.min sLen dLen=m) (hn:cs.length=m*k)
  (hsrc: ∀ j v,cs[j]?=some v→w.cell? (a.add j)=some v) (ht:w.there b o cs.length) (h1: ∀ v∈cs,v.oneCell'=true):
  (Builtin.copy_ #[dT,sT] ty #[.slice (some ⟨b,o,none⟩) dLen dCap,.slice (some a) sLen sCap]).run P w= .ok (goInt m) (w.setCells b o cs):=by
 have hl:=run_loadCells_list (P:=P) w a cs hsrc;have hst:=run_storeCells_cells (P:=P) b o cs 0 w (fun j hj=>by simpa using (ht j hj).1) (fun j hj=>by simpa using (ht j hj).2) h1
 cases hq:P.info? elem with
 | none=>simp [hq] at hs
 | some i=>
  have hi:i.size=k:=by simpa [hq] using hs
  simp [Builtin.copy_,run_underlying hu,Builtin.lenOf,Builtin.firstCells,sizeOf,typeInfo,hq,hi,hm,←hn,hl,hst]
theorem Rz {w:World}{base g n c k:Nat}{T:TypeId}{xs:List Value}(h:w.ownsRow base T k (.slice (some ⟨g,0,none⟩) n c) n xs){m:Nat}(hm:n≤m)(hc:m≤c): ∃ ys,ys.length=m*k∧ys.take (n*k)=xs∧w.ownsRow base T k (.slice (some ⟨g,0,none⟩) m c) m ys:=by
 obtain⟨hl,h2⟩:=h;rcases h2 with ⟨h0,_⟩ | ⟨g',cap,cur,hv,hb,hh,h3,h4,h5,h6⟩
 ·cases h0
 ·injection hv with hv1 hv2 hv3
  subst hv3;have hmk:m*k≤c*k:=Nat.mul_le_mul_right _ hc;have hnk:n*k≤m*k:=Nat.mul_le_mul_right _ hm;have hlen:(cur.toList.take (m*k)).length=m*k:=by rw [List.length_take,Array.length_toList,h5,Nat.min_eq_left hmk]
  exact⟨cur.toList.take (m*k),hlen,by rw [List.take_take,Nat.min_eq_left hnk,h6],hlen,.inr ⟨g',c,cur,by rw [hv1],hb,hh,hc,h4,h5,rfl⟩⟩
theorem S7 {w:World}{base m G k:Nat}{T:TypeId}{row:Array Value}(hb:base≤w.heap.size)(hs:row.size=G*k)(hm:m≤G)(hG:G≤maxLen):(w.drew.alloc (.cells row T)).ownsRow base T k (.slice (some ⟨w.heap.size,0,none⟩) m G) m (row.toList.take (m*k)):=by
 have hmk:m*k≤G*k:=Nat.mul_le_mul_right _ hm;exact⟨by rw [List.length_take,Array.length_toList,hs,Nat.min_eq_left hmk],.inr ⟨w.heap.size,G,row,rfl,hb,heap_alloc_new w.drew _,hm,hG,hs,rfl⟩⟩
theorem Vz (zs X D:List Value)(i n k:Nat)(hi:i≤n)(hz:zs.length=(n+1)*k)(hX:X.length=k)(hD:D.length=(n - i)*k):
  X7 (X7 zs ((i+1)*k) D) (i*k) X=zs.take (i*k) ++ (X ++D)∧X7 (X7 zs (i*k) X) ((i+1)*k) D=zs.take (i*k) ++ (X ++D):=by
 have e1:(i+1)*k=i*k+k:=by rw [Nat.add_mul,Nat.one_mul]
 have e2:(n+1)*k=i*k+ (k+ (n - i)*k):=by
  rw [←Nat.add_assoc,←e1,←Nat.add_mul];congr 1
  omega
 have hp:(zs.take (i*k)).length=i*k:=by rw [List.length_take,hz,e2];omega
 obtain⟨o1,ho1⟩: ∃ o1,o1=(zs.drop (i*k)).take k:=⟨_,rfl⟩
 obtain⟨o2,ho2⟩: ∃ o2,o2=zs.drop ((i+1)*k):=⟨_,rfl⟩
 have l1:o1.length=k:=by rw [ho1,List.length_take,List.length_drop,hz,e2];omega
 have l2:o2.length=(n - i)*k:=by rw [ho2,List.length_drop,hz,e2,e1];omega
 have hzs:zs=zs.take (i*k) ++ (o1 ++o2):=by
  have:o1 ++o2=zs.drop (i*k):=by
   rw [ho1,ho2,e1,←List.drop_drop,List.take_append_drop]
  rw [this,List.take_append_drop]
 generalize zs.take (i*k)=p at*;subst hzs;constructor
 ·have h1:=XM D (p ++o1) o2 [] (by rw [l2,hD]);rw [List.append_nil,List.append_nil,List.length_append,hp,l1,←e1,List.append_assoc] at h1;rw [h1];have h2:=XM X p o1 D (by rw [l1,hX]);rw [hp] at h2;rw [List.append_assoc,h2]
 ·have h1:=XM X p o1 o2 (by rw [l1,hX]);rw [hp] at h1;rw [h1];have h2:=XM D (p ++X) o2 [] (by rw [l2,hD]);rw [List.append_nil,List.append_nil,List.length_append,hp,hX,←e1,List.append_assoc,List.append_assoc] at h2;exact h2
theorem RO {α:Type}{enc:α→List Value}{k:Nat}(hk: ∀ x,(enc x).length=k)(l:List α)(i:Nat)(x:α):(l.flatMap enc).take (i*k) ++ (enc x ++ (l.flatMap enc).drop (i*k))=(l.take i ++x ::l.drop i).flatMap enc:=by
 rw [List.flatMap_append,List.flatMap_cons,XF hk,Xl hk]
theorem XO (cs:Array Value)(n:Nat):(Builtin.zeroCells cs n).size=n*cs.size:=by simp [Builtin.zeroCells]
end Go.Proofs.YtnhmoibjlakhjaaGreat
namespace Go.Proofs.YtnhmoibjlakhjaaGreat
open Lib (hid)
set_option maxRecDepth 100000
set_option maxHeartbeats 16000000
open Go.RowKit
theorem Ye {w:World}{base:Nat}{T:TypeId}{k n:Nat}{v:Value}{xs:List Value}(h:w.ownsRow base T k v n xs):w.drew.ownsRow base T k v n xs:=h
def SE {α:Type}(base:Nat)(T:TypeId)(k:Nat)(enc:α→List Value)(l:List α)(i:Nat)(x:α)(w:World)(e:Ending)(w':World):Prop:=
 ∃ A' c',e= .returned (.slice A' (l.length+1) c')∧w'.ownsRow base T k (.slice A' (l.length+1) c') (l.length+1) ((l.take i ++x ::l.drop i).flatMap enc)∧Below base w w'∧ZR [T] w w'
theorem Tx (base:Nat)(l:List (Gr))(A:Option Addr)(c i:Nat)(x:Gr)(xb:Nat)(w:World)(h:w.ownsRow base 53 6 (.slice A l.length c) l.length (l.flatMap Gr.cs))(hi:i≤l.length)(hx:ZP w xb 53 (Gr.cs x))(hxb: ∀ g,A=some ⟨g,0,none⟩→xb≠g)(hl:l.length≤1099511627776)(hbase:base≤w.heap.size):
  Calls Tryz.prog 186 #[.slice A l.length c,.int .i64 i,.slice (some ⟨xb,0,none⟩) 1 1] w (SE base 53 6 Gr.cs l i x w):=by
 obtain⟨i0,hi0,hz0,hz1,hz2⟩:=info_parts Vj;have H:=hid h;have HX:=hid hx;have HXN:=hid (ZP.news hx);have hxl:(Gr.cs x).length=1*6:=by rw [Gr.k]
 clear hx h;by_cases hin:i=l.length
 ·subst hin;have hres:l.take l.length ++x ::l.drop l.length=l ++ [x]:=by simp
  have HR:Hid (∀ A' c' w',w'.ownsRow base 53 6 (.slice A' (l.length+1) c') (l.length+1) (l.flatMap Gr.cs ++Gr.cs x)→w.grownBy w' (Value.slice A l.length c).ownBlock→SE base 53 6 Gr.cs l l.length x w (.returned (.slice A' (l.length+1) c')) w'):=hid fun A' c' w' ho hg=>by
   refine⟨A',c',rfl,?_,br.grown hg hbase (Zu H.out),ZR.grown H.out hg (by simp) hg.size⟩
   rw [hres,List.flatMap_append,List.flatMap_singleton];exact ho
  have arm:=H;rcases H.out.2 with ⟨h0,_⟩ | ⟨g,cap,cur,h0,_,_,_,_,_,_⟩
  ·injection h0 with e1 e2 e3
   obtain rfl:l= []:=List.eq_nil_of_length_eq_zero e2;subst e1 e3;go_enter Tryz.func186,Tryz.ntmps186
   go_wp2_with (at_builtin;refine YW rfl _ _ _ rfl base 53 i0 _ 6 80 Tryz.underlying31 hi0 hz0 hz1 hz2 rfl (by decide) (.slice none 0 0) 0 _ rfl H.out ⟨xb,0,none⟩ 1 1 (Gr.cs x) rfl hxl HXN.out (Gr.one x) (by unfold maxLen;omega) (by omega) hbase ?_;intro A3 c3 w3 HO3 hg3)
   all_goals
    go_ret;exact HR.out _ _ _ HO3.out hg3.out
  ·injection h0 with e1 e2 e3
   subst e1;have hcap:=(YR H.out).1;have hcap2:=(YR H.out).2;go_enter Tryz.func186,Tryz.ntmps186
   go_wp2_with (at_builtin;refine YW rfl _ _ _ rfl base 53 i0 _ 6 80 Tryz.underlying31 hi0 hz0 hz1 hz2 rfl (by decide) (.slice (some ⟨g,0,none⟩) l.length c) l.length _ rfl H.out ⟨xb,0,none⟩ 1 1 (Gr.cs x) rfl hxl HXN.out (Gr.one x) (by unfold maxLen;omega) (by omega) hbase ?_;intro A3 c3 w3 HO3 hg3)
   all_goals
    go_ret;exact HR.out _ _ _ HO3.out hg3.out
 ·obtain⟨g,rfl⟩:=Xi H.out (by omega);have hxg:=hxb g rfl;have hcap:=(YR H.out).1;have hcap2:=(YR H.out).2;have hin2: ¬ ((i:Int)=(l.length:Int)):=by omega
  have hin3:((i:Int) ==(l.length:Int))=false:=by simpa using hin2
  have hii:(i:Int)≤(l.length:Int):=by omega
  have hlen:(l.flatMap Gr.cs).length=l.length*6:=H.out.1;have hDl:((l.flatMap Gr.cs).drop (i*6)).length=(l.length - i)*6:=by rw [List.length_drop,hlen,←Nat.sub_mul]
  have hXl:(Gr.cs x).length=6:=Gr.k x;have hD1: ∀ v∈(l.flatMap Gr.cs).drop (i*6),v.oneCell'=true:=fun v hv=>Yg Gr.one l v (List.mem_of_mem_drop hv)
  have hsz:(Tryz.prog.info? 53).map (·.size)=some 6:=by rw [hi0];simp [hz1]
  have hcell:=(ZK H.out).2.2.2.2;have hgl:=(ZK H.out).2.1;have hgb:=(ZK H.out).1;have hxl2:=HX.out.lt;have hkk:(i+1)*6=i*6+6:=by omega
  have hfin: ∀ zs:List Value,zs.take (i*6)=(l.flatMap Gr.cs).take (i*6)→zs.take (i*6) ++ (Gr.cs x ++ (l.flatMap Gr.cs).drop (i*6))=(l.take i ++x ::l.drop i).flatMap Gr.cs:=fun zs h=>by rw [h,RO Gr.k]
  have hDc: ∀ j v,((l.flatMap Gr.cs).drop (i*6))[j]?=some v→w.cell? ⟨g,i*6+j,none⟩=some v:=fun j v hj=>hcell _ v (by rw [List.getElem?_drop] at hj;simpa using hj)
  generalize (l.flatMap Gr.cs).drop (i*6)=D at*;have hw1:IntKind.i64.wrap ((i:Int)+1)=(i:Int)+1:=by rw [IntKind.wrap_i64];omega
  have htn:((i:Int)+1).toNat=i+1:=by omega
  have hb1:(0:Int)≤(i:Int)+1:=by omega
  have hb3:(i:Int)≤(l.length:Int)+1:=by omega
  have mixed:Tryz.prog.follows .mixedOrders=true:=by kernel_rfl
  by_cases hroom:l.length+1≤c
  ·have hro: ¬ (c:Int)< (l.length:Int)+1:=by omega
   have hro2: ¬ (l.length:Int)+1 >(c:Int):=by omega
   have hb2: ¬ (c=i+1):=by omega
   have hb4: ¬ (c=i):=by omega
   obtain⟨ys,hyl,hyt,hown⟩:=Rz H.out (m:=l.length+1) (by omega) hroom;have hlaid:=(Vz ys (Gr.cs x) D i l.length 6 hi hyl hXl hDl).1;replace hown:w.drew.ownsRow base 53 6 (.slice (some ⟨g,0,none⟩) (l.length+1) c) (l.length+1) ys:=hown;have hown1:=XZ D ((i+1)*6) hown (by rw [hDl,hyl];omega)
   have hown2:=XZ (Gr.cs x) (i*6) hown1 (by rw [VV,hXl,hyl];omega);rw [hlaid,hfin ys (by rw [←hyt,List.take_take,Nat.min_eq_left (by omega)])] at hown2;rw [show (i+1)*6=i*6+6 from by omega] at hown1;rw [show (i+1)*6=i*6+6 from by omega] at hown2;have hTy:=(ZK H.out).2.2.1;have HRes:Hid (SE base 53 6 Gr.cs l i x w (.returned (.slice (some ⟨g,0,none⟩) (l.length+1) c)) (((w.drew.setCells g (i*6+6) D)).setCells g (i*6) (Gr.cs x))):=hid ⟨_,_,rfl,hown2,(br.drew.trans (ZJ hgb _ _)).trans (ZJ hgb _ _),((ZR.drew w).trans (ZR.setCells (by simp) (show Zc w.drew g 53 from hTy) _ _)).trans (ZR.setCells (by simp) (ZK hown1).2.2.1 _ _)⟩;have hsb: ∃ kB,w.shape? g=some (53,kB)∧kB≠0:=by
    obtain⟨e,nB,hB,hlt,_⟩:=World.shape?_of_cell? (hcell 0 _ (List.getElem?_eq_getElem (by omega)))
    obtain⟨cs,fr,hT⟩:=hTy;have:e=53:=by
     unfold World.shape? at hB;rw [hT] at hB;injection hB with hB
     injection hB with hB _
     exact hB.symm
    exact⟨nB,by rw [hB,this],by simp at hlt;omega⟩
   obtain⟨kB,hsb,hkB⟩:=hsb;have hsa:w.shape? xb=some (53,6):=by
    unfold World.shape?;rw [HX.out];simp [hXl]
   have hov: ∀ lb cb,(callFunc 252 #[.slice (some ⟨xb,0,none⟩) 1 1,.slice (some ⟨g,i*6+6,none⟩) lb cb]).run Tryz.prog w= .ok (.value (.bool false)) w:=fun lb cb=>by
    rw [run_callFunc_extern Tryz.func252 (by kernel_rfl) (by kernel_rfl) (by kernel_rfl) (e:=Extern.SlicesOverlaps.overlaps #[31,31] #[4]) (by kernel_rfl),
     Lib.run_overlaps_apart w 31 4 53 Tryz.underlying31 6 (fun w=>by kernel_rfl) ⟨xb,0,none⟩ ⟨g,i*6+6,none⟩ 1 1 lb cb hxg 53 53 6 kB hsa hsb hkB (HX.out.frozen 0) (HX.out.frozen 6)]
    rfl
   have hcp1: ∀ ty dc sc,(Builtin.copy_ #[31,31] ty #[.slice (some ⟨g,i*6+6,none⟩) (l.length - i) dc,.slice (some ⟨g,i*6,none⟩) (l.length+1 - i) sc]).run Tryz.prog w.drew= .ok (goInt ((l.length - i:Nat):Int)) (w.drew.setCells g (i*6+6) D):=fun ty dc sc=>
    Yi w.drew 31 31 ty 53 g (i*6+6) (l.length - i) dc ⟨g,i*6,none⟩ (l.length+1 - i) sc (l.length - i) 6 D Tryz.underlying31 hsz (by simp only [Nat.min_def];split <;> omega) hDl (fun j v hj=>by
     rw [Addr.add_lit];exact hDc j v hj) (Zg H.out _ _ (by rw [hDl];omega)) hD1
   obtain⟨W1,hW1⟩: ∃ W1,W1=w.drew.setCells g (i*6+6) D:=⟨_,rfl⟩
   rw [←hW1] at hcp1 hown1 HRes;have hX1:ZP W1 xb 53 (Gr.cs x):=by rw [hW1];exact(Zb w.drew g hxg _ _).trans HX.out
   have hcp2: ∀ ty dc,(Builtin.copy_ #[31,31] ty #[.slice (some ⟨g,i*6,none⟩) (l.length+1 - i) dc,.slice (some ⟨xb,0,none⟩) 1 1]).run Tryz.prog W1= .ok (goInt 1) (W1.setCells g (i*6) (Gr.cs x)):=fun ty dc=>
    Yi W1 31 31 ty 53 g (i*6) (l.length+1 - i) dc ⟨xb,0,none⟩ 1 1 1 6 (Gr.cs x) Tryz.underlying31 hsz (by simp only [Nat.min_def];split <;> omega) hxl (ZP.news hX1) (Zg hown1 _ _ (by rw [hXl];omega)) (Gr.one x)
   clear hown hown1 hown2 hlaid hsa hsb hW1 hX1 hyl hyt;go_enter Tryz.func186,Tryz.ntmps186
   go_wp2_with (simp only [hov]);go_region_law_o (refine step_copy_runI rfl _ _ 31 31 rfl _ _ (by simp [Act.eval,Act.put]) (by simp [Act.eval,Act.put]) (hcp1 _ _ _) ?_)
   go_wp2_with (at_builtin;refine wpList_copy_runI _ rfl _ _ 31 31 rfl _ _ rfl rfl (hcp2 _ _) ?_);go_ret;exact HRes.out
  ·obtain rfl:c=l.length:=by omega
   have hro:(l.length:Int)< (l.length:Int)+1:=by omega
   have hro2:(l.length:Int)+1 >(l.length:Int):=by omega
   have hold:(Builtin.firstCells i0.size i (.slice (some ⟨g,0,none⟩) i l.length)).run Tryz.prog w.drew= .ok ((l.flatMap Gr.cs).take (i*6)).toArray w.drew:=by
    rw [hz1];exact run_firstCells_some w.drew 6 i ⟨g,0,none⟩ i l.length ((l.flatMap Gr.cs).take (i*6)) (by rw [List.length_take,hlen];omega) (fun j v hj=>by
     rw [Addr.add_lit,Nat.zero_add];rw [List.getElem?_take] at hj;split at hj
     ·exact hcell j v hj
     ·cases hj)
   have hik:i+ (l.length+1 - i)=l.length+1:=by omega
   have hki:(l.length:Int)+1 - (i:Int)=((l.length+1 - i:Nat):Int):=by omega
   obtain⟨G,hG⟩: ∃ G,G=grownCap w (l.length+1) l.length 53:=⟨_,rfl⟩
   obtain⟨ROW,hROW⟩: ∃ ROW:Array Value,ROW=((l.flatMap Gr.cs).take (i*6)).toArray ++Builtin.zeroCells (Value.cells (.agg #[.string ⟨#[]⟩,.string ⟨#[]⟩,.int .i64 0,.string ⟨#[]⟩,.string ⟨#[]⟩,.bool false])) (l.length+1 - i) ++Builtin.zeroCells (Value.cells (.agg #[.string ⟨#[]⟩,.string ⟨#[]⟩,.int .i64 0,.string ⟨#[]⟩,.string ⟨#[]⟩,.bool false])) (G - (l.length+1)):=⟨_,rfl⟩
   have hGn:l.length+1≤G:=by rw [hG];exact grownCap_ge w _ _ _
   have hG63:G≤maxLen:=by rw [hG];exact grownCap_le_maxLen w (l.length+1) l.length 53 (by unfold maxLen;omega)
   have hrz: ∀ ty,(Builtin.append_ #[31,3] ty #[.slice (some ⟨g,0,none⟩) i l.length,.int .i64 ((l.length:Int)+1 - (i:Int))]).run Tryz.prog w= .ok (.slice (some ⟨w.heap.size,0,none⟩) (l.length+1) G) (w.drew.alloc (.cells ROW 53)):=fun ty=>by
    have h:=Lib.run_append_grow_zeros w 31 3 ty 53 i0 _ .i64 .i64 Tryz.underlying31 Tryz.underlying3 hi0 hz0 (some ⟨g,0,none⟩) i l.length ((l.flatMap Gr.cs).take (i*6)) hold (l.length+1 - i) (by omega) (by rw [hz1];decide) (by omega) (by omega) (by rw [hz2];omega) (by rw [hz2,hik];exact growslice_fits (by omega) (by omega));rw [hik,←hG,←hROW] at h;rw [hki];exact h
   have hRs:ROW.size=G*6:=by
    rw [hROW,Array.size_append,Array.size_append,XO,XO,List.size_toArray,List.length_take,hlen,show (Value.cells (.agg #[.string ⟨#[]⟩,.string ⟨#[]⟩,.int .i64 0,.string ⟨#[]⟩,.string ⟨#[]⟩,.bool false])).size=6 from rfl];omega
   have hown:=S7 (T:=53) (k:=6) hbase hRs hGn hG63;have hyl:(ROW.toList.take ((l.length+1)*6)).length=(l.length+1)*6:=by
    have h1:ROW.toList.length=ROW.size:=Array.length_toList;rw [List.length_take,h1,hRs];omega
   have hyt:(ROW.toList.take ((l.length+1)*6)).take (i*6)=(l.flatMap Gr.cs).take (i*6):=by
    rw [List.take_take,Nat.min_eq_left (by omega),hROW];simp only [Array.toList_append,List.append_assoc];rw [List.take_append_of_le_length (by rw [List.length_take,hlen];omega),List.take_take,Nat.min_self]
   generalize ROW.toList.take ((l.length+1)*6)=ys at*;have hlaid:=(Vz ys (Gr.cs x) D i l.length 6 hi hyl hXl hDl).2;have hBw:Below w.heap.size w (w.drew.alloc (.cells ROW 53)):=br.drew.alloc lr _;obtain⟨W1,hW1⟩: ∃ W1,W1=w.drew.alloc (.cells ROW 53):=⟨_,rfl⟩
   rw [←hW1] at hown hrz hBw;have hX1:ZP W1 xb 53 (Gr.cs x):=HX.out.below hBw hxl2;have hown1:=XZ (Gr.cs x) (i*6) hown (by rw [hXl,hyl];omega)
   have hown1':(W1.setCells w.heap.size (i*6) (Gr.cs x)).drew.ownsRow base 53 6 (.slice (some ⟨w.heap.size,0,none⟩) (l.length+1) G) (l.length+1) (X7 ys (i*6) (Gr.cs x)):=Ye hown1;have hown2:=XZ D ((i+1)*6) hown1' (by rw [VV,hDl,hyl];omega)
   rw [hlaid,hfin ys hyt] at hown2;rw [show (i+1)*6=i*6+6 from by omega] at hown2;have hTy1:=(ZK hown).2.2.1;have hBf:Below w.heap.size w (((W1.setCells w.heap.size (i*6) (Gr.cs x)).drew).setCells w.heap.size (i*6+6) D):=((hBw.trans (ZJ lr _ _)).drew).trans (ZJ lr _ _);have HRes:Hid (SE base 53 6 Gr.cs l i x w (.returned (.slice (some ⟨w.heap.size,0,none⟩) (l.length+1) G)) (((W1.setCells w.heap.size (i*6) (Gr.cs x)).drew).setCells w.heap.size (i*6+6) D)):=hid ⟨_,_,rfl,hown2,hBf.mono hbase,ZR.Zp hBf lr⟩;have hcpA: ∀ ty dc,(Builtin.copy_ #[31,31] ty #[.slice (some ⟨w.heap.size,i*6,none⟩) (l.length+1 - i) dc,.slice (some ⟨xb,0,none⟩) 1 1]).run Tryz.prog W1= .ok (goInt 1) (W1.setCells w.heap.size (i*6) (Gr.cs x)):=fun ty dc=>
    Yi W1 31 31 ty 53 w.heap.size (i*6) (l.length+1 - i) dc ⟨xb,0,none⟩ 1 1 1 6 (Gr.cs x) Tryz.underlying31 hsz (by simp only [Nat.min_def];split <;> omega) hxl (ZP.news hX1) (Zg hown _ _ (by rw [hXl];omega)) (Gr.one x)
   have hsrc: ∀ j v,D[j]?=some v→(W1.setCells w.heap.size (i*6) (Gr.cs x)).drew.cell? ((⟨g,i*6,none⟩:Addr).add j)=some v:=fun j v hj=>by
    rw [Addr.add_lit];have h1:w.cell? ⟨g,i*6+j,none⟩=some v:=hDc j v hj;have h2:Below w.heap.size w (W1.setCells w.heap.size (i*6) (Gr.cs x)).drew:=(hBw.trans (ZJ lr _ _)).drew;exact ct h1 h2 hgl
   have hcpB: ∀ ty dc sc,(Builtin.copy_ #[31,31] ty #[.slice (some ⟨w.heap.size,i*6+6,none⟩) (l.length - i) dc,.slice (some ⟨g,i*6,none⟩) (l.length - i) sc]).run Tryz.prog (W1.setCells w.heap.size (i*6) (Gr.cs x)).drew= .ok (goInt ((l.length - i:Nat):Int)) ((W1.setCells w.heap.size (i*6) (Gr.cs x)).drew.setCells w.heap.size (i*6+6) D):=fun ty dc sc=>
    Yi _ 31 31 ty 53 w.heap.size (i*6+6) (l.length - i) dc ⟨g,i*6,none⟩ (l.length - i) sc (l.length - i) 6 D Tryz.underlying31 hsz (Nat.min_self _) hDl hsrc (Zg hown1' _ _ (by rw [hDl];omega)) hD1
   have hGi: ¬ (G=i):=by omega
   have hGim: ¬ (G=i+1):=by omega
   have hci: ¬ (l.length=i):=by omega
   have hG64:G≤9223372036854775807:=hG63;obtain⟨W2,hW2⟩: ∃ W2,W2=W1.setCells w.heap.size (i*6) (Gr.cs x):=⟨_,rfl⟩
   rw [←hW2] at hcpA hcpB HRes;clear hold hik hki hG hROW hRs hown hyl hyt hlaid hW1 hX1 hown1 hown1' hown2 hTy1 hBf hsrc hBw hW2 hG63;go_enter Tryz.func186,Tryz.ntmps186
   go_wp2_with (first
    |(at_builtin;refine Lib.wpList_append_run _ rfl _ _ _ _ rfl _ _ rfl rfl _ _ (hrz _) ?_)
    |(at_builtin;refine wpList_copy_runI _ rfl _ _ 31 31 rfl _ _ rfl rfl (hcpA _ _) ?_))
   go_region_law_o (refine step_copy_runI rfl _ _ 31 31 rfl _ _ (by simp [Act.eval,Act.put]) (by simp [Act.eval,Act.put]) (hcpB _ _ _) ?_)
   go_wp2;go_ret;exact HRes.out
theorem QS (base:Nat)(l:List (Mb))(A:Option Addr)(c i:Nat)(x:Mb)(xb:Nat)(w:World)(h:w.ownsRow base 147 2 (.slice A l.length c) l.length (l.flatMap Mb.cs))(hi:i≤l.length)(hx:ZP w xb 147 (Mb.cs x))(hxb: ∀ g,A=some ⟨g,0,none⟩→xb≠g)(hl:l.length≤1099511627776)(hbase:base≤w.heap.size):
  Calls Tryz.prog 191 #[.slice A l.length c,.int .i64 i,.slice (some ⟨xb,0,none⟩) 1 1] w (SE base 147 2 Mb.cs l i x w):=by
 obtain⟨i0,hi0,hz0,hz1,hz2⟩:=info_parts UY;have H:=hid h;have HX:=hid hx;have HXN:=hid (ZP.news hx);have hxl:(Mb.cs x).length=1*2:=by rw [Mb.k]
 clear hx h;by_cases hin:i=l.length
 ·subst hin;have hres:l.take l.length ++x ::l.drop l.length=l ++ [x]:=by simp
  have HR:Hid (∀ A' c' w',w'.ownsRow base 147 2 (.slice A' (l.length+1) c') (l.length+1) (l.flatMap Mb.cs ++Mb.cs x)→w.grownBy w' (Value.slice A l.length c).ownBlock→SE base 147 2 Mb.cs l l.length x w (.returned (.slice A' (l.length+1) c')) w'):=hid fun A' c' w' ho hg=>by
   refine⟨A',c',rfl,?_,br.grown hg hbase (Zu H.out),ZR.grown H.out hg (by simp) hg.size⟩
   rw [hres,List.flatMap_append,List.flatMap_singleton];exact ho
  have arm:=H;rcases H.out.2 with ⟨h0,_⟩ | ⟨g,cap,cur,h0,_,_,_,_,_,_⟩
  ·injection h0 with e1 e2 e3
   obtain rfl:l= []:=List.eq_nil_of_length_eq_zero e2;subst e1 e3;go_enter Tryz.func191,Tryz.ntmps191
   go_wp2_with (at_builtin;refine YW rfl _ _ _ rfl base 147 i0 _ 2 32 Tryz.underlying28 hi0 hz0 hz1 hz2 rfl (by decide) (.slice none 0 0) 0 _ rfl H.out ⟨xb,0,none⟩ 1 1 (Mb.cs x) rfl hxl HXN.out (Mb.one x) (by unfold maxLen;omega) (by omega) hbase ?_;intro A3 c3 w3 HO3 hg3)
   all_goals
    go_ret;exact HR.out _ _ _ HO3.out hg3.out
  ·injection h0 with e1 e2 e3
   subst e1;have hcap:=(YR H.out).1;have hcap2:=(YR H.out).2;go_enter Tryz.func191,Tryz.ntmps191
   go_wp2_with (at_builtin;refine YW rfl _ _ _ rfl base 147 i0 _ 2 32 Tryz.underlying28 hi0 hz0 hz1 hz2 rfl (by decide) (.slice (some ⟨g,0,none⟩) l.length c) l.length _ rfl H.out ⟨xb,0,none⟩ 1 1 (Mb.cs x) rfl hxl HXN.out (Mb.one x) (by unfold maxLen;omega) (by omega) hbase ?_;intro A3 c3 w3 HO3 hg3)
   all_goals
    go_ret;exact HR.out _ _ _ HO3.out hg3.out
 ·obtain⟨g,rfl⟩:=Xi H.out (by omega);have hxg:=hxb g rfl;have hcap:=(YR H.out).1;have hcap2:=(YR H.out).2;have hin2: ¬ ((i:Int)=(l.length:Int)):=by omega
  have hin3:((i:Int) ==(l.length:Int))=false:=by simpa using hin2
  have hii:(i:Int)≤(l.length:Int):=by omega
  have hlen:(l.flatMap Mb.cs).length=l.length*2:=H.out.1;have hDl:((l.flatMap Mb.cs).drop (i*2)).length=(l.length - i)*2:=by rw [List.length_drop,hlen,←Nat.sub_mul]
  have hXl:(Mb.cs x).length=2:=Mb.k x;have hD1: ∀ v∈(l.flatMap Mb.cs).drop (i*2),v.oneCell'=true:=fun v hv=>Yg Mb.one l v (List.mem_of_mem_drop hv)
  have hsz:(Tryz.prog.info? 147).map (·.size)=some 2:=by rw [hi0];simp [hz1]
  have hcell:=(ZK H.out).2.2.2.2;have hgl:=(ZK H.out).2.1;have hgb:=(ZK H.out).1;have hxl2:=HX.out.lt;have hkk:(i+1)*2=i*2+2:=by omega
  have hfin: ∀ zs:List Value,zs.take (i*2)=(l.flatMap Mb.cs).take (i*2)→zs.take (i*2) ++ (Mb.cs x ++ (l.flatMap Mb.cs).drop (i*2))=(l.take i ++x ::l.drop i).flatMap Mb.cs:=fun zs h=>by rw [h,RO Mb.k]
  have hDc: ∀ j v,((l.flatMap Mb.cs).drop (i*2))[j]?=some v→w.cell? ⟨g,i*2+j,none⟩=some v:=fun j v hj=>hcell _ v (by rw [List.getElem?_drop] at hj;simpa using hj)
  generalize (l.flatMap Mb.cs).drop (i*2)=D at*;have hw1:IntKind.i64.wrap ((i:Int)+1)=(i:Int)+1:=by rw [IntKind.wrap_i64];omega
  have htn:((i:Int)+1).toNat=i+1:=by omega
  have hb1:(0:Int)≤(i:Int)+1:=by omega
  have hb3:(i:Int)≤(l.length:Int)+1:=by omega
  have mixed:Tryz.prog.follows .mixedOrders=true:=by kernel_rfl
  by_cases hroom:l.length+1≤c
  ·have hro: ¬ (c:Int)< (l.length:Int)+1:=by omega
   have hro2: ¬ (l.length:Int)+1 >(c:Int):=by omega
   have hb2: ¬ (c=i+1):=by omega
   have hb4: ¬ (c=i):=by omega
   obtain⟨ys,hyl,hyt,hown⟩:=Rz H.out (m:=l.length+1) (by omega) hroom;have hlaid:=(Vz ys (Mb.cs x) D i l.length 2 hi hyl hXl hDl).1;replace hown:w.drew.ownsRow base 147 2 (.slice (some ⟨g,0,none⟩) (l.length+1) c) (l.length+1) ys:=hown;have hown1:=XZ D ((i+1)*2) hown (by rw [hDl,hyl];omega)
   have hown2:=XZ (Mb.cs x) (i*2) hown1 (by rw [VV,hXl,hyl];omega);rw [hlaid,hfin ys (by rw [←hyt,List.take_take,Nat.min_eq_left (by omega)])] at hown2;rw [show (i+1)*2=i*2+2 from by omega] at hown1;rw [show (i+1)*2=i*2+2 from by omega] at hown2;have hTy:=(ZK H.out).2.2.1;have HRes:Hid (SE base 147 2 Mb.cs l i x w (.returned (.slice (some ⟨g,0,none⟩) (l.length+1) c)) (((w.drew.setCells g (i*2+2) D)).setCells g (i*2) (Mb.cs x))):=hid ⟨_,_,rfl,hown2,(br.drew.trans (ZJ hgb _ _)).trans (ZJ hgb _ _),((ZR.drew w).trans (ZR.setCells (by simp) (show Zc w.drew g 147 from hTy) _ _)).trans (ZR.setCells (by simp) (ZK hown1).2.2.1 _ _)⟩;have hsb: ∃ kB,w.shape? g=some (147,kB)∧kB≠0:=by
    obtain⟨e,nB,hB,hlt,_⟩:=World.shape?_of_cell? (hcell 0 _ (List.getElem?_eq_getElem (by omega)))
    obtain⟨cs,fr,hT⟩:=hTy;have:e=147:=by
     unfold World.shape? at hB;rw [hT] at hB;injection hB with hB
     injection hB with hB _
     exact hB.symm
    exact⟨nB,by rw [hB,this],by simp at hlt;omega⟩
   obtain⟨kB,hsb,hkB⟩:=hsb;have hsa:w.shape? xb=some (147,2):=by
    unfold World.shape?;rw [HX.out];simp [hXl]
   have hov: ∀ lb cb,(callFunc 256 #[.slice (some ⟨xb,0,none⟩) 1 1,.slice (some ⟨g,i*2+2,none⟩) lb cb]).run Tryz.prog w= .ok (.value (.bool false)) w:=fun lb cb=>by
    rw [run_callFunc_extern Tryz.func256 (by kernel_rfl) (by kernel_rfl) (by kernel_rfl) (e:=Extern.SlicesOverlaps.overlaps #[28,28] #[4]) (by kernel_rfl),
     Lib.run_overlaps_apart w 28 4 147 Tryz.underlying28 2 (fun w=>by kernel_rfl) ⟨xb,0,none⟩ ⟨g,i*2+2,none⟩ 1 1 lb cb hxg 147 147 2 kB hsa hsb hkB (HX.out.frozen 0) (HX.out.frozen 2)]
    rfl
   have hcp1: ∀ ty dc sc,(Builtin.copy_ #[28,28] ty #[.slice (some ⟨g,i*2+2,none⟩) (l.length - i) dc,.slice (some ⟨g,i*2,none⟩) (l.length+1 - i) sc]).run Tryz.prog w.drew= .ok (goInt ((l.length - i:Nat):Int)) (w.drew.setCells g (i*2+2) D):=fun ty dc sc=>
    Yi w.drew 28 28 ty 147 g (i*2+2) (l.length - i) dc ⟨g,i*2,none⟩ (l.length+1 - i) sc (l.length - i) 2 D Tryz.underlying28 hsz (by simp only [Nat.min_def];split <;> omega) hDl (fun j v hj=>by
     rw [Addr.add_lit];exact hDc j v hj) (Zg H.out _ _ (by rw [hDl];omega)) hD1
   obtain⟨W1,hW1⟩: ∃ W1,W1=w.drew.setCells g (i*2+2) D:=⟨_,rfl⟩
   rw [←hW1] at hcp1 hown1 HRes;have hX1:ZP W1 xb 147 (Mb.cs x):=by rw [hW1];exact(Zb w.drew g hxg _ _).trans HX.out
   have hcp2: ∀ ty dc,(Builtin.copy_ #[28,28] ty #[.slice (some ⟨g,i*2,none⟩) (l.length+1 - i) dc,.slice (some ⟨xb,0,none⟩) 1 1]).run Tryz.prog W1= .ok (goInt 1) (W1.setCells g (i*2) (Mb.cs x)):=fun ty dc=>
    Yi W1 28 28 ty 147 g (i*2) (l.length+1 - i) dc ⟨xb,0,none⟩ 1 1 1 2 (Mb.cs x) Tryz.underlying28 hsz (by simp only [Nat.min_def];split <;> omega) hxl (ZP.news hX1) (Zg hown1 _ _ (by rw [hXl];omega)) (Mb.one x)
   clear hown hown1 hown2 hlaid hsa hsb hW1 hX1 hyl hyt;go_enter Tryz.func191,Tryz.ntmps191
   go_wp2_with (simp only [hov]);go_region_law_o (refine step_copy_runI rfl _ _ 28 28 rfl _ _ (by simp [Act.eval,Act.put]) (by simp [Act.eval,Act.put]) (hcp1 _ _ _) ?_)
   go_wp2_with (at_builtin;refine wpList_copy_runI _ rfl _ _ 28 28 rfl _ _ rfl rfl (hcp2 _ _) ?_);go_ret;exact HRes.out
  ·obtain rfl:c=l.length:=by omega
   have hro:(l.length:Int)< (l.length:Int)+1:=by omega
   have hro2:(l.length:Int)+1 >(l.length:Int):=by omega
   have hold:(Builtin.firstCells i0.size i (.slice (some ⟨g,0,none⟩) i l.length)).run Tryz.prog w.drew= .ok ((l.flatMap Mb.cs).take (i*2)).toArray w.drew:=by
    rw [hz1];exact run_firstCells_some w.drew 2 i ⟨g,0,none⟩ i l.length ((l.flatMap Mb.cs).take (i*2)) (by rw [List.length_take,hlen];omega) (fun j v hj=>by
     rw [Addr.add_lit,Nat.zero_add];rw [List.getElem?_take] at hj;split at hj
     ·exact hcell j v hj
     ·cases hj)
   have hik:i+ (l.length+1 - i)=l.length+1:=by omega
   have hki:(l.length:Int)+1 - (i:Int)=((l.length+1 - i:Nat):Int):=by omega
   obtain⟨G,hG⟩: ∃ G,G=grownCap w (l.length+1) l.length 147:=⟨_,rfl⟩
   obtain⟨ROW,hROW⟩: ∃ ROW:Array Value,ROW=((l.flatMap Mb.cs).take (i*2)).toArray ++Builtin.zeroCells (Value.cells (.agg #[.string ⟨#[]⟩,.string ⟨#[]⟩])) (l.length+1 - i) ++Builtin.zeroCells (Value.cells (.agg #[.string ⟨#[]⟩,.string ⟨#[]⟩])) (G - (l.length+1)):=⟨_,rfl⟩
   have hGn:l.length+1≤G:=by rw [hG];exact grownCap_ge w _ _ _
   have hG63:G≤maxLen:=by rw [hG];exact grownCap_le_maxLen w (l.length+1) l.length 147 (by unfold maxLen;omega)
   have hrz: ∀ ty,(Builtin.append_ #[28,3] ty #[.slice (some ⟨g,0,none⟩) i l.length,.int .i64 ((l.length:Int)+1 - (i:Int))]).run Tryz.prog w= .ok (.slice (some ⟨w.heap.size,0,none⟩) (l.length+1) G) (w.drew.alloc (.cells ROW 147)):=fun ty=>by
    have h:=Lib.run_append_grow_zeros w 28 3 ty 147 i0 _ .i64 .i64 Tryz.underlying28 Tryz.underlying3 hi0 hz0 (some ⟨g,0,none⟩) i l.length ((l.flatMap Mb.cs).take (i*2)) hold (l.length+1 - i) (by omega) (by rw [hz1];decide) (by omega) (by omega) (by rw [hz2];omega) (by rw [hz2,hik];exact growslice_fits (by omega) (by omega));rw [hik,←hG,←hROW] at h;rw [hki];exact h
   have hRs:ROW.size=G*2:=by
    rw [hROW,Array.size_append,Array.size_append,XO,XO,List.size_toArray,List.length_take,hlen,show (Value.cells (.agg #[.string ⟨#[]⟩,.string ⟨#[]⟩])).size=2 from rfl];omega
   have hown:=S7 (T:=147) (k:=2) hbase hRs hGn hG63;have hyl:(ROW.toList.take ((l.length+1)*2)).length=(l.length+1)*2:=by
    have h1:ROW.toList.length=ROW.size:=Array.length_toList;rw [List.length_take,h1,hRs];omega
   have hyt:(ROW.toList.take ((l.length+1)*2)).take (i*2)=(l.flatMap Mb.cs).take (i*2):=by
    rw [List.take_take,Nat.min_eq_left (by omega),hROW];simp only [Array.toList_append,List.append_assoc];rw [List.take_append_of_le_length (by rw [List.length_take,hlen];omega),List.take_take,Nat.min_self]
   generalize ROW.toList.take ((l.length+1)*2)=ys at*;have hlaid:=(Vz ys (Mb.cs x) D i l.length 2 hi hyl hXl hDl).2;have hBw:Below w.heap.size w (w.drew.alloc (.cells ROW 147)):=br.drew.alloc lr _;obtain⟨W1,hW1⟩: ∃ W1,W1=w.drew.alloc (.cells ROW 147):=⟨_,rfl⟩
   rw [←hW1] at hown hrz hBw;have hX1:ZP W1 xb 147 (Mb.cs x):=HX.out.below hBw hxl2;have hown1:=XZ (Mb.cs x) (i*2) hown (by rw [hXl,hyl];omega)
   have hown1':(W1.setCells w.heap.size (i*2) (Mb.cs x)).drew.ownsRow base 147 2 (.slice (some ⟨w.heap.size,0,none⟩) (l.length+1) G) (l.length+1) (X7 ys (i*2) (Mb.cs x)):=Ye hown1;have hown2:=XZ D ((i+1)*2) hown1' (by rw [VV,hDl,hyl];omega)
   rw [hlaid,hfin ys hyt] at hown2;rw [show (i+1)*2=i*2+2 from by omega] at hown2;have hTy1:=(ZK hown).2.2.1;have hBf:Below w.heap.size w (((W1.setCells w.heap.size (i*2) (Mb.cs x)).drew).setCells w.heap.size (i*2+2) D):=((hBw.trans (ZJ lr _ _)).drew).trans (ZJ lr _ _);have HRes:Hid (SE base 147 2 Mb.cs l i x w (.returned (.slice (some ⟨w.heap.size,0,none⟩) (l.length+1) G)) (((W1.setCells w.heap.size (i*2) (Mb.cs x)).drew).setCells w.heap.size (i*2+2) D)):=hid ⟨_,_,rfl,hown2,hBf.mono hbase,ZR.Zp hBf lr⟩;have hcpA: ∀ ty dc,(Builtin.copy_ #[28,28] ty #[.slice (some ⟨w.heap.size,i*2,none⟩) (l.length+1 - i) dc,.slice (some ⟨xb,0,none⟩) 1 1]).run Tryz.prog W1= .ok (goInt 1) (W1.setCells w.heap.size (i*2) (Mb.cs x)):=fun ty dc=>
    Yi W1 28 28 ty 147 w.heap.size (i*2) (l.length+1 - i) dc ⟨xb,0,none⟩ 1 1 1 2 (Mb.cs x) Tryz.underlying28 hsz (by simp only [Nat.min_def];split <;> omega) hxl (ZP.news hX1) (Zg hown _ _ (by rw [hXl];omega)) (Mb.one x)
   have hsrc: ∀ j v,D[j]?=some v→(W1.setCells w.heap.size (i*2) (Mb.cs x)).drew.cell? ((⟨g,i*2,none⟩:Addr).add j)=some v:=fun j v hj=>by
    rw [Addr.add_lit];have h1:w.cell? ⟨g,i*2+j,none⟩=some v:=hDc j v hj;have h2:Below w.heap.size w (W1.setCells w.heap.size (i*2) (Mb.cs x)).drew:=(hBw.trans (ZJ lr _ _)).drew;exact ct h1 h2 hgl
   have hcpB: ∀ ty dc sc,(Builtin.copy_ #[28,28] ty #[.slice (some ⟨w.heap.size,i*2+2,none⟩) (l.length - i) dc,.slice (some ⟨g,i*2,none⟩) (l.length - i) sc]).run Tryz.prog (W1.setCells w.heap.size (i*2) (Mb.cs x)).drew= .ok (goInt ((l.length - i:Nat):Int)) ((W1.setCells w.heap.size (i*2) (Mb.cs x)).drew.setCells w.heap.size (i*2+2) D):=fun ty dc sc=>
    Yi _ 28 28 ty 147 w.heap.size (i*2+2) (l.length - i) dc ⟨g,i*2,none⟩ (l.length - i) sc (l.length - i) 2 D Tryz.underlying28 hsz (Nat.min_self _) hDl hsrc (Zg hown1' _ _ (by rw [hDl];omega)) hD1
   have hGi: ¬ (G=i):=by omega
   have hGim: ¬ (G=i+1):=by omega
   have hci: ¬ (l.length=i):=by omega
   have hG64:G≤9223372036854775807:=hG63;obtain⟨W2,hW2⟩: ∃ W2,W2=W1.setCells w.heap.size (i*2) (Mb.cs x):=⟨_,rfl⟩
   rw [←hW2] at hcpA hcpB HRes;clear hold hik hki hG hROW hRs hown hyl hyt hlaid hW1 hX1 hown1 hown1' hown2 hTy1 hBf hsrc hBw hW2 hG63;go_enter Tryz.func191,Tryz.ntmps191
   go_wp2_with (first
    |(at_builtin;refine Lib.wpList_append_run _ rfl _ _ _ _ rfl _ _ rfl rfl _ _ (hrz _) ?_)
    |(at_builtin;refine wpList_copy_runI _ rfl _ _ 28 28 rfl _ _ rfl rfl (hcpA _ _) ?_))
   go_region_law_o (refine step_copy_runI rfl _ _ 28 28 rfl _ _ (by simp [Act.eval,Act.put]) (by simp [Act.eval,Act.put]) (hcpB _ _ _) ?_)
   go_wp2;go_ret;exact HRes.out
theorem NI (base:Nat)(l:List (List UInt8))(A:Option Addr)(c i:Nat)(x:List UInt8)(xb:Nat)(w:World)(h:w.ownsRow base 9 1 (.slice A l.length c) l.length (l.flatMap YS))(hi:i≤l.length)(hx:ZP w xb 9 (YS x))(hxb: ∀ g,A=some ⟨g,0,none⟩→xb≠g)(hl:l.length≤1099511627776)(hbase:base≤w.heap.size):
  Calls Tryz.prog 188 #[.slice A l.length c,.int .i64 i,.slice (some ⟨xb,0,none⟩) 1 1] w (SE base 9 1 YS l i x w):=by
 obtain⟨i0,hi0,hz0,hz1,hz2⟩:=info_parts Ty;have H:=hid h;have HX:=hid hx;have HXN:=hid (ZP.news hx);have hxl:(YS x).length=1*1:=by rw [YS.k]
 clear hx h;by_cases hin:i=l.length
 ·subst hin;have hres:l.take l.length ++x ::l.drop l.length=l ++ [x]:=by simp
  have HR:Hid (∀ A' c' w',w'.ownsRow base 9 1 (.slice A' (l.length+1) c') (l.length+1) (l.flatMap YS ++YS x)→w.grownBy w' (Value.slice A l.length c).ownBlock→SE base 9 1 YS l l.length x w (.returned (.slice A' (l.length+1) c')) w'):=hid fun A' c' w' ho hg=>by
   refine⟨A',c',rfl,?_,br.grown hg hbase (Zu H.out),ZR.grown H.out hg (by simp) hg.size⟩
   rw [hres,List.flatMap_append,List.flatMap_singleton];exact ho
  have arm:=H;rcases H.out.2 with ⟨h0,_⟩ | ⟨g,cap,cur,h0,_,_,_,_,_,_⟩
  ·injection h0 with e1 e2 e3
   obtain rfl:l= []:=List.eq_nil_of_length_eq_zero e2;subst e1 e3;go_enter Tryz.func188,Tryz.ntmps188
   go_wp2_with (at_builtin;refine YW rfl _ _ _ rfl base 9 i0 _ 1 16 Tryz.underlying27 hi0 hz0 hz1 hz2 rfl (by decide) (.slice none 0 0) 0 _ rfl H.out ⟨xb,0,none⟩ 1 1 (YS x) rfl hxl HXN.out (YS.one x) (by unfold maxLen;omega) (by omega) hbase ?_;intro A3 c3 w3 HO3 hg3)
   all_goals
    go_ret;exact HR.out _ _ _ HO3.out hg3.out
  ·injection h0 with e1 e2 e3
   subst e1;have hcap:=(YR H.out).1;have hcap2:=(YR H.out).2;go_enter Tryz.func188,Tryz.ntmps188
   go_wp2_with (at_builtin;refine YW rfl _ _ _ rfl base 9 i0 _ 1 16 Tryz.underlying27 hi0 hz0 hz1 hz2 rfl (by decide) (.slice (some ⟨g,0,none⟩) l.length c) l.length _ rfl H.out ⟨xb,0,none⟩ 1 1 (YS x) rfl hxl HXN.out (YS.one x) (by unfold maxLen;omega) (by omega) hbase ?_;intro A3 c3 w3 HO3 hg3)
   all_goals
    go_ret;exact HR.out _ _ _ HO3.out hg3.out
 ·obtain⟨g,rfl⟩:=Xi H.out (by omega);have hxg:=hxb g rfl;have hcap:=(YR H.out).1;have hcap2:=(YR H.out).2;have hin2: ¬ ((i:Int)=(l.length:Int)):=by omega
  have hin3:((i:Int) ==(l.length:Int))=false:=by simpa using hin2
  have hii:(i:Int)≤(l.length:Int):=by omega
  have hlen:(l.flatMap YS).length=l.length*1:=H.out.1;have hDl:((l.flatMap YS).drop (i*1)).length=(l.length - i)*1:=by rw [List.length_drop,hlen,←Nat.sub_mul]
  have hXl:(YS x).length=1:=YS.k x;have hD1: ∀ v∈(l.flatMap YS).drop (i*1),v.oneCell'=true:=fun v hv=>Yg YS.one l v (List.mem_of_mem_drop hv)
  have hsz:(Tryz.prog.info? 9).map (·.size)=some 1:=by rw [hi0];simp [hz1]
  have hcell:=(ZK H.out).2.2.2.2;have hgl:=(ZK H.out).2.1;have hgb:=(ZK H.out).1;have hxl2:=HX.out.lt;have hkk:(i+1)*1=i*1+1:=by omega
  have hfin: ∀ zs:List Value,zs.take (i*1)=(l.flatMap YS).take (i*1)→zs.take (i*1) ++ (YS x ++ (l.flatMap YS).drop (i*1))=(l.take i ++x ::l.drop i).flatMap YS:=fun zs h=>by rw [h,RO YS.k]
  have hDc: ∀ j v,((l.flatMap YS).drop (i*1))[j]?=some v→w.cell? ⟨g,i+j,none⟩=some v:=fun j v hj=>hcell _ v (by rw [List.getElem?_drop] at hj;simpa using hj)
  generalize (l.flatMap YS).drop (i*1)=D at*;have hw1:IntKind.i64.wrap ((i:Int)+1)=(i:Int)+1:=by rw [IntKind.wrap_i64];omega
  have htn:((i:Int)+1).toNat=i+1:=by omega
  have hb1:(0:Int)≤(i:Int)+1:=by omega
  have hb3:(i:Int)≤(l.length:Int)+1:=by omega
  have mixed:Tryz.prog.follows .mixedOrders=true:=by kernel_rfl
  by_cases hroom:l.length+1≤c
  ·have hro: ¬ (c:Int)< (l.length:Int)+1:=by omega
   have hro2: ¬ (l.length:Int)+1 >(c:Int):=by omega
   have hb2: ¬ (c=i+1):=by omega
   have hb4: ¬ (c=i):=by omega
   obtain⟨ys,hyl,hyt,hown⟩:=Rz H.out (m:=l.length+1) (by omega) hroom;have hlaid:=(Vz ys (YS x) D i l.length 1 hi hyl hXl hDl).1;replace hown:w.drew.ownsRow base 9 1 (.slice (some ⟨g,0,none⟩) (l.length+1) c) (l.length+1) ys:=hown;have hown1:=XZ D ((i+1)*1) hown (by rw [hDl,hyl];omega)
   have hown2:=XZ (YS x) (i*1) hown1 (by rw [VV,hXl,hyl];omega);rw [hlaid,hfin ys (by rw [←hyt,List.take_take,Nat.min_eq_left (by omega)])] at hown2;rw [show (i+1)*1=i+1 from by omega] at hown1;rw [show (i+1)*1=i+1 from by omega,show i*1=i from by omega] at hown2;have hTy:=(ZK H.out).2.2.1;have HRes:Hid (SE base 9 1 YS l i x w (.returned (.slice (some ⟨g,0,none⟩) (l.length+1) c)) (((w.drew.setCells g (i+1) D)).setCells g (i) (YS x))):=hid ⟨_,_,rfl,hown2,(br.drew.trans (ZJ hgb _ _)).trans (ZJ hgb _ _),((ZR.drew w).trans (ZR.setCells (by simp) (show Zc w.drew g 9 from hTy) _ _)).trans (ZR.setCells (by simp) (ZK hown1).2.2.1 _ _)⟩;have hsb: ∃ kB,w.shape? g=some (9,kB)∧kB≠0:=by
    obtain⟨e,nB,hB,hlt,_⟩:=World.shape?_of_cell? (hcell 0 _ (List.getElem?_eq_getElem (by omega)))
    obtain⟨cs,fr,hT⟩:=hTy;have:e=9:=by
     unfold World.shape? at hB;rw [hT] at hB;injection hB with hB
     injection hB with hB _
     exact hB.symm
    exact⟨nB,by rw [hB,this],by simp at hlt;omega⟩
   obtain⟨kB,hsb,hkB⟩:=hsb;have hsa:w.shape? xb=some (9,1):=by
    unfold World.shape?;rw [HX.out];simp [hXl]
   have hov: ∀ lb cb,(callFunc 254 #[.slice (some ⟨xb,0,none⟩) 1 1,.slice (some ⟨g,i+1,none⟩) lb cb]).run Tryz.prog w= .ok (.value (.bool false)) w:=fun lb cb=>by
    rw [run_callFunc_extern Tryz.func254 (by kernel_rfl) (by kernel_rfl) (by kernel_rfl) (e:=Extern.SlicesOverlaps.overlaps #[27,27] #[4]) (by kernel_rfl),
     Lib.run_overlaps_apart w 27 4 9 Tryz.underlying27 1 (fun w=>by kernel_rfl) ⟨xb,0,none⟩ ⟨g,i+1,none⟩ 1 1 lb cb hxg 9 9 1 kB hsa hsb hkB (HX.out.frozen 0) (HX.out.frozen 1)]
    rfl
   have hcp1: ∀ ty dc sc,(Builtin.copy_ #[27,27] ty #[.slice (some ⟨g,i+1,none⟩) (l.length - i) dc,.slice (some ⟨g,i,none⟩) (l.length+1 - i) sc]).run Tryz.prog w.drew= .ok (goInt ((l.length - i:Nat):Int)) (w.drew.setCells g (i+1) D):=fun ty dc sc=>
    Yi w.drew 27 27 ty 9 g (i+1) (l.length - i) dc ⟨g,i,none⟩ (l.length+1 - i) sc (l.length - i) 1 D Tryz.underlying27 hsz (by simp only [Nat.min_def];split <;> omega) hDl (fun j v hj=>by
     rw [Addr.add_lit];exact hDc j v hj) (Zg H.out _ _ (by rw [hDl];omega)) hD1
   obtain⟨W1,hW1⟩: ∃ W1,W1=w.drew.setCells g (i+1) D:=⟨_,rfl⟩
   rw [←hW1] at hcp1 hown1 HRes;have hX1:ZP W1 xb 9 (YS x):=by rw [hW1];exact(Zb w.drew g hxg _ _).trans HX.out
   have hcp2: ∀ ty dc,(Builtin.copy_ #[27,27] ty #[.slice (some ⟨g,i,none⟩) (l.length+1 - i) dc,.slice (some ⟨xb,0,none⟩) 1 1]).run Tryz.prog W1= .ok (goInt 1) (W1.setCells g (i) (YS x)):=fun ty dc=>
    Yi W1 27 27 ty 9 g (i) (l.length+1 - i) dc ⟨xb,0,none⟩ 1 1 1 1 (YS x) Tryz.underlying27 hsz (by simp only [Nat.min_def];split <;> omega) hxl (ZP.news hX1) (Zg hown1 _ _ (by rw [hXl];omega)) (YS.one x)
   clear hown hown1 hown2 hlaid hsa hsb hW1 hX1 hyl hyt;go_enter Tryz.func188,Tryz.ntmps188
   go_wp2_with (simp only [hov]);go_region_law_o (refine step_copy_runI rfl _ _ 27 27 rfl _ _ (by simp [Act.eval,Act.put]) (by simp [Act.eval,Act.put]) (hcp1 _ _ _) ?_)
   go_wp2_with (at_builtin;refine wpList_copy_runI _ rfl _ _ 27 27 rfl _ _ rfl rfl (hcp2 _ _) ?_);go_ret;exact HRes.out
  ·obtain rfl:c=l.length:=by omega
   have hro:(l.length:Int)< (l.length:Int)+1:=by omega
   have hro2:(l.length:Int)+1 >(l.length:Int):=by omega
   have hold:(Builtin.firstCells i0.size i (.slice (some ⟨g,0,none⟩) i l.length)).run Tryz.prog w.drew= .ok ((l.flatMap YS).take (i*1)).toArray w.drew:=by
    rw [hz1];exact run_firstCells_some w.drew 1 i ⟨g,0,none⟩ i l.length ((l.flatMap YS).take (i*1)) (by rw [List.length_take,hlen];omega) (fun j v hj=>by
     rw [Addr.add_lit,Nat.zero_add];rw [List.getElem?_take] at hj;split at hj
     ·exact hcell j v hj
     ·cases hj)
   have hik:i+ (l.length+1 - i)=l.length+1:=by omega
   have hki:(l.length:Int)+1 - (i:Int)=((l.length+1 - i:Nat):Int):=by omega
   obtain⟨G,hG⟩: ∃ G,G=grownCap w (l.length+1) l.length 9:=⟨_,rfl⟩
   obtain⟨ROW,hROW⟩: ∃ ROW:Array Value,ROW=((l.flatMap YS).take (i*1)).toArray ++Builtin.zeroCells (Value.cells (.string ⟨#[]⟩)) (l.length+1 - i) ++Builtin.zeroCells (Value.cells (.string ⟨#[]⟩)) (G - (l.length+1)):=⟨_,rfl⟩
   have hGn:l.length+1≤G:=by rw [hG];exact grownCap_ge w _ _ _
   have hG63:G≤maxLen:=by rw [hG];exact grownCap_le_maxLen w (l.length+1) l.length 9 (by unfold maxLen;omega)
   have hrz: ∀ ty,(Builtin.append_ #[27,3] ty #[.slice (some ⟨g,0,none⟩) i l.length,.int .i64 ((l.length:Int)+1 - (i:Int))]).run Tryz.prog w= .ok (.slice (some ⟨w.heap.size,0,none⟩) (l.length+1) G) (w.drew.alloc (.cells ROW 9)):=fun ty=>by
    have h:=Lib.run_append_grow_zeros w 27 3 ty 9 i0 _ .i64 .i64 Tryz.underlying27 Tryz.underlying3 hi0 hz0 (some ⟨g,0,none⟩) i l.length ((l.flatMap YS).take (i*1)) hold (l.length+1 - i) (by omega) (by rw [hz1];decide) (by omega) (by omega) (by rw [hz2];omega) (by rw [hz2,hik];exact growslice_fits (by omega) (by omega));rw [hik,←hG,←hROW] at h;rw [hki];exact h
   have hRs:ROW.size=G*1:=by
    rw [hROW,Array.size_append,Array.size_append,XO,XO,List.size_toArray,List.length_take,hlen,show (Value.cells (.string ⟨#[]⟩)).size=1 from rfl];omega
   have hown:=S7 (T:=9) (k:=1) hbase hRs hGn hG63;have hyl:(ROW.toList.take ((l.length+1)*1)).length=(l.length+1)*1:=by
    have h1:ROW.toList.length=ROW.size:=Array.length_toList;rw [List.length_take,h1,hRs];omega
   have hyt:(ROW.toList.take ((l.length+1)*1)).take (i*1)=(l.flatMap YS).take (i*1):=by
    rw [List.take_take,Nat.min_eq_left (by omega),hROW];simp only [Array.toList_append,List.append_assoc];rw [List.take_append_of_le_length (by rw [List.length_take,hlen];omega),List.take_take,Nat.min_self]
   generalize ROW.toList.take ((l.length+1)*1)=ys at*;have hlaid:=(Vz ys (YS x) D i l.length 1 hi hyl hXl hDl).2;have hBw:Below w.heap.size w (w.drew.alloc (.cells ROW 9)):=br.drew.alloc lr _;obtain⟨W1,hW1⟩: ∃ W1,W1=w.drew.alloc (.cells ROW 9):=⟨_,rfl⟩
   rw [←hW1] at hown hrz hBw;have hX1:ZP W1 xb 9 (YS x):=HX.out.below hBw hxl2;have hown1:=XZ (YS x) (i*1) hown (by rw [hXl,hyl];omega)
   have hown1':(W1.setCells w.heap.size (i*1) (YS x)).drew.ownsRow base 9 1 (.slice (some ⟨w.heap.size,0,none⟩) (l.length+1) G) (l.length+1) (X7 ys (i*1) (YS x)):=Ye hown1;have hown2:=XZ D ((i+1)*1) hown1' (by rw [VV,hDl,hyl];omega)
   rw [hlaid,hfin ys hyt] at hown2;rw [show i*1=i from by omega] at hown1;rw [show i*1=i from by omega] at hown1';rw [show (i+1)*1=i+1 from by omega,show i*1=i from by omega] at hown2;have hTy1:=(ZK hown).2.2.1;have hBf:Below w.heap.size w (((W1.setCells w.heap.size (i) (YS x)).drew).setCells w.heap.size (i+1) D):=((hBw.trans (ZJ lr _ _)).drew).trans (ZJ lr _ _);have HRes:Hid (SE base 9 1 YS l i x w (.returned (.slice (some ⟨w.heap.size,0,none⟩) (l.length+1) G)) (((W1.setCells w.heap.size (i) (YS x)).drew).setCells w.heap.size (i+1) D)):=hid ⟨_,_,rfl,hown2,hBf.mono hbase,ZR.Zp hBf lr⟩;have hcpA: ∀ ty dc,(Builtin.copy_ #[27,27] ty #[.slice (some ⟨w.heap.size,i,none⟩) (l.length+1 - i) dc,.slice (some ⟨xb,0,none⟩) 1 1]).run Tryz.prog W1= .ok (goInt 1) (W1.setCells w.heap.size (i) (YS x)):=fun ty dc=>
    Yi W1 27 27 ty 9 w.heap.size (i) (l.length+1 - i) dc ⟨xb,0,none⟩ 1 1 1 1 (YS x) Tryz.underlying27 hsz (by simp only [Nat.min_def];split <;> omega) hxl (ZP.news hX1) (Zg hown _ _ (by rw [hXl];omega)) (YS.one x)
   have hsrc: ∀ j v,D[j]?=some v→(W1.setCells w.heap.size (i) (YS x)).drew.cell? ((⟨g,i,none⟩:Addr).add j)=some v:=fun j v hj=>by
    rw [Addr.add_lit];have h1:w.cell? ⟨g,i+j,none⟩=some v:=hDc j v hj;have h2:Below w.heap.size w (W1.setCells w.heap.size (i) (YS x)).drew:=(hBw.trans (ZJ lr _ _)).drew;exact ct h1 h2 hgl
   have hcpB: ∀ ty dc sc,(Builtin.copy_ #[27,27] ty #[.slice (some ⟨w.heap.size,i+1,none⟩) (l.length - i) dc,.slice (some ⟨g,i,none⟩) (l.length - i) sc]).run Tryz.prog (W1.setCells w.heap.size (i) (YS x)).drew= .ok (goInt ((l.length - i:Nat):Int)) ((W1.setCells w.heap.size (i) (YS x)).drew.setCells w.heap.size (i+1) D):=fun ty dc sc=>
    Yi _ 27 27 ty 9 w.heap.size (i+1) (l.length - i) dc ⟨g,i,none⟩ (l.length - i) sc (l.length - i) 1 D Tryz.underlying27 hsz (Nat.min_self _) hDl hsrc (Zg hown1' _ _ (by rw [hDl];omega)) hD1
   have hGi: ¬ (G=i):=by omega
   have hGim: ¬ (G=i+1):=by omega
   have hci: ¬ (l.length=i):=by omega
   have hG64:G≤9223372036854775807:=hG63;obtain⟨W2,hW2⟩: ∃ W2,W2=W1.setCells w.heap.size (i) (YS x):=⟨_,rfl⟩
   rw [←hW2] at hcpA hcpB HRes;clear hold hik hki hG hROW hRs hown hyl hyt hlaid hW1 hX1 hown1 hown1' hown2 hTy1 hBf hsrc hBw hW2 hG63;go_enter Tryz.func188,Tryz.ntmps188
   go_wp2_with (first
    |(at_builtin;refine Lib.wpList_append_run _ rfl _ _ _ _ rfl _ _ rfl rfl _ _ (hrz _) ?_)
    |(at_builtin;refine wpList_copy_runI _ rfl _ _ 27 27 rfl _ _ rfl rfl (hcpA _ _) ?_))
   go_region_law_o (refine step_copy_runI rfl _ _ 27 27 rfl _ _ (by simp [Act.eval,Act.put]) (by simp [Act.eval,Act.put]) (hcpB _ _ _) ?_)
   go_wp2;go_ret;exact HRes.out
end Go.Proofs.YtnhmoibjlakhjaaGreat
