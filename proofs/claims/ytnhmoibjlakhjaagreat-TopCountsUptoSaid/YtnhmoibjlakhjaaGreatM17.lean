/- Lemmas of the proof. No condition but each theorem's own. -/
import Derived.Deep.RegionHeld
set_option linter.unusedVariables false
set_option linter.unusedSimpArgs false
namespace Go.Proofs.YtnhmoibjlakhjaaGreat
set_option maxRecDepth 100000
set_option maxHeartbeats 16000000
section
variable {P : Program} {ops : Array Oper} {Q : Exit → Act → World → Prop} {md : Region.Mode} {S : World → Prop} {last : Nat}
def YI (P:Program)(md:Region.Mode)(ops:Array Oper)(Q:Exit→Act→World→Prop)(S:World→Prop)(last:Nat):Nat→Array Bool→Act→World→Prop
 | 0,l,a,w=>Region.ready md ops l= []∧Q .normal a w
 | n+1,l,a,w=>(Region.ready md ops l= []→Q .normal a w)∧ ∀ j∈Region.ready md ops l,wpOp P ops Q j (fun a' w'=>(j≠last→S w')∧YI P md ops Q S last n (l.setIfInBounds j true) a' w') a w
theorem YI.any: ∀ (n:Nat)(l:Array Bool)(a:Act)(w:World),YI P md ops Q S last n l a w→wpAny P md ops Q n l a w
 | 0,_,_,_,h=>h
 | n+1,_,_,_,h=>⟨h.1,fun j hj=>wpOp_mono (fun a' w' h'=>h'.2.any n _ a' w') (h.2 j hj)⟩
def waits (md:Region.Mode)(ops:Array Oper)(last i:Nat):Bool:=match ops[last]? with
 | some o=>o.after.any fun e=>Region.binds md e && e.on == i
 | none=>true
theorem VS {i:Nat}{l:Array Bool}(hl:waits md ops last i=true)(hi:i∈Region.ready md ops l):last∉Region.ready md ops l:=fun h=>by
 obtain⟨_,o,ho,hall⟩:=mem_ready.1 h;simp only [waits,ho,Array.any_eq_true] at hl;obtain⟨k,hk,he⟩:=hl;simp only [Bool.and_eq_true,beq_iff_eq] at he;have U4:=hall o.after[k] (Array.getElem_mem hk) he.1;rw [he.2] at U4;have hun:=(mem_ready.1 hi).1;rw [Array.getD_eq_getD_getElem?] at U4 hun
 cases hx:l[i]? with
 | none=>simp [hx] at U4
 | some b=>simp [hx] at U4 hun;simp_all
theorem YI.take {i:Nat}{oi:Oper}{v:Value}{n:Nat}{l:Array Bool}{a:Act}{w:World}(hi:ops[i]?=some oi)(hs:Region.noSelect ops=true)(hf:Region.free md ops l i=true)
  (hr:(Region.ready md ops l).contains i=true) (hl:waits md ops last i=true) (hQ: ∀ c a w,Q (.panic c) (a.put oi.dst v) w→Q (.panic c) a w) (hy:YieldsIf P ops S oi v a) (hS:S w)
  (h:YI P md ops Q S last n (l.setIfInBounds i true) (a.put oi.dst v) w):YI P md ops Q S last (n+1) l a w:=by
 have go: ∀ (n:Nat) (l:Array Bool) (a:Act) (w:World),(∀ (j:Nat) (oj:Oper),ops[j]?=some oj→j≠i→l.getD j true=false→(∀ e∈oj.after,Region.binds md e=true→e.on≠i)→oi.apart ops oj=true)→i∈Region.ready md ops l→YieldsIf P ops S oi v a→S w→
   YI P md ops Q S last n (l.setIfInBounds i true) (a.put oi.dst v) w→YI P md ops Q S last (n+1) l a w:=by
  intro n;induction n with
  | zero=>
   intro l a w _ hr hy hS H;refine⟨fun h0=>(by rw [h0] at hr;cases hr),fun j hj=> ?_⟩;by_cases e:j=i
   ·subst e;exact hy.wpOp hi hS ⟨fun _=>hS,H⟩
   ·have h1:=ready_mono hj e;rw [H.1] at h1
    cases h1
  | succ n ih=>
   intro l a w hfree hr hy hS H;refine⟨fun h0=>(by rw [h0] at hr;cases hr),fun j hj=> ?_⟩;by_cases e:j=i
   ·subst e;exact hy.wpOp hi hS ⟨fun _=>hS,H⟩
   have hjl:j≠last:=fun e'=>VS hl hr (e'▸hj)
   obtain⟨hun,oj,hoj,hall⟩:=mem_ready.1 hj;have hno: ∀ e∈oj.after,Region.binds md e=true→e.on≠i:=fun e he hb heq=>by
    have h1:=hall e he hb;have h0:=(mem_ready.1 hr).1;rw [heq,Array.getD_eq_getD_getElem?] at h1;rw [Array.getD_eq_getD_getElem?] at h0
    cases hx:l[i]? with
    | none=>simp [hx] at h1
    | some b=>simp [hx] at h1 h0;simp_all
   have h2:=wpOp_putIf hoj (hfree j oj hoj e hun hno) (fun cs b=>Region.noSelect_spec hs i oi cs b hi) (fun cs b=>Region.noSelect_spec hs j oj cs b hoj) hQ hy (H.2 j (ready_mono hj e));refine wpOp_mono (fun a' w' h3=>⟨fun _=>h3.2.1 hjl,ih _ a' w' (fun k ok hk hki hkun hkno=>hfree k ok hk hki ?_ hkno) (ready_mono hr (Ne.symm e)) h3.1 (h3.2.1 hjl) ?_⟩) h2
   ·by_cases ek:j=k
    ·subst ek;exact hun
    ·rwa [getD_set_ne true ek] at hkun
   ·rw [Array.setIfInBounds_comm _ _ e];exact h3.2.2
 exact go n l a w (Region.free_spec hi hf) (by simpa using hr) hy hS h
theorem YI.one {i:Nat}{o:Oper}{n:Nat}{l:Array Bool}{a:Act}{w:World}(hr:Region.ready md ops l= [i])(ho:ops[i]?=some o)
  (h: ∀ K':Act→World→Prop,Shut (∀ a w,S w→YI P md ops Q S last n (l.setIfInBounds i true) a w→K' a w)→if Region.wanted o (yielded ops a.tmps)=true then Oper.wp P o a w K' Q else K' (a.put o.dst undef) w):YI P md ops Q S last (n+1) l a w:=by
 refine⟨fun h0=>(by rw [hr] at h0;cases h0),fun j hj=> ?_⟩
 rw [hr] at hj;obtain rfl:=List.mem_singleton.1 hj;exact wpOp_step ho fun K' hK=>h K' fun a w hS hW=>hK a w ⟨fun _=>hS,hW⟩
theorem YI.Xq {i:Nat}{o:Oper}{n:Nat}{l:Array Bool}{a:Act}{w:World}(hr:Region.ready md ops l= [i])(hi:i=last)(ho:ops[i]?=some o)
  (h: ∀ K':Act→World→Prop,Shut (∀ a w,YI P md ops Q S last n (l.setIfInBounds i true) a w→K' a w)→if Region.wanted o (yielded ops a.tmps)=true then Oper.wp P o a w K' Q else K' (a.put o.dst undef) w):YI P md ops Q S last (n+1) l a w:=by
 refine⟨fun h0=>(by rw [hr] at h0;cases h0),fun j hj=> ?_⟩
 rw [hr] at hj;obtain rfl:=List.mem_singleton.1 hj;exact wpOp_step ho fun K' hK=>h K' fun a w hW=>hK a w ⟨fun hne=>absurd hi hne,hW⟩
theorem YI.done {l:Array Bool}{a:Act}{w:World}(hr:Region.ready md ops l= [])(h:Q .normal a w): ∀ n,YI P md ops Q S last n l a w
 | 0=>⟨hr,h⟩
 | _+1=>⟨fun _=>h,by rw [hr];simp⟩
theorem Yy {id:Nat}{a:Act}{w:World}(last:Nat)(hm:P.follows .mixedOrders=true)(hS:S w.drew)
  (h:S w.drew→YI P .any ops Q S last ops.size (Array.replicate ops.size false) a w.drew):(Code.region id ops true).wp P Q a w:=
 wp_region_any hm ((h hS).any _ _ _ _)
end
section
variable {P : Program} {ops : Array Oper} {Q : Exit → Act → World → Prop} {md : Region.Mode} {S : World → Prop} {last : Nat}
def ZB (P:Program)(md:Region.Mode)(ops:Array Oper)(Q:Exit→Act→World→Prop)(S:World→Prop)(last:Nat):Nat→Bool→Array Bool→Act→World→Prop
 | 0,_,l,a,w=>Region.ready md ops l= []∧Q .normal a w
 | n+1,d,l,a,w=>(Region.ready md ops l= []→Q .normal a w)∧ ∀ j∈Region.ready md ops l,wpOp P ops Q j (fun a' w'=>((d || j == last)=false→S w')∧ZB P md ops Q S last n (d || j == last) (l.setIfInBounds j true) a' w') a w
theorem ZB.any: ∀ (n:Nat)(d:Bool)(l:Array Bool)(a:Act)(w:World),ZB P md ops Q S last n d l a w→wpAny P md ops Q n l a w
 | 0,_,_,_,_,h=>h
 | n+1,_,_,_,_,h=>⟨h.1,fun j hj=>wpOp_mono (fun a' w' h'=>h'.2.any n _ _ a' w') (h.2 j hj)⟩
theorem ZB.take {i:Nat}{oi:Oper}{v:Value}{n:Nat}{l:Array Bool}{a:Act}{w:World}(hi:ops[i]?=some oi)(hs:Region.noSelect ops=true)(hf:Region.free md ops l i=true)
  (hr:(Region.ready md ops l).contains i=true) (hl:waits md ops last i=true) (hQ: ∀ c a w,Q (.panic c) (a.put oi.dst v) w→Q (.panic c) a w) (hy:YieldsIf P ops S oi v a) (hS:S w)
  (h:ZB P md ops Q S last n false (l.setIfInBounds i true) (a.put oi.dst v) w):ZB P md ops Q S last (n+1) false l a w:=by
 have hil:(i == last)=false:=by
  have h1:=VS hl (by simpa using hr:i∈Region.ready md ops l);have h2:i∈Region.ready md ops l:=by simpa using hr
  simpa using fun e:i=last=>h1 (e▸h2)
 have go: ∀ (n:Nat) (l:Array Bool) (a:Act) (w:World),(∀ (j:Nat) (oj:Oper),ops[j]?=some oj→j≠i→l.getD j true=false→(∀ e∈oj.after,Region.binds md e=true→e.on≠i)→oi.apart ops oj=true)→i∈Region.ready md ops l→YieldsIf P ops S oi v a→S w→
   ZB P md ops Q S last n false (l.setIfInBounds i true) (a.put oi.dst v) w→ZB P md ops Q S last (n+1) false l a w:=by
  intro n;induction n with
  | zero=>
   intro l a w _ hr hy hS H;refine⟨fun h0=>(by rw [h0] at hr;cases hr),fun j hj=> ?_⟩;by_cases e:j=i
   ·subst e;simp only [hil,Bool.or_false];exact hy.wpOp hi hS ⟨fun _=>hS,H⟩
   ·have h1:=ready_mono hj e;rw [H.1] at h1
    cases h1
  | succ n ih=>
   intro l a w hfree hr hy hS H;refine⟨fun h0=>(by rw [h0] at hr;cases hr),fun j hj=> ?_⟩;by_cases e:j=i
   ·subst e;simp only [hil,Bool.or_false];exact hy.wpOp hi hS ⟨fun _=>hS,H⟩
   have hjl:(j == last)=false:=by simpa using fun e':j=last=>VS hl hr (e'▸hj)
   obtain⟨hun,oj,hoj,hall⟩:=mem_ready.1 hj;have hno: ∀ e∈oj.after,Region.binds md e=true→e.on≠i:=fun e he hb heq=>by
    have h1:=hall e he hb;have h0:=(mem_ready.1 hr).1;rw [heq,Array.getD_eq_getD_getElem?] at h1;rw [Array.getD_eq_getD_getElem?] at h0
    cases hx:l[i]? with
    | none=>simp [hx] at h1
    | some b=>simp [hx] at h1 h0;simp_all
   have h2:=wpOp_putIf hoj (hfree j oj hoj e hun hno) (fun cs b=>Region.noSelect_spec hs i oi cs b hi) (fun cs b=>Region.noSelect_spec hs j oj cs b hoj) hQ hy (H.2 j (ready_mono hj e));simp only [hjl,Bool.or_false] at h2 ⊢;refine wpOp_mono (fun a' w' h3=>⟨fun _=>h3.2.1 trivial,ih _ a' w' (fun k ok hk hki hkun hkno=>hfree k ok hk hki ?_ hkno) (ready_mono hr (Ne.symm e)) h3.1 (h3.2.1 trivial) ?_⟩) h2
   ·by_cases ek:j=k
    ·subst ek;exact hun
    ·rwa [getD_set_ne true ek] at hkun
   ·rw [Array.setIfInBounds_comm _ _ e];exact h3.2.2
 exact go n l a w (Region.free_spec hi hf) (by simpa using hr) hy hS h
theorem ZB.pure {i:Nat}{oi:Oper}{v:Value}{n:Nat}{d:Bool}{l:Array Bool}{a:Act}{w:World}(hi:ops[i]?=some oi)(hs:Region.noSelect ops=true)(hf:Region.free md ops l i=true)
  (hr:(Region.ready md ops l).contains i=true) (hil:(i == last)=false) (hQ: ∀ c a w,Q (.panic c) (a.put oi.dst v) w→Q (.panic c) a w) (hy:YieldsIf P ops (fun _=>True) oi v a) (hS:d=false→S w)
  (h:ZB P md ops Q S last n d (l.setIfInBounds i true) (a.put oi.dst v) w):ZB P md ops Q S last (n+1) d l a w:=by
 have go: ∀ (n:Nat) (d:Bool) (l:Array Bool) (a:Act) (w:World),(∀ (j:Nat) (oj:Oper),ops[j]?=some oj→j≠i→l.getD j true=false→(∀ e∈oj.after,Region.binds md e=true→e.on≠i)→oi.apart ops oj=true)→i∈Region.ready md ops l→YieldsIf P ops (fun _=>True) oi v a→(d=false→S w)→
   ZB P md ops Q S last n d (l.setIfInBounds i true) (a.put oi.dst v) w→ZB P md ops Q S last (n+1) d l a w:=by
  intro n;induction n with
  | zero=>
   intro d l a w _ hr hy hS H;refine⟨fun h0=>(by rw [h0] at hr;cases hr),fun j hj=> ?_⟩;by_cases e:j=i
   ·subst e;simp only [hil,Bool.or_false];exact hy.wpOp hi trivial ⟨hS,H⟩
   ·have h1:=ready_mono hj e;rw [H.1] at h1
    cases h1
  | succ n ih=>
   intro d l a w hfree hr hy hS H;refine⟨fun h0=>(by rw [h0] at hr;cases hr),fun j hj=> ?_⟩;by_cases e:j=i
   ·subst e;simp only [hil,Bool.or_false];exact hy.wpOp hi trivial ⟨hS,H⟩
   obtain⟨hun,oj,hoj,hall⟩:=mem_ready.1 hj;have hno: ∀ e∈oj.after,Region.binds md e=true→e.on≠i:=fun e he hb heq=>by
    have h1:=hall e he hb;have h0:=(mem_ready.1 hr).1;rw [heq,Array.getD_eq_getD_getElem?] at h1;rw [Array.getD_eq_getD_getElem?] at h0
    cases hx:l[i]? with
    | none=>simp [hx] at h1
    | some b=>simp [hx] at h1 h0;simp_all
   have h2:=wpOp_putIf hoj (hfree j oj hoj e hun hno) (fun cs b=>Region.noSelect_spec hs i oi cs b hi) (fun cs b=>Region.noSelect_spec hs j oj cs b hoj) hQ hy (H.2 j (ready_mono hj e));refine wpOp_mono (fun a' w' h3=>⟨h3.2.1,ih _ _ a' w' (fun k ok hk hki hkun hkno=>hfree k ok hk hki ?_ hkno) (ready_mono hr (Ne.symm e)) h3.1 h3.2.1 ?_⟩) h2
   ·by_cases ek:j=k
    ·subst ek;exact hun
    ·rwa [getD_set_ne true ek] at hkun
   ·rw [Array.setIfInBounds_comm _ _ e];exact h3.2.2
 exact go n d l a w (Region.free_spec hi hf) (by simpa using hr) hy hS h
theorem ZB.one {i:Nat}{o:Oper}{n:Nat}{l:Array Bool}{a:Act}{w:World}(hr:Region.ready md ops l= [i])(ho:ops[i]?=some o)(hil:(i == last)=false)
  (h: ∀ K':Act→World→Prop,Shut (∀ a w,S w→ZB P md ops Q S last n false (l.setIfInBounds i true) a w→K' a w)→if Region.wanted o (yielded ops a.tmps)=true then Oper.wp P o a w K' Q else K' (a.put o.dst undef) w):ZB P md ops Q S last (n+1) false l a w:=by
 refine⟨fun h0=>(by rw [hr] at h0;cases h0),fun j hj=> ?_⟩
 rw [hr] at hj;obtain rfl:=List.mem_singleton.1 hj;simp only [hil,Bool.or_false];exact wpOp_step ho fun K' hK=>h K' fun a w hS hW=>hK a w ⟨fun _=>hS,hW⟩
theorem ZB.Xq {i:Nat}{o:Oper}{n:Nat}{d:Bool}{l:Array Bool}{a:Act}{w:World}(hr:Region.ready md ops l= [i])(hi:(i == last)=true)(ho:ops[i]?=some o)
  (h: ∀ K':Act→World→Prop,Shut (∀ a w,ZB P md ops Q S last n true (l.setIfInBounds i true) a w→K' a w)→if Region.wanted o (yielded ops a.tmps)=true then Oper.wp P o a w K' Q else K' (a.put o.dst undef) w):ZB P md ops Q S last (n+1) d l a w:=by
 refine⟨fun h0=>(by rw [hr] at h0;cases h0),fun j hj=> ?_⟩
 rw [hr] at hj;obtain rfl:=List.mem_singleton.1 hj;simp only [hi,Bool.or_true];exact wpOp_step ho fun K' hK=>h K' fun a w hW=>hK a w ⟨fun hf=>(by cases hf),hW⟩
theorem ZB.done {d:Bool}{l:Array Bool}{a:Act}{w:World}(hr:Region.ready md ops l= [])(h:Q .normal a w): ∀ n,ZB P md ops Q S last n d l a w
 | 0=>⟨hr,h⟩
 | _+1=>⟨fun _=>h,by rw [hr];simp⟩
theorem Zw {id:Nat}{a:Act}{w:World}(last:Nat)(hm:P.follows .mixedOrders=true)(hS:S w.drew)
  (h:S w.drew→ZB P .any ops Q S last ops.size false (Array.replicate ops.size false) a w.drew):(Code.region id ops true).wp P Q a w:=
 wp_region_any hm ((h hS).any _ _ _ _ _)
end
end Go.Proofs.YtnhmoibjlakhjaaGreat
