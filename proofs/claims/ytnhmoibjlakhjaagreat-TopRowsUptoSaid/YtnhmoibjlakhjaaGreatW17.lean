/- Lemmas, each under its own conditions. -/
import Derived.Deep.RegionHeld
set_option linter.all false
namespace Go.Proofs.YtnhmoibjlakhjaaGreat
set_option maxRecDepth 100000
set_option maxHeartbeats 16000000
section
variable {P : Program} {ops : Array Oper} {Q : Exit -> Act -> World -> Prop} {md : Region.Mode} {S : World -> Prop} {last : Nat}
def Yt (P:Program)(md:Region.Mode)(ops:Array Oper)(Q:Exit->Act->World->Prop)(S:World->Prop)(last:Nat):Nat->Array Bool->Act->World->Prop
 | 0,l,a,w=>Region.ready md ops l= []/\Q .normal a w
 | n+1,l,a,w=>(Region.ready md ops l= []->Q .normal a w)/\ ∀ j∈Region.ready md ops l,wpOp P ops Q j (fun a' w'=>(j≠last->S w')/\Yt P md ops Q S last n (l.setIfInBounds j true) a' w') a w
theorem Yt.any: ∀ (n:Nat)(l:Array Bool)(a:Act)(w:World),Yt P md ops Q S last n l a w->wpAny P md ops Q n l a w
 | 0,_,_,_,h=>h
 | n+1,_,_,_,h=>⟨h.1,fun j s=>wpOp_mono (fun d w' m=>m.2.any n _ d w') (h.2 j s)⟩
def waits (md:Region.Mode)(ops:Array Oper)(last i:Nat):Bool:=match ops[last]? with
 | some o=>o.after.any fun e=>Region.binds md e && e.on == i
 | none=>true
theorem U5 {i:Nat}{l:Array Bool}(m:waits md ops last i=true)(u:i∈Region.ready md ops l):last∉Region.ready md ops l:=fun h=>by
 obtain⟨_,o,D,s⟩:=mem_ready.1 h;simp only [waits,D,Array.any_eq_true] at m;obtain⟨k,C,d⟩:=m;simp only [Bool.and_eq_true,beq_iff_eq] at d;have UK:=s o.after[k] (Array.getElem_mem C) d.1;rw [d.2] at UK;have j:=(mem_ready.1 u).1;rw [Array.getD_eq_getD_getElem?] at UK j
 cases hx:l[i]? with
 | none=>simp [hx] at UK
 | some b=>simp [hx] at UK j;simp_all
theorem Yt.take {i:Nat}{oi:Oper}{v:Value}{n:Nat}{l:Array Bool}{a:Act}{w:World}(G:ops[i]?=some oi)(M:Region.noSelect ops=true)(hf:Region.free md ops l i=true)
  (d:(Region.ready md ops l).contains i=true) (hl:waits md ops last i=true) (hQ: ∀ c a w,Q (.panic c) (a.put oi.dst v) w->Q (.panic c) a w) (D:YieldsIf P ops S oi v a) (m:S w)
  (h:Yt P md ops Q S last n (l.setIfInBounds i true) (a.put oi.dst v) w):Yt P md ops Q S last (n+1) l a w:=by
 have go: ∀ (n:Nat) (l:Array Bool) (a:Act) (w:World),(∀ (j:Nat) (s:Oper),ops[j]?=some s->j≠i->l.getD j true=false->(∀ e∈s.after,Region.binds md e=true->e.on≠i)->oi.apart ops s=true)->i∈Region.ready md ops l->YieldsIf P ops S oi v a->S w->
   Yt P md ops Q S last n (l.setIfInBounds i true) (a.put oi.dst v) w->Yt P md ops Q S last (n+1) l a w:=by
  intro n;induction n with
  | zero=>
   intro l a w _ d D m H;refine⟨fun u=>(by rw [u] at d;cases d),fun j E=> ?_⟩;by_cases e:j=i
   ·subst e;exact D.wpOp G m ⟨fun _=>m,H⟩
   ·have C:=ready_mono E e;rw [H.1] at C
    cases C
  | succ n ih=>
   intro l a w J d D m H;refine⟨fun u=>(by rw [u] at d;cases d),fun j E=> ?_⟩;by_cases e:j=i
   ·subst e;exact D.wpOp G m ⟨fun _=>m,H⟩
   have K:j≠last:=fun e'=>U5 hl d (e'▸E)
   obtain⟨L,s,I,N⟩:=mem_ready.1 E;have Z: ∀ e∈s.after,Region.binds md e=true->e.on≠i:=fun e he hb U=>by
    have C:=N e he hb;have u:=(mem_ready.1 d).1;rw [U,Array.getD_eq_getD_getElem?] at C;rw [Array.getD_eq_getD_getElem?] at u
    cases hx:l[i]? with
    | none=>simp [hx] at C
    | some b=>simp [hx] at C u;simp_all
   have h2:=wpOp_putIf I (J j s I e L Z) (fun cs b=>Region.noSelect_spec M i oi cs b G) (fun cs b=>Region.noSelect_spec M j s cs b I) hQ D (H.2 j (ready_mono E e));refine wpOp_mono (fun a' w' F=>⟨fun _=>F.2.1 K,ih _ a' w' (fun k ok hk V T O=>J k ok hk V ?_ O) (ready_mono d (Ne.symm e)) F.1 (F.2.1 K) ?_⟩) h2
   ·by_cases ek:j=k
    ·subst ek;exact L
    ·rwa [getD_set_ne true ek] at T
   ·rw [Array.setIfInBounds_comm _ _ e];exact F.2.2
 exact go n l a w (Region.free_spec G hf) (by simpa using d) D m h
theorem Yt.one {i:Nat}{o:Oper}{n:Nat}{l:Array Bool}{a:Act}{w:World}(u:Region.ready md ops l= [i])(F:ops[i]?=some o)
  (h: ∀ d:Act->World->Prop,Shut (∀ a w,S w->Yt P md ops Q S last n (l.setIfInBounds i true) a w->d a w)->if Region.wanted o (yielded ops a.tmps)=true then Oper.wp P o a w d Q else d (a.put o.dst undef) w):Yt P md ops Q S last (n+1) l a w:=by
 refine⟨fun m=>(by rw [u] at m;cases m),fun j s=> ?_⟩
 rw [u] at s;obtain rfl:=List.mem_singleton.1 s;exact wpOp_step F fun d C=>h d fun a w D E=>C a w ⟨fun _=>D,E⟩
theorem Yt.WR {i:Nat}{o:Oper}{n:Nat}{l:Array Bool}{a:Act}{w:World}(u:Region.ready md ops l= [i])(F:i=last)(G:ops[i]?=some o)
  (h: ∀ d:Act->World->Prop,Shut (∀ a w,Yt P md ops Q S last n (l.setIfInBounds i true) a w->d a w)->if Region.wanted o (yielded ops a.tmps)=true then Oper.wp P o a w d Q else d (a.put o.dst undef) w):Yt P md ops Q S last (n+1) l a w:=by
 refine⟨fun m=>(by rw [u] at m;cases m),fun j s=> ?_⟩
 rw [u] at s;obtain rfl:=List.mem_singleton.1 s;exact wpOp_step G fun d D=>h d fun a w E=>D a w ⟨fun C=>absurd F C,E⟩
theorem Yt.done {l:Array Bool}{a:Act}{w:World}(d:Region.ready md ops l= [])(h:Q .normal a w): ∀ n,Yt P md ops Q S last n l a w
 | 0=>⟨d,h⟩
 | _+1=>⟨fun _=>h,by rw [d];simp⟩
theorem Ys {id:Nat}{a:Act}{w:World}(last:Nat)(j:P.follows .mixedOrders=true)(d:S w.drew)
  (h:S w.drew->Yt P .any ops Q S last ops.size (Array.replicate ops.size false) a w.drew):(Code.region id ops true).wp P Q a w:=
 wp_region_any j ((h d).any _ _ _ _)
end
section
variable {P : Program} {ops : Array Oper} {Q : Exit -> Act -> World -> Prop} {md : Region.Mode} {S : World -> Prop} {last : Nat}
def Zu (P:Program)(md:Region.Mode)(ops:Array Oper)(Q:Exit->Act->World->Prop)(S:World->Prop)(last:Nat):Nat->Bool->Array Bool->Act->World->Prop
 | 0,_,l,a,w=>Region.ready md ops l= []/\Q .normal a w
 | n+1,d,l,a,w=>(Region.ready md ops l= []->Q .normal a w)/\ ∀ j∈Region.ready md ops l,wpOp P ops Q j (fun a' w'=>((d || j == last)=false->S w')/\Zu P md ops Q S last n (d || j == last) (l.setIfInBounds j true) a' w') a w
theorem Zu.any: ∀ (n:Nat)(d:Bool)(l:Array Bool)(a:Act)(w:World),Zu P md ops Q S last n d l a w->wpAny P md ops Q n l a w
 | 0,_,_,_,_,h=>h
 | n+1,_,_,_,_,h=>⟨h.1,fun j u=>wpOp_mono (fun m w' s=>s.2.any n _ _ m w') (h.2 j u)⟩
theorem Zu.take {i:Nat}{oi:Oper}{v:Value}{n:Nat}{l:Array Bool}{a:Act}{w:World}(I:ops[i]?=some oi)(O:Region.noSelect ops=true)(hf:Region.free md ops l i=true)
  (d:(Region.ready md ops l).contains i=true) (N:waits md ops last i=true) (hQ: ∀ c a w,Q (.panic c) (a.put oi.dst v) w->Q (.panic c) a w) (D:YieldsIf P ops S oi v a) (s:S w)
  (h:Zu P md ops Q S last n false (l.setIfInBounds i true) (a.put oi.dst v) w):Zu P md ops Q S last (n+1) false l a w:=by
 have L:(i == last)=false:=by
  have m:=U5 N (by simpa using d:i∈Region.ready md ops l);have F:i∈Region.ready md ops l:=by simpa using d
  simpa using fun e:i=last=>m (e▸F)
 have go: ∀ (n:Nat) (l:Array Bool) (a:Act) (w:World),(∀ (j:Nat) (u:Oper),ops[j]?=some u->j≠i->l.getD j true=false->(∀ e∈u.after,Region.binds md e=true->e.on≠i)->oi.apart ops u=true)->i∈Region.ready md ops l->YieldsIf P ops S oi v a->S w->
   Zu P md ops Q S last n false (l.setIfInBounds i true) (a.put oi.dst v) w->Zu P md ops Q S last (n+1) false l a w:=by
  intro n;induction n with
  | zero=>
   intro l a w _ d D s H;refine⟨fun C=>(by rw [C] at d;cases d),fun j E=> ?_⟩;by_cases e:j=i
   ·subst e;simp only [L,Bool.or_false];exact D.wpOp I s ⟨fun _=>s,H⟩
   ·have m:=ready_mono E e;rw [H.1] at m
    cases m
  | succ n ih=>
   intro l a w K d D s H;refine⟨fun C=>(by rw [C] at d;cases d),fun j E=> ?_⟩;by_cases e:j=i
   ·subst e;simp only [L,Bool.or_false];exact D.wpOp I s ⟨fun _=>s,H⟩
   have aa:(j == last)=false:=by simpa using fun e':j=last=>U5 N d (e'▸E)
   obtain⟨M,u,J,T⟩:=mem_ready.1 E;have ac: ∀ e∈u.after,Region.binds md e=true->e.on≠i:=fun e he hb Z=>by
    have m:=T e he hb;have C:=(mem_ready.1 d).1;rw [Z,Array.getD_eq_getD_getElem?] at m;rw [Array.getD_eq_getD_getElem?] at C
    cases hx:l[i]? with
    | none=>simp [hx] at m
    | some b=>simp [hx] at m C;simp_all
   have F:=wpOp_putIf J (K j u J e M ac) (fun cs b=>Region.noSelect_spec O i oi cs b I) (fun cs b=>Region.noSelect_spec O j u cs b J) hQ D (H.2 j (ready_mono E e));simp only [aa,Bool.or_false] at F ⊢;refine wpOp_mono (fun a' w' G=>⟨fun _=>G.2.1 trivial,ih _ a' w' (fun k ok hk ab V U=>K k ok hk ab ?_ U) (ready_mono d (Ne.symm e)) G.1 (G.2.1 trivial) ?_⟩) F
   ·by_cases ek:j=k
    ·subst ek;exact M
    ·rwa [getD_set_ne true ek] at V
   ·rw [Array.setIfInBounds_comm _ _ e];exact G.2.2
 exact go n l a w (Region.free_spec I hf) (by simpa using d) D s h
theorem Zu.pure {i:Nat}{oi:Oper}{v:Value}{n:Nat}{d:Bool}{l:Array Bool}{a:Act}{w:World}(G:ops[i]?=some oi)(N:Region.noSelect ops=true)(hf:Region.free md ops l i=true)
  (m:(Region.ready md ops l).contains i=true) (L:(i == last)=false) (hQ: ∀ c a w,Q (.panic c) (a.put oi.dst v) w->Q (.panic c) a w) (D:YieldsIf P ops (fun _=>True) oi v a) (E:d=false->S w)
  (h:Zu P md ops Q S last n d (l.setIfInBounds i true) (a.put oi.dst v) w):Zu P md ops Q S last (n+1) d l a w:=by
 have go: ∀ (n:Nat) (d:Bool) (l:Array Bool) (a:Act) (w:World),(∀ (j:Nat) (s:Oper),ops[j]?=some s->j≠i->l.getD j true=false->(∀ e∈s.after,Region.binds md e=true->e.on≠i)->oi.apart ops s=true)->i∈Region.ready md ops l->YieldsIf P ops (fun _=>True) oi v a->(d=false->S w)->
   Zu P md ops Q S last n d (l.setIfInBounds i true) (a.put oi.dst v) w->Zu P md ops Q S last (n+1) d l a w:=by
  intro n;induction n with
  | zero=>
   intro d l a w _ m D E H;refine⟨fun u=>(by rw [u] at m;cases m),fun j I=> ?_⟩;by_cases e:j=i
   ·subst e;simp only [L,Bool.or_false];exact D.wpOp G trivial ⟨E,H⟩
   ·have C:=ready_mono I e;rw [H.1] at C
    cases C
  | succ n ih=>
   intro d l a w K m D E H;refine⟨fun u=>(by rw [u] at m;cases m),fun j I=> ?_⟩;by_cases e:j=i
   ·subst e;simp only [L,Bool.or_false];exact D.wpOp G trivial ⟨E,H⟩
   obtain⟨M,s,J,O⟩:=mem_ready.1 I;have aa: ∀ e∈s.after,Region.binds md e=true->e.on≠i:=fun e he hb V=>by
    have C:=O e he hb;have u:=(mem_ready.1 m).1;rw [V,Array.getD_eq_getD_getElem?] at C;rw [Array.getD_eq_getD_getElem?] at u
    cases hx:l[i]? with
    | none=>simp [hx] at C
    | some b=>simp [hx] at C u;simp_all
   have h2:=wpOp_putIf J (K j s J e M aa) (fun cs b=>Region.noSelect_spec N i oi cs b G) (fun cs b=>Region.noSelect_spec N j s cs b J) hQ D (H.2 j (ready_mono I e));refine wpOp_mono (fun a' w' F=>⟨F.2.1,ih _ _ a' w' (fun k ok hk Z U T=>K k ok hk Z ?_ T) (ready_mono m (Ne.symm e)) F.1 F.2.1 ?_⟩) h2
   ·by_cases ek:j=k
    ·subst ek;exact M
    ·rwa [getD_set_ne true ek] at U
   ·rw [Array.setIfInBounds_comm _ _ e];exact F.2.2
 exact go n d l a w (Region.free_spec G hf) (by simpa using m) D E h
theorem Zu.one {i:Nat}{o:Oper}{n:Nat}{l:Array Bool}{a:Act}{w:World}(u:Region.ready md ops l= [i])(G:ops[i]?=some o)(C:(i == last)=false)
  (h: ∀ d:Act->World->Prop,Shut (∀ a w,S w->Zu P md ops Q S last n false (l.setIfInBounds i true) a w->d a w)->if Region.wanted o (yielded ops a.tmps)=true then Oper.wp P o a w d Q else d (a.put o.dst undef) w):Zu P md ops Q S last (n+1) false l a w:=by
 refine⟨fun m=>(by rw [u] at m;cases m),fun j s=> ?_⟩
 rw [u] at s;obtain rfl:=List.mem_singleton.1 s;simp only [C,Bool.or_false];exact wpOp_step G fun d D=>h d fun a w E F=>D a w ⟨fun _=>E,F⟩
theorem Zu.WR {i:Nat}{o:Oper}{n:Nat}{d:Bool}{l:Array Bool}{a:Act}{w:World}(C:Region.ready md ops l= [i])(G:(i == last)=true)(I:ops[i]?=some o)
  (h: ∀ m:Act->World->Prop,Shut (∀ a w,Zu P md ops Q S last n true (l.setIfInBounds i true) a w->m a w)->if Region.wanted o (yielded ops a.tmps)=true then Oper.wp P o a w m Q else m (a.put o.dst undef) w):Zu P md ops Q S last (n+1) d l a w:=by
 refine⟨fun s=>(by rw [C] at s;cases s),fun j u=> ?_⟩
 rw [C] at u;obtain rfl:=List.mem_singleton.1 u;simp only [G,Bool.or_true];exact wpOp_step I fun m D=>h m fun a w E=>D a w ⟨fun F=>(by cases F),E⟩
theorem Zu.done {d:Bool}{l:Array Bool}{a:Act}{w:World}(j:Region.ready md ops l= [])(h:Q .normal a w): ∀ n,Zu P md ops Q S last n d l a w
 | 0=>⟨j,h⟩
 | _+1=>⟨fun _=>h,by rw [j];simp⟩
theorem Zp {id:Nat}{a:Act}{w:World}(last:Nat)(j:P.follows .mixedOrders=true)(d:S w.drew)
  (h:S w.drew->Zu P .any ops Q S last ops.size false (Array.replicate ops.size false) a w.drew):(Code.region id ops true).wp P Q a w:=
 wp_region_any j ((h d).any _ _ _ _ _)
end
end Go.Proofs.YtnhmoibjlakhjaaGreat
