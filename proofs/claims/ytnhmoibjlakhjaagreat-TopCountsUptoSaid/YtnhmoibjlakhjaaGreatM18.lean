/- Lemmas of the proof. No condition but each theorem's own. -/
import Derived.Test.YtnhmoibjlakhjaaGreatM17
import Derived.Test.YtnhmoibjlakhjaaGreatM16
set_option linter.unusedVariables false
set_option linter.unusedSimpArgs false
namespace Go.Proofs.YtnhmoibjlakhjaaGreat
set_option maxRecDepth 100000
set_option maxHeartbeats 16000000
open Go.RowKit
theorem pp:(∀ (a:Act)(d:Tmp)(v:Value),a.put (some d) v= { a with tmps:=a.tmps.setIfInBounds d v})∧(∀ (a:Act)(v:Value),a.put none v=a)∧(∀ (l:List Value)(i:Nat)(v:Value),l.toArray.setIfInBounds i v=(l.set i v).toArray)∧
  (∀ (x:Value) (l:List Value) (v:Value),(x ::l).set 0 v=v ::l)∧ ∀ (x:Value) (l:List Value) (i:Nat) (v:Value),(x ::l).set (i+1) v=x ::l.set i v:=
 ⟨fun _ _ _=>rfl,fun _ _=>rfl,fun _ _ _=>List.setIfInBounds_toArray ..,fun _ _ _=>rfl,fun _ _ _ _=>rfl⟩
section
variable {P : Program} {ops : Array Oper} {Q : Exit → Act → World → Prop} {md : Region.Mode} {S : World → Prop} {last : Nat}
theorem tk (i:Nat)(d:Tmp){op:_}{ty:_}{pos:_}{af:_}{gd:_}{v:Value}{fuel:Nat}{listed:Array Bool}{a a':Act}{w:World}(hS:S w)
  (h:wpAnyH P md ops Q S fuel (listed.setIfInBounds i true) a' w)
  (hi:ops[i]?=some (⟨some d,op,ty,pos,af,gd⟩:Oper):=by rfl) (hs:Region.noSelect ops=true:=by kernel_rfl) (hf:Region.free md ops listed i=true:=by kernel_rfl) (hr:(Region.ready md ops listed).contains i=true:=by kernel_rfl)
  (hQ: ∀ c a w,Q (.panic c) (a.put (some d) v) w→Q (.panic c) a w:=by exact fun _ _ _ h=>h)
  (hy:YieldsIf P ops S ⟨some d,op,ty,pos,af,gd⟩ v a:=by(refine Or.inl ⟨by rfl,?_⟩;intro w hSw;(try dsimp only at hSw);go_simp <;> with_reducible rfl))
  (ha:a.put (some d) v=a':=by((try simp only [pp]);exact rfl)):wpAnyH P md ops Q S (fuel+1) listed a w:=by
 subst ha;exact wpAnyH_take hi hs hf hr hQ hy hS h
theorem tb (i:Nat)(d:Tmp)(v:Value){op:_}{ty:_}{pos:_}{af:_}{gd:_}{fuel:Nat}{listed:Array Bool}{a a':Act}{w:World}(hS:S w)
  (h:wpAnyH P md ops Q S fuel (listed.setIfInBounds i true) a' w)
  (hi:ops[i]?=some (⟨some d,op,ty,pos,af,gd⟩:Oper):=by rfl) (hs:Region.noSelect ops=true:=by kernel_rfl) (hf:Region.free md ops listed i=true:=by kernel_rfl) (hr:(Region.ready md ops listed).contains i=true:=by kernel_rfl)
  (hQ: ∀ c a w,Q (.panic c) (a.put (some d) v) w→Q (.panic c) a w:=by exact fun _ _ _ h=>h)
  (hy:YieldsIf P ops S (⟨some d,op,ty,pos,af,gd⟩:Oper) v a:=by(refine Or.inl ⟨by rfl,?_⟩;intro w hSw;(try dsimp only at hSw);go_simp;all_goals (try omega)))
  (ha:a.put (some d) v=a':=by((try simp only [pp]);exact rfl)):wpAnyH P md ops Q S (fuel+1) listed a w:=by
 subst ha;exact wpAnyH_take hi hs hf hr hQ hy hS h
theorem sk (i:Nat)(d:Tmp){op:_}{ty:_}{pos:_}{af:_}{gd:_}{fuel:Nat}{listed:Array Bool}{a a':Act}{w:World}(hS:S w)
  (h:wpAnyH P md ops Q S fuel (listed.setIfInBounds i true) a' w)
  (hi:ops[i]?=some (⟨some d,op,ty,pos,af,gd⟩:Oper):=by rfl) (hs:Region.noSelect ops=true:=by kernel_rfl) (hf:Region.free md ops listed i=true:=by kernel_rfl) (hr:(Region.ready md ops listed).contains i=true:=by kernel_rfl)
  (hQ: ∀ c a w,Q (.panic c) (a.put (some d) undef) w→Q (.panic c) a w:=by exact fun _ _ _ h=>h)
  (hy:YieldsIf P ops S (⟨some d,op,ty,pos,af,gd⟩:Oper) undef a:=by exact Or.inr ⟨by rfl,rfl⟩)
  (ha:a.put (some d) undef=a':=by((try simp only [pp]);exact rfl)):wpAnyH P md ops Q S (fuel+1) listed a w:=by
 subst ha;exact wpAnyH_take hi hs hf hr hQ hy hS h
theorem Y8 (i:Nat)(d:Tmp){op:_}{ty:_}{pos:_}{af:_}{gd:_}{v:Value}{n:Nat}{listed:Array Bool}{a a':Act}{w:World}(hS:S w)
  (h:ZB P md ops Q S last n false (listed.setIfInBounds i true) a' w)
  (hi:ops[i]?=some (⟨some d,op,ty,pos,af,gd⟩:Oper):=by rfl) (hs:Region.noSelect ops=true:=by kernel_rfl) (hf:Region.free md ops listed i=true:=by kernel_rfl) (hr:(Region.ready md ops listed).contains i=true:=by kernel_rfl) (hl:waits md ops last i=true:=by kernel_rfl)
  (hQ: ∀ c a w,Q (.panic c) (a.put (some d) v) w→Q (.panic c) a w:=by exact fun _ _ _ h=>h)
  (hy:YieldsIf P ops S (⟨some d,op,ty,pos,af,gd⟩:Oper) v a:=by(refine Or.inl ⟨by rfl,?_⟩;intro w hSw;(try dsimp only at hSw);go_simp <;> with_reducible rfl))
  (ha:a.put (some d) v=a':=by((try simp only [pp]);exact rfl)):ZB P md ops Q S last (n+1) false listed a w:=by
 subst ha;exact ZB.take hi hs hf hr hl hQ hy hS h
theorem UY (i:Nat)(d:Tmp){op:_}{ty:_}{pos:_}{af:_}{gd:_}{v:Value}{n:Nat}{dn:Bool}{listed:Array Bool}{a a':Act}{w:World}(hS:dn=false→S w)
  (h:ZB P md ops Q S last n dn (listed.setIfInBounds i true) a' w)
  (hi:ops[i]?=some (⟨some d,op,ty,pos,af,gd⟩:Oper):=by rfl) (hs:Region.noSelect ops=true:=by kernel_rfl) (hf:Region.free md ops listed i=true:=by kernel_rfl) (hr:(Region.ready md ops listed).contains i=true:=by kernel_rfl) (hil:(i == last)=false:=by kernel_rfl)
  (hQ: ∀ c a w,Q (.panic c) (a.put (some d) v) w→Q (.panic c) a w:=by exact fun _ _ _ h=>h)
  (hy:YieldsIf P ops (fun _=>True) (⟨some d,op,ty,pos,af,gd⟩:Oper) v a:=by(refine Or.inl ⟨by rfl,?_⟩;intro w hSw;(try dsimp only at hSw);go_simp <;> with_reducible rfl))
  (ha:a.put (some d) v=a':=by((try simp only [pp]);exact rfl)):ZB P md ops Q S last (n+1) dn listed a w:=by
 subst ha;exact ZB.pure hi hs hf hr hil hQ hy hS h
theorem Xl (i:Nat)(d:Tmp){op:_}{ty:_}{pos:_}{af:_}{gd:_}{v:Value}{n:Nat}{listed:Array Bool}{a a':Act}{w:World}(hS:S w)
  (h:YI P md ops Q S last n (listed.setIfInBounds i true) a' w)
  (hi:ops[i]?=some (⟨some d,op,ty,pos,af,gd⟩:Oper):=by rfl) (hs:Region.noSelect ops=true:=by kernel_rfl) (hf:Region.free md ops listed i=true:=by kernel_rfl) (hr:(Region.ready md ops listed).contains i=true:=by kernel_rfl) (hl:waits md ops last i=true:=by kernel_rfl)
  (hQ: ∀ c a w,Q (.panic c) (a.put (some d) v) w→Q (.panic c) a w:=by exact fun _ _ _ h=>h)
  (hy:YieldsIf P ops S (⟨some d,op,ty,pos,af,gd⟩:Oper) v a:=by(refine Or.inl ⟨by rfl,?_⟩;intro w hSw;(try dsimp only at hSw);go_simp <;> with_reducible rfl))
  (ha:a.put (some d) v=a':=by((try simp only [pp]);exact rfl)):YI P md ops Q S last (n+1) listed a w:=by
 subst ha;exact YI.take hi hs hf hr hl hQ hy hS h
theorem on (i:Nat)(d:Tmp){op:_}{ty:_}{pos:_}{af:_}{gd:_}{fuel:Nat}{listed:Array Bool}{a:Act}{w:World}
  (h: ∀ K':Act→World→Prop,Shut (∀ a w,S w→(S w→wpAnyH P md ops Q S fuel (listed.setIfInBounds i true) a w)→K' a w)→if Region.wanted (⟨some d,op,ty,pos,af,gd⟩:Oper) (yielded ops a.tmps)=true then Oper.wp P (⟨some d,op,ty,pos,af,gd⟩:Oper) a w K' Q else K' (a.put (some d) undef) w)
  (hr:Region.ready md ops listed= [i]:=by kernel_rfl) (hi:ops[i]?=some (⟨some d,op,ty,pos,af,gd⟩:Oper):=by rfl):wpAnyH P md ops Q S (fuel+1) listed a w:=wpAnyH_ready hr (by simp) (AllReadyH.cons hi h AllReadyH.nil)
theorem Q9 (i:Nat){op:_}{ty:_}{pos:_}{af:_}{gd:_}{fuel:Nat}{listed:Array Bool}{a:Act}{w:World}
  (h: ∀ K':Act→World→Prop,Shut (∀ a w,S w→(S w→wpAnyH P md ops Q S fuel (listed.setIfInBounds i true) a w)→K' a w)→if Region.wanted (⟨none,op,ty,pos,af,gd⟩:Oper) (yielded ops a.tmps)=true then Oper.wp P (⟨none,op,ty,pos,af,gd⟩:Oper) a w K' Q else K' (a.put none undef) w)
  (hr:Region.ready md ops listed= [i]:=by kernel_rfl) (hi:ops[i]?=some (⟨none,op,ty,pos,af,gd⟩:Oper):=by rfl):wpAnyH P md ops Q S (fuel+1) listed a w:=wpAnyH_ready hr (by simp) (AllReadyH.cons hi h AllReadyH.nil)
theorem SE (i:Nat)(d:Tmp){op:_}{ty:_}{pos:_}{af:_}{gd:_}{n:Nat}{listed:Array Bool}{a:Act}{w:World}
  (h: ∀ K':Act→World→Prop,Shut (∀ a w,S w→ZB P md ops Q S last n false (listed.setIfInBounds i true) a w→K' a w)→if Region.wanted (⟨some d,op,ty,pos,af,gd⟩:Oper) (yielded ops a.tmps)=true then Oper.wp P (⟨some d,op,ty,pos,af,gd⟩:Oper) a w K' Q else K' (a.put (some d) undef) w)
  (hr:Region.ready md ops listed= [i]:=by kernel_rfl) (ho:ops[i]?=some (⟨some d,op,ty,pos,af,gd⟩:Oper):=by rfl) (hil:(i == last)=false:=by kernel_rfl):ZB P md ops Q S last (n+1) false listed a w:=ZB.one hr ho hil h
theorem U4 (i:Nat)(d:Tmp){op:_}{ty:_}{pos:_}{af:_}{gd:_}{n:Nat}{listed:Array Bool}{a:Act}{w:World}
  (h: ∀ K':Act→World→Prop,Shut (∀ a w,S w→YI P md ops Q S last n (listed.setIfInBounds i true) a w→K' a w)→if Region.wanted (⟨some d,op,ty,pos,af,gd⟩:Oper) (yielded ops a.tmps)=true then Oper.wp P (⟨some d,op,ty,pos,af,gd⟩:Oper) a w K' Q else K' (a.put (some d) undef) w)
  (hr:Region.ready md ops listed= [i]:=by kernel_rfl) (ho:ops[i]?=some (⟨some d,op,ty,pos,af,gd⟩:Oper):=by rfl):YI P md ops Q S last (n+1) listed a w:=YI.one hr ho h
end
end Go.Proofs.YtnhmoibjlakhjaaGreat
