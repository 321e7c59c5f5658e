/- Lemmas, each under its own conditions. -/
import Derived.Test.YtnhmoibjlakhjaaGreatW17
import Derived.Test.YtnhmoibjlakhjaaGreatW16
set_option linter.all false
namespace Go.Proofs.YtnhmoibjlakhjaaGreat
open Go.Proofs.Tryz
set_option maxRecDepth 100000
set_option maxHeartbeats 16000000
open Go.RowKit
theorem pp:(∀ (a:Act)(d:Tmp)(v:Value),a.put (some d) v= { a with tmps:=a.tmps.setIfInBounds d v})/\(∀ (a:Act)(v:Value),a.put none v=a)/\(∀ (l:List Value)(i:Nat)(v:Value),l.toArray.setIfInBounds i v=(l.set i v).toArray)/\
  (∀ (x:Value) (l:List Value) (v:Value),(x ::l).set 0 v=v ::l)/\ ∀ (x:Value) (l:List Value) (i:Nat) (v:Value),(x ::l).set (i+1) v=x ::l.set i v:=
 ⟨fun _ _ _=>rfl,fun _ _=>rfl,fun _ _ _=>List.setIfInBounds_toArray ..,fun _ _ _=>rfl,fun _ _ _ _=>rfl⟩
section
variable {P : Program} {ops : Array Oper} {Q : Exit -> Act -> World -> Prop} {md : Region.Mode} {S : World -> Prop} {last : Nat}
theorem tk (i:Nat)(d:Tmp){op:_}{s:_}{pos:_}{m:_}{gd:_}{v:Value}{fuel:Nat}{listed:Array Bool}{a j:Act}{w:World}(D:S w)
  (h:wpAnyH P md ops Q S fuel (listed.setIfInBounds i true) j w)
  (G:ops[i]?=some (⟨some d,op,s,pos,m,gd⟩:Oper):=by rfl) (J:Region.noSelect ops=true:=by kernel_rfl) (F:Region.free md ops listed i=true:=by kernel_rfl) (I:(Region.ready md ops listed).contains i=true:=by kernel_rfl)
  (C: ∀ c a w,Q (.panic c) (a.put (some d) v) w->Q (.panic c) a w:=by exact fun _ _ _ h=>h)
  (K:YieldsIf P ops S ⟨some d,op,s,pos,m,gd⟩ v a:=by(refine Or.inl ⟨by rfl,?_⟩;intro w u;(try dsimp only at u);go_simp <;> with_reducible rfl))
  (E:a.put (some d) v=j:=by((try simp only [pp]);exact rfl)):wpAnyH P md ops Q S (fuel+1) listed a w:=by
 subst E;exact wpAnyH_take G J F I C K D h
theorem tb (i:Nat)(d:Tmp)(v:Value){op:_}{s:_}{pos:_}{m:_}{gd:_}{fuel:Nat}{listed:Array Bool}{a j:Act}{w:World}(D:S w)
  (h:wpAnyH P md ops Q S fuel (listed.setIfInBounds i true) j w)
  (G:ops[i]?=some (⟨some d,op,s,pos,m,gd⟩:Oper):=by rfl) (J:Region.noSelect ops=true:=by kernel_rfl) (F:Region.free md ops listed i=true:=by kernel_rfl) (I:(Region.ready md ops listed).contains i=true:=by kernel_rfl)
  (C: ∀ c a w,Q (.panic c) (a.put (some d) v) w->Q (.panic c) a w:=by exact fun _ _ _ h=>h)
  (K:YieldsIf P ops S (⟨some d,op,s,pos,m,gd⟩:Oper) v a:=by(refine Or.inl ⟨by rfl,?_⟩;intro w u;(try dsimp only at u);go_simp;all_goals (try omega)))
  (E:a.put (some d) v=j:=by((try simp only [pp]);exact rfl)):wpAnyH P md ops Q S (fuel+1) listed a w:=by
 subst E;exact wpAnyH_take G J F I C K D h
theorem sk (i:Nat)(d:Tmp){op:_}{s:_}{pos:_}{m:_}{gd:_}{fuel:Nat}{listed:Array Bool}{a j:Act}{w:World}(C:S w)
  (h:wpAnyH P md ops Q S fuel (listed.setIfInBounds i true) j w)
  (F:ops[i]?=some (⟨some d,op,s,pos,m,gd⟩:Oper):=by rfl) (I:Region.noSelect ops=true:=by kernel_rfl) (E:Region.free md ops listed i=true:=by kernel_rfl) (G:(Region.ready md ops listed).contains i=true:=by kernel_rfl)
  (u: ∀ c a w,Q (.panic c) (a.put (some d) undef) w->Q (.panic c) a w:=by exact fun _ _ _ h=>h)
  (J:YieldsIf P ops S (⟨some d,op,s,pos,m,gd⟩:Oper) undef a:=by exact Or.inr ⟨by rfl,rfl⟩)
  (D:a.put (some d) undef=j:=by((try simp only [pp]);exact rfl)):wpAnyH P md ops Q S (fuel+1) listed a w:=by
 subst D;exact wpAnyH_take F I E G u J C h
theorem YU (i:Nat)(d:Tmp){op:_}{s:_}{pos:_}{m:_}{gd:_}{v:Value}{n:Nat}{listed:Array Bool}{a j:Act}{w:World}(D:S w)
  (h:Zu P md ops Q S last n false (listed.setIfInBounds i true) j w)
  (G:ops[i]?=some (⟨some d,op,s,pos,m,gd⟩:Oper):=by rfl) (K:Region.noSelect ops=true:=by kernel_rfl) (F:Region.free md ops listed i=true:=by kernel_rfl) (J:(Region.ready md ops listed).contains i=true:=by kernel_rfl) (I:waits md ops last i=true:=by kernel_rfl)
  (C: ∀ c a w,Q (.panic c) (a.put (some d) v) w->Q (.panic c) a w:=by exact fun _ _ _ h=>h)
  (L:YieldsIf P ops S (⟨some d,op,s,pos,m,gd⟩:Oper) v a:=by(refine Or.inl ⟨by rfl,?_⟩;intro w u;(try dsimp only at u);go_simp <;> with_reducible rfl))
  (E:a.put (some d) v=j:=by((try simp only [pp]);exact rfl)):Zu P md ops Q S last (n+1) false listed a w:=by
 subst E;exact Zu.take G K F J I C L D h
theorem TU (i:Nat)(d:Tmp){op:_}{u:_}{pos:_}{s:_}{gd:_}{v:Value}{n:Nat}{j:Bool}{listed:Array Bool}{a m:Act}{w:World}(F:j=false->S w)
  (h:Zu P md ops Q S last n j (listed.setIfInBounds i true) m w)
  (J:ops[i]?=some (⟨some d,op,u,pos,s,gd⟩:Oper):=by rfl) (L:Region.noSelect ops=true:=by kernel_rfl) (I:Region.free md ops listed i=true:=by kernel_rfl) (K:(Region.ready md ops listed).contains i=true:=by kernel_rfl) (D:(i == last)=false:=by kernel_rfl)
  (E: ∀ c a w,Q (.panic c) (a.put (some d) v) w->Q (.panic c) a w:=by exact fun _ _ _ h=>h)
  (M:YieldsIf P ops (fun _=>True) (⟨some d,op,u,pos,s,gd⟩:Oper) v a:=by(refine Or.inl ⟨by rfl,?_⟩;intro w C;(try dsimp only at C);go_simp <;> with_reducible rfl))
  (G:a.put (some d) v=m:=by((try simp only [pp]);exact rfl)):Zu P md ops Q S last (n+1) j listed a w:=by
 subst G;exact Zu.pure J L I K D E M F h
theorem WZ (i:Nat)(d:Tmp){op:_}{s:_}{pos:_}{m:_}{gd:_}{v:Value}{n:Nat}{listed:Array Bool}{a j:Act}{w:World}(D:S w)
  (h:Yt P md ops Q S last n (listed.setIfInBounds i true) j w)
  (G:ops[i]?=some (⟨some d,op,s,pos,m,gd⟩:Oper):=by rfl) (K:Region.noSelect ops=true:=by kernel_rfl) (F:Region.free md ops listed i=true:=by kernel_rfl) (J:(Region.ready md ops listed).contains i=true:=by kernel_rfl) (I:waits md ops last i=true:=by kernel_rfl)
  (C: ∀ c a w,Q (.panic c) (a.put (some d) v) w->Q (.panic c) a w:=by exact fun _ _ _ h=>h)
  (L:YieldsIf P ops S (⟨some d,op,s,pos,m,gd⟩:Oper) v a:=by(refine Or.inl ⟨by rfl,?_⟩;intro w u;(try dsimp only at u);go_simp <;> with_reducible rfl))
  (E:a.put (some d) v=j:=by((try simp only [pp]);exact rfl)):Yt P md ops Q S last (n+1) listed a w:=by
 subst E;exact Yt.take G K F J I C L D h
theorem on (i:Nat)(d:Tmp){op:_}{s:_}{pos:_}{m:_}{gd:_}{fuel:Nat}{listed:Array Bool}{a:Act}{w:World}
  (h: ∀ j:Act->World->Prop,Shut (∀ a w,S w->(S w->wpAnyH P md ops Q S fuel (listed.setIfInBounds i true) a w)->j a w)->if Region.wanted (⟨some d,op,s,pos,m,gd⟩:Oper) (yielded ops a.tmps)=true then Oper.wp P (⟨some d,op,s,pos,m,gd⟩:Oper) a w j Q else j (a.put (some d) undef) w)
  (C:Region.ready md ops listed= [i]:=by kernel_rfl) (u:ops[i]?=some (⟨some d,op,s,pos,m,gd⟩:Oper):=by rfl):wpAnyH P md ops Q S (fuel+1) listed a w:=wpAnyH_ready C (by simp) (AllReadyH.cons u h AllReadyH.nil)
theorem SR (i:Nat){op:_}{m:_}{pos:_}{j:_}{gd:_}{fuel:Nat}{listed:Array Bool}{a:Act}{w:World}
  (h: ∀ d:Act->World->Prop,Shut (∀ a w,S w->(S w->wpAnyH P md ops Q S fuel (listed.setIfInBounds i true) a w)->d a w)->if Region.wanted (⟨none,op,m,pos,j,gd⟩:Oper) (yielded ops a.tmps)=true then Oper.wp P (⟨none,op,m,pos,j,gd⟩:Oper) a w d Q else d (a.put none undef) w)
  (u:Region.ready md ops listed= [i]:=by kernel_rfl) (s:ops[i]?=some (⟨none,op,m,pos,j,gd⟩:Oper):=by rfl):wpAnyH P md ops Q S (fuel+1) listed a w:=wpAnyH_ready u (by simp) (AllReadyH.cons s h AllReadyH.nil)
theorem OH (i:Nat)(d:Tmp){op:_}{s:_}{pos:_}{m:_}{gd:_}{n:Nat}{listed:Array Bool}{a:Act}{w:World}
  (h: ∀ j:Act->World->Prop,Shut (∀ a w,S w->Zu P md ops Q S last n false (listed.setIfInBounds i true) a w->j a w)->if Region.wanted (⟨some d,op,s,pos,m,gd⟩:Oper) (yielded ops a.tmps)=true then Oper.wp P (⟨some d,op,s,pos,m,gd⟩:Oper) a w j Q else j (a.put (some d) undef) w)
  (D:Region.ready md ops listed= [i]:=by kernel_rfl) (C:ops[i]?=some (⟨some d,op,s,pos,m,gd⟩:Oper):=by rfl) (u:(i == last)=false:=by kernel_rfl):Zu P md ops Q S last (n+1) false listed a w:=Zu.one D C u h
theorem UK (i:Nat)(d:Tmp){op:_}{s:_}{pos:_}{m:_}{gd:_}{n:Nat}{listed:Array Bool}{a:Act}{w:World}
  (h: ∀ j:Act->World->Prop,Shut (∀ a w,S w->Yt P md ops Q S last n (listed.setIfInBounds i true) a w->j a w)->if Region.wanted (⟨some d,op,s,pos,m,gd⟩:Oper) (yielded ops a.tmps)=true then Oper.wp P (⟨some d,op,s,pos,m,gd⟩:Oper) a w j Q else j (a.put (some d) undef) w)
  (C:Region.ready md ops listed= [i]:=by kernel_rfl) (u:ops[i]?=some (⟨some d,op,s,pos,m,gd⟩:Oper):=by rfl):Yt P md ops Q S last (n+1) listed a w:=Yt.one C u h
end
abbrev i6 (n : Int) : Value := .int .i64 n
abbrev sT (b : List UInt8) : Value := .string (Z2 b)
abbrev aD (b o : Nat) : Addr := ⟨b, o, none⟩
abbrev pT (b : Nat) : Value := .pointer (some ⟨b, 0, none⟩)
abbrev Bw (w w' : World) : Prop := Below w.heap.size w w'
abbrev oA := Option Addr
abbrev lU := List UInt8
abbrev lV := List Value
abbrev cQ (f : FuncId) (args : Array Value) (w : World) (Q : Ending -> World -> Prop) : Prop := Calls prog f args w Q
theorem _root_.Go.RowKit.Hid.o {p : Prop} (h : Hid p) : p := h.out
abbrev sl {α : Type} (a : Option Addr) (l : List α) (k : Nat) : Value := .slice a l.length k
abbrev sN : Value := .slice none 0 0
abbrev s0 : Value := .string ⟨#[]⟩
abbrev aN (w : World) (i : Nat) : Addr := ⟨w.heap.size, i, none⟩
abbrev rA (w : World) := ZT w (· < w.heap.size)
end Go.Proofs.YtnhmoibjlakhjaaGreat
