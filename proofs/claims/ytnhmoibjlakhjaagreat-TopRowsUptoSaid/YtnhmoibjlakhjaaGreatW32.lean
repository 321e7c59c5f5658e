/- Lemmas, each under its own conditions. -/
import Derived.Test.YtnhmoibjlakhjaaGreatW18
set_option linter.all false
namespace Go.Proofs.YtnhmoibjlakhjaaGreat
set_option maxRecDepth 100000
set_option maxHeartbeats 16000000
open Go.RowKit
section
variable {P : Program} {ops : Array Oper} {Q : Exit -> Act -> World -> Prop} {md : Region.Mode} {S : World -> Prop} {last : Nat}
theorem tv (i:Nat)(d:Tmp){op:_}{s:_}{pos:_}{m:_}{gd:_}{v:Value}{fuel:Nat}{listed:Array Bool}{a j:Act}{w:World}(F:ops[i]?=some (⟨some d,op,s,pos,m,gd⟩:Oper))(C:S w)
  (J:YieldsIf P ops S ⟨some d,op,s,pos,m,gd⟩ v a) (h:wpAnyH P md ops Q S fuel (listed.setIfInBounds i true) j w)
  (I:Region.noSelect ops=true:=by kernel_rfl) (E:Region.free md ops listed i=true:=by kernel_rfl) (G:(Region.ready md ops listed).contains i=true:=by kernel_rfl)
  (u: ∀ c a w,Q (.panic c) (a.put (some d) v) w->Q (.panic c) a w:=by exact fun _ _ _ h=>h)
  (D:a.put (some d) v=j:=by((try simp only [pp]);exact rfl)):wpAnyH P md ops Q S (fuel+1) listed a w:=by
 subst D;exact wpAnyH_take F I E G u J C h
end
end Go.Proofs.YtnhmoibjlakhjaaGreat
