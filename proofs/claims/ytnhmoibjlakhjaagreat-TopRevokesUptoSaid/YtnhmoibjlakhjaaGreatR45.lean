/- Lemmas of the proof. No condition but each theorem's own. -/
import Derived.Test.YtnhmoibjlakhjaaGreatR03
import Derived.Test.YtnhmoibjlakhjaaGreatR01
import Derived.OpenShut
import Derived.ChangeOld
import Derived.Deep.Slices
set_option linter.unusedVariables false
set_option linter.unusedSimpArgs false
namespace Go.Proofs.YtnhmoibjlakhjaaGreat
set_option maxRecDepth 100000
set_option maxHeartbeats 16000000
open Go.RowKit
mutual
def fits (P:Program):Nat→TypeId→List Sh→Bool
 | 0,_,_=>false
 | n+1,t,sh=>
  match P.underlying t with
  | some (.int .i64)=>match sh with
   | [.num]=>true
   | [.YF]=>true
   | _=>false
  | some .string=>match sh with
   | [.Z9]=>true
   | _=>false
  | some .bool=>match sh with
   | [.YY]=>true
   | _=>false
  | some (.struct fs)=>QC P n fs.toList 0 sh && (P.cellsOf t == sh.length)
  | some (.slice e)=>match sh with
   | [.rows l]=>fits P n e l && (P.cellsOf e == l.length) && decide (0<l.length)
   | _=>false
  | _=>false
def QC (P:Program):Nat→List Field→Nat→List Sh→Bool
 | _,[],_,sh=>sh.isEmpty
 | 0,_ ::_,_,_=>false
 | n+1,f ::fs,o,sh=>(f.offset == o) && (fits P n f.type (sh.take (P.cellsOf f.type)) && (((sh.take (P.cellsOf f.type)).length == P.cellsOf f.type) && QC P n fs (o+P.cellsOf f.type) (sh.drop (P.cellsOf f.type))))
end
section
variable {H : Type} {enc : TypeId × Value → H} {P : Program} {w : World} {held : Bool}
theorem LJ {base:Nat}{a:Addr}{n:Nat}{cs:List Value}(h:w.cells? base a n=some cs):cs.length=n∧ ∀ (i:Nat)(u:Value),cs[i]?=some u→w.cell? (a.add i)=some u:=by
 obtain⟨_,hl,hc⟩:=World.cells?_some h
 refine⟨hl,fun i u hu=> ?_⟩
 have hi:i<n:=by
  rcases Nat.lt_or_ge i cs.length with h1 | h1
  ·omega
  ·rw [List.getElem?_eq_none h1] at hu;cases hu
 rw [hc i hi];exact hu
end
end Go.Proofs.YtnhmoibjlakhjaaGreat
