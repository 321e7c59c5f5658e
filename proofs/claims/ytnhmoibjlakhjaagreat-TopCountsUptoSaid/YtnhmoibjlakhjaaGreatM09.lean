/- Lemmas of the proof. No condition but each theorem's own. -/
import Derived.Test.YtnhmoibjlakhjaaGreatM03
import Derived.Test.YtnhmoibjlakhjaaGreatM08
import Derived.Deep.Fields1
set_option linter.unusedVariables false
set_option linter.unusedSimpArgs false
namespace Go.Proofs.YtnhmoibjlakhjaaGreat
set_option maxRecDepth 100000
set_option maxHeartbeats 16000000
open Go.RowKit Le
def Hs (w:World)(n c:Nat)(A:Option Addr):Prop:=c≤1099511627776∧(0<n→ ∀ ad,A=some ad→Zc w ad.block 5)
def i64 (V:Nat):Int:=wrap64 (V:Int)
end Go.Proofs.YtnhmoibjlakhjaaGreat
