/- Lemmas of the proof. No condition but each theorem's own. -/
import Derived.Test.YtnhmoibjlakhjaaGreatM02
import Derived.Test.YtnhmoibjlakhjaaGreatRows
import Derived.Deep.QuietTactic
import Derived.BigQuiet
import Derived.Lib.AppendStr
set_option linter.unusedVariables false
set_option linter.unusedSimpArgs false
namespace Go.Proofs.YtnhmoibjlakhjaaGreat
set_option maxRecDepth 100000
set_option maxHeartbeats 16000000
open Go.RowKit Le
def Hn (N:Int):Nat:=(N % 18446744073709551616).toNat
def marks:List UInt8:= [0xa5,0x5a]
def Sn (w:World)(g:Nat)(t:TypeId)(n:Nat):Prop:= ∃ l:List UInt8,l.length=n∧ZP w g t (Mx l)
theorem Sn.at_ {w:World}{g n:Nat}{t:TypeId}(h:Sn w g t n){j:Nat}(hj:j<n): ∃ u:Nat,w.cell? ⟨g,j,none⟩=some (.int .u8 u)∧w.frozen? ⟨g,j,none⟩=false:=by
 obtain⟨l,hl,hB⟩:=h;exact⟨(l[j]'(by omega)).toNat,(hB.cell j).trans (Jf l j (by omega)),hB.frozen j⟩
theorem Sn.ZD {w:World}{g n:Nat}{t:TypeId}(h:Sn w g t n)(j:Nat)(u:Int):Sn (w.setCell ⟨g,j,none⟩ (.int .u8 (u % 256))) g t n:=by
 obtain⟨l,hl,hB⟩:=h;refine⟨l.set j (UInt8.ofNat (u % 256).toNat),by simp [hl],?_⟩
 have h2:=hB.ZD j (.int .u8 (u % 256));have e:(Mx l).set j (.int .u8 (u % 256))=Mx (l.set j (UInt8.ofNat (u % 256).toNat)):=by
  unfold Mx;rw [List.map_set];congr 2
  have:(UInt8.ofNat (u % 256).toNat).toNat=(u % 256).toNat % 256:=UInt8.toNat_ofNat';rw [this];omega
 exact e▸h2
end Go.Proofs.YtnhmoibjlakhjaaGreat
