/- Lemmas, each under its own conditions. -/
import Derived.Test.YtnhmoibjlakhjaaGreatRows
import Derived.BigQuiet
import Derived.Test.YtnhmoibjlakhjaaGreatW03
import Derived.Deep.Fields1
set_option linter.all false
namespace Go.Proofs.YtnhmoibjlakhjaaGreat
set_option maxRecDepth 100000
set_option maxHeartbeats 16000000
open Go.RowKit Le
def Dr (N:Int):Nat:=(N % 18446744073709551616).toNat
def marks:List UInt8:= [0xa5,0x5a]
def Qh (w:World)(g:Nat)(t:TypeId)(n:Nat):Prop:= ∃ l:List UInt8,l.length=n/\ZP w g t (Jh l)
theorem Qh.at_ {w:World}{g n:Nat}{t:TypeId}(h:Qh w g t n){j:Nat}(m:j<n): ∃ u:Nat,w.cell? ⟨g,j,none⟩=some (.int .u8 u)/\w.frozen? ⟨g,j,none⟩=false:=by
 obtain⟨l,s,d⟩:=h;exact⟨(l[j]'(by omega)).toNat,(d.cell j).trans (EL l j (by omega)),d.frozen j⟩
theorem Qh.Zx {w:World}{g n:Nat}{t:TypeId}(h:Qh w g t n)(j:Nat)(u:Int):Qh (w.setCell ⟨g,j,none⟩ (.int .u8 (u % 256))) g t n:=by
 obtain⟨l,s,m⟩:=h;refine⟨l.set j (UInt8.ofNat (u % 256).toNat),by simp [s],?_⟩
 have d:=m.Zx j (.int .u8 (u % 256));have e:(Jh l).set j (.int .u8 (u % 256))=Jh (l.set j (UInt8.ofNat (u % 256).toNat)):=by
  unfold Jh;rw [List.map_set];congr 2
  have:(UInt8.ofNat (u % 256).toNat).toNat=(u % 256).toNat % 256:=UInt8.toNat_ofNat';rw [this];omega
 exact e▸d
def Dg (w:World)(n c:Nat)(A:Option Addr):Prop:=c<=1099511627776/\(0<n-> ∀ ad,A=some ad->Za w ad.block 5)
def i64 (V:Nat):Int:=wrap64 (V:Int)
end Go.Proofs.YtnhmoibjlakhjaaGreat
