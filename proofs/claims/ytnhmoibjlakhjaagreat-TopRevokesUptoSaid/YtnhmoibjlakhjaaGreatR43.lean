/- Lemmas of the proof. No condition but each theorem's own. -/
import Derived.Test.YtnhmoibjlakhjaaGreatR30
import Derived.Test.YtnhmoibjlakhjaaGreatR18
import Derived.Test.YtnhmoibjlakhjaaGreatR03
import Derived.Test.YtnhmoibjlakhjaaGreatR10
set_option linter.unusedVariables false
set_option linter.unusedSimpArgs false
namespace Go.Proofs.YtnhmoibjlakhjaaGreat
open Lib (hid)
set_option maxRecDepth 100000
set_option maxHeartbeats 16000000
open Go.RowKit
def IX (w:World)(rs:List Yv):Prop:= ∀ r∈rs,ZV w (Xn w [9]) [.Z9] (YU r.1.ZX) r.2.1∧QJ r.1
theorem IX.keeps {us:List TypeId}{w w':World}{rs:List Yv}(h:IX w rs)(hk:ZR us w w')(hd:9∉us):IX w' rs:=fun r hr=>⟨ZB (h r hr).1 hk (by simpa using hd),(h r hr).2⟩
theorem Ru.MZ {w:World}{S:Nat→Prop}{r:Yv}(h:ZV w S [.Z9] (YU r.1.ZX) r.2.1)(hb:QJ r.1):ZH w S Yx r.1.da (Yv.cs r):=by
 have h5:=YK.WJ (c:=r.2.2) h;have h6:ZH w S Yx r.1.da [.string (Z9 r.1.name),.int .i64 r.1.ZQ,.slice r.2.1 (YU r.1.ZX).length r.2.2,.int .i64 r.1.low,.int .i64 r.1.ZF,.string (Z9 r.1.Z8),.string (Z9 r.1.ZY),.string (Z9 r.1.key)]:=
  ZH.mk (YK.YZ _) (ZH.mk (YK.Xq _) (ZH.mk h5 (ZH.mk (YK.UU hb.1) (ZH.mk (YK.UU hb.2) (ZH.mk (YK.YZ _) (ZH.mk (YK.YZ _) (ZH.one (YK.YZ _))))))))
 have e:(YU r.1.ZX).length=r.1.ZX.length:=by simp [YU]
 rw [e] at h6;exact h6
def IV (w:World)(ts:List Za):Prop:= ∀ t∈ts,ZV w (Xn w KR) Zl (t.1.ZX.map Cl.da) t.2.1∧ZV w (Xn w KR) Yx (t.1.ZS.map Ru.da) t.2.2.2.1
theorem IV.keeps {us:List TypeId}{w w':World}{ts:List Za}(h:IV w ts)(hk:ZR us w w')(hd: ∀ t,t∈KR→t∉us):IV w' ts:=fun t ht=>⟨ZB (h t ht).1 hk hd,ZB (h t ht).2 hk hd⟩
end Go.Proofs.YtnhmoibjlakhjaaGreat
