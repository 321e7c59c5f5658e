/- Lemmas of the proof. No condition but each theorem's own. -/
import Derived.Test.YtnhmoibjlakhjaaGreatM24
import Derived.Test.YtnhmoibjlakhjaaGreatM03
import Derived.Test.YtnhmoibjlakhjaaGreatM10
import Derived.Test.YtnhmoibjlakhjaaGreatM20
import Derived.Maps.Own
import Derived.Maps.OwnOps
import Derived.Maps.Views
import Derived.Maps.AppendAt
set_option linter.unusedVariables false
set_option linter.unusedSimpArgs false
namespace Go.Proofs.YtnhmoibjlakhjaaGreat
open Lib (hid)
set_option maxRecDepth 100000
set_option maxHeartbeats 16000000
open Go.RowKit
theorem Ze.out {B:Nat}{w w':World}(h:Ze B none w w'):Below B w w':=h.low lr (by simp)
def Kv (o:Ob)(R:Int→Ob→Prop)(w:World)(e:Ending)(w':World):Prop:= ∃ er o' C0 m0 C1 m1,e= .returned (.tuple #[.agg #[.slice C0 o'.Z4.length m0,.slice C1 o'.Z7.length m1],.int .i64 er])∧Pe o R er o'∧PM w' o' C0 C1∧Below w.heap.size w w'
theorem QW (o:Ob)(A0:Option Addr)(k0:Nat)(A1:Option Addr)(k1:Nat)(nm ow:List UInt8)(w:World)(hO:O3 w o A0 A1)(ho:o.Zs 1099511627776):
  Calls Tryz.prog 138 #[.agg #[.slice A0 o.Z4.length k0,.slice A1 o.Z7.length k1],.string (Z9 nm),.string (Z9 ow)] w (Kv o (VD o nm ow) w):=by
 have HOb:=hid hO;have HO:=hid ho;have HI:=iN 26 2;clear hO ho;go_enter Tryz.func138,Tryz.ntmps138
 go_wp2_with fail;refine Zj _ fun W hW=> ?_
 have HB1:Hid (Below w.heap.size w W):=hid (by rw [hW];exact((((br.alloc lr _).alloc (by simp) _).alloc (by simp;omega) _).alloc (by simp;omega) _));have q0:ZP W (w.heap.size) 26 [.slice A0 o.Z4.length k0,.slice A1 o.Z7.length k1]:=by rw [hW];exact(ZP.alloc (ZP.alloc (ZP.alloc (ZP.new w 26 [.slice A0 o.Z4.length k0,.slice A1 o.Z7.length k1]) _) _) _)
 have q1:ZP W (w.heap.size+1) 9 [.string (Z9 nm)]:=by rw [hW];exact(ZP.alloc (ZP.alloc (by simpa using ZP.new (w.alloc (.cells #[.slice A0 o.Z4.length k0,.slice A1 o.Z7.length k1] 26)) 9 [.string (Z9 nm)]) _) _)
 have q2:ZP W (w.heap.size+1+1) 9 [.string (Z9 ow)]:=by rw [hW];exact(ZP.alloc (by simpa using ZP.new ((w.alloc (.cells #[.slice A0 o.Z4.length k0,.slice A1 o.Z7.length k1] 26)).alloc (.cells #[.string (Z9 nm)] 9)) 9 [.string (Z9 ow)]) _)
 have q3:ZP W (w.heap.size+1+1+1) 26 [.slice none 0 0,.slice none 0 0]:=by rw [hW];exact(by simpa using ZP.new (((w.alloc (.cells #[.slice A0 o.Z4.length k0,.slice A1 o.Z7.length k1] 26)).alloc (.cells #[.string (Z9 nm)] 9)).alloc (.cells #[.string (Z9 ow)] 9)) 26 [.slice none 0 0,.slice none 0 0])
 clear hW;have Q:=hid q3;have hql:=q3.lt;refine(WB none 194 _ (VD o nm ow) o A0 k0 A1 k1 W (enters_of Tryz.func194 (by kernel_rfl) rfl) (HOb.out.later HB1.out) HO.out (NT o nm ow _ _ W HO.out q1 q2) (by simp)).mono ?_
 rintro e W2 ⟨er,o',C0,m0,C1,m1,rfl,hR,hOb,hb⟩;have HB2:Hid (Below w.heap.size w W2):=hid (HB1.out.trans (hb.low HB1.out.size (by simp)));have Q2:=hid (hb.Ym Q.out Q.out.lt (by simp));have HR:=hid hR;have HOb2:=hid hOb;clear hb hR hOb HB1 Q q0 q1 q2 q3;go_wp2_with (first | ((refine sO Q2 HI ?_);intro wS HS) | fail);refine bodyPost_ret (rt (hid HS.out.Ym) Tryz.underlying26 HI) rfl ?_
 exact⟨er,o',C0,m0,C1,m1,rfl,HR.out,HOb2.out.keeps HS.out.keeps (by decide),HS.out.below HB2.out (by omega)⟩
theorem RW (o:Ob)(A0:Option Addr)(k0:Nat)(A1:Option Addr)(k1:Nat)(nm:List UInt8)(w:World)(hO:O3 w o A0 A1)(ho:o.Zs 1099511627776):
  Calls Tryz.prog 139 #[.agg #[.slice A0 o.Z4.length k0,.slice A1 o.Z7.length k1],.string (Z9 nm)] w (Kv o (Vi o nm) w):=by
 have HOb:=hid hO;have HO:=hid ho;have HI:=iN 26 2;clear hO ho;go_enter Tryz.func139,Tryz.ntmps139
 go_wp2_with fail;refine Zj _ fun W hW=> ?_
 have HB1:Hid (Below w.heap.size w W):=hid (by rw [hW];exact(((br.alloc lr _).alloc (by simp) _).alloc (by simp;omega) _));have q0:ZP W (w.heap.size) 26 [.slice A0 o.Z4.length k0,.slice A1 o.Z7.length k1]:=by rw [hW];exact(ZP.alloc (ZP.alloc (ZP.new w 26 [.slice A0 o.Z4.length k0,.slice A1 o.Z7.length k1]) _) _)
 have q1:ZP W (w.heap.size+1) 9 [.string (Z9 nm)]:=by rw [hW];exact(ZP.alloc (by simpa using ZP.new (w.alloc (.cells #[.slice A0 o.Z4.length k0,.slice A1 o.Z7.length k1] 26)) 9 [.string (Z9 nm)]) _)
 have q2:ZP W (w.heap.size+1+1) 26 [.slice none 0 0,.slice none 0 0]:=by rw [hW];exact(by simpa using ZP.new ((w.alloc (.cells #[.slice A0 o.Z4.length k0,.slice A1 o.Z7.length k1] 26)).alloc (.cells #[.string (Z9 nm)] 9)) 26 [.slice none 0 0,.slice none 0 0])
 clear hW;have Q:=hid q2;have hql:=q2.lt;refine(WB none 197 _ (Vi o nm) o A0 k0 A1 k1 W (enters_of Tryz.func197 (by kernel_rfl) rfl) (HOb.out.later HB1.out) HO.out (OL o nm _ W HO.out q1) (by simp)).mono ?_
 rintro e W2 ⟨er,o',C0,m0,C1,m1,rfl,hR,hOb,hb⟩;have HB2:Hid (Below w.heap.size w W2):=hid (HB1.out.trans (hb.low HB1.out.size (by simp)));have Q2:=hid (hb.Ym Q.out Q.out.lt (by simp));have HR:=hid hR;have HOb2:=hid hOb;clear hb hR hOb HB1 Q q0 q1 q2;go_wp2_with (first | ((refine sO Q2 HI ?_);intro wS HS) | fail);refine bodyPost_ret (rt (hid HS.out.Ym) Tryz.underlying26 HI) rfl ?_
 exact⟨er,o',C0,m0,C1,m1,rfl,HR.out,HOb2.out.keeps HS.out.keeps (by decide),HS.out.below HB2.out (by omega)⟩
theorem PI (o:Ob)(A0:Option Addr)(k0:Nat)(A1:Option Addr)(k1:Nat)(t:Tb)(X:Option Addr)(x:Nat)(Y:Option Addr)(y:Nat)(w:World)(hO:O3 w o A0 A1)(ho:o.Zs 1099511627776)(ht:t.Zs 1099511627776)(hX:ZV w (· < w.heap.size) Zo (t.ZY.map Cl.da) X)(hY:ZV w (· < w.heap.size) YP (t.ZT.map Ru.da) Y):
  Calls Tryz.prog 140 #[.agg #[.slice A0 o.Z4.length k0,.slice A1 o.Z7.length k1],.agg #[.string (Z9 t.Z8),.string (Z9 t.name),.string (Z9 t.ZN),.slice X t.ZY.length x,.slice Y t.ZT.length y]] w (Kv o (Uh o t) w):=by
 have HOb:=hid hO;have HO:=hid ho;have HI:=iN 26 2;have HTm:=hid ht;have HXr:=hid hX;have HYr:=hid hY;clear hO ho ht hX hY;go_enter Tryz.func140,Tryz.ntmps140
 go_wp2_with fail;refine Zj _ fun W hW=> ?_
 have HB1:Hid (Below w.heap.size w W):=hid (by rw [hW];exact(((br.alloc lr _).alloc (by simp) _).alloc (by simp;omega) _));have q0:ZP W (w.heap.size) 26 [.slice A0 o.Z4.length k0,.slice A1 o.Z7.length k1]:=by rw [hW];exact(ZP.alloc (ZP.alloc (ZP.new w 26 [.slice A0 o.Z4.length k0,.slice A1 o.Z7.length k1]) _) _)
 have q1:ZP W (w.heap.size+1) 73 [.string (Z9 t.Z8),.string (Z9 t.name),.string (Z9 t.ZN),.slice X t.ZY.length x,.slice Y t.ZT.length y]:=by rw [hW];exact(ZP.alloc (by simpa using ZP.new (w.alloc (.cells #[.slice A0 o.Z4.length k0,.slice A1 o.Z7.length k1] 26)) 73 [.string (Z9 t.Z8),.string (Z9 t.name),.string (Z9 t.ZN),.slice X t.ZY.length x,.slice Y t.ZT.length y]) _)
 have q2:ZP W (w.heap.size+1+1) 26 [.slice none 0 0,.slice none 0 0]:=by rw [hW];exact(by simpa using ZP.new ((w.alloc (.cells #[.slice A0 o.Z4.length k0,.slice A1 o.Z7.length k1] 26)).alloc (.cells #[.string (Z9 t.Z8),.string (Z9 t.name),.string (Z9 t.ZN),.slice X t.ZY.length x,.slice Y t.ZT.length y] 73)) 26 [.slice none 0 0,.slice none 0 0])
 clear hW;have Q:=hid q2;have hql:=q2.lt;refine(WB none 199 _ (Uh o t) o A0 k0 A1 k1 W (enters_of Tryz.func199 (by kernel_rfl) rfl) (HOb.out.later HB1.out) HO.out (NS o t X x Y y _ W HO.out HTm.out q1 (HXr.out.later HB1.out) (HYr.out.later HB1.out)) (by simp)).mono ?_
 rintro e W2 ⟨er,o',C0,m0,C1,m1,rfl,hR,hOb,hb⟩;have HB2:Hid (Below w.heap.size w W2):=hid (HB1.out.trans (hb.low HB1.out.size (by simp)));have Q2:=hid (hb.Ym Q.out Q.out.lt (by simp));have HR:=hid hR;have HOb2:=hid hOb;clear hb hR hOb HB1 Q q0 q1 q2;go_wp2_with (first | ((refine sO Q2 HI ?_);intro wS HS) | fail);refine bodyPost_ret (rt (hid HS.out.Ym) Tryz.underlying26 HI) rfl ?_
 exact⟨er,o',C0,m0,C1,m1,rfl,HR.out,HOb2.out.keeps HS.out.keeps (by decide),HS.out.below HB2.out (by omega)⟩
theorem QX (o:Ob)(A0:Option Addr)(k0:Nat)(A1:Option Addr)(k1:Nat)(s n:List UInt8)(c:Cl)(w:World)(hO:O3 w o A0 A1)(ho:o.Zs 1099511627776):
  Calls Tryz.prog 141 #[.agg #[.slice A0 o.Z4.length k0,.slice A1 o.Z7.length k1],.string (Z9 s),.string (Z9 n),.agg #[.string (Z9 c.name),.int .i64 c.ZQ,.bool c.null]] w (Kv o (RT o s n (Vk o c)) w):=by
 have HOb:=hid hO;have HO:=hid ho;have HI:=iN 26 2;clear hO ho;go_enter Tryz.func141,Tryz.ntmps141
 go_wp2_with fail;refine Zj _ fun W hW=> ?_
 have HB1:Hid (Below w.heap.size w W):=hid (by rw [hW];exact(((br.alloc lr _).alloc (by simp) _).alloc (by simp;omega) _));have q0:ZP W (w.heap.size) 26 [.slice A0 o.Z4.length k0,.slice A1 o.Z7.length k1]:=by rw [hW];exact(ZP.alloc (ZP.alloc (ZP.new w 26 [.slice A0 o.Z4.length k0,.slice A1 o.Z7.length k1]) _) _)
 have q1:ZP W (w.heap.size+1) 119 [.string (Z9 c.name),.int .i64 c.ZQ,.bool c.null]:=by rw [hW];exact(ZP.alloc (by simpa using ZP.new (w.alloc (.cells #[.slice A0 o.Z4.length k0,.slice A1 o.Z7.length k1] 26)) 119 [.string (Z9 c.name),.int .i64 c.ZQ,.bool c.null]) _)
 have q2:ZP W (w.heap.size+1+1) 26 [.slice none 0 0,.slice none 0 0]:=by rw [hW];exact(by simpa using ZP.new ((w.alloc (.cells #[.slice A0 o.Z4.length k0,.slice A1 o.Z7.length k1] 26)).alloc (.cells #[.string (Z9 c.name),.int .i64 c.ZQ,.bool c.null] 119)) 26 [.slice none 0 0,.slice none 0 0])
 clear hW;have Q:=hid q2;have hql:=q2.lt;refine(Vp none 201 _ (Vk o c) o s n A0 k0 A1 k1 W (enters_of Tryz.func201 (by kernel_rfl) rfl) (HOb.out.later HB1.out) HO.out (O0 o s n c _ W HO.out q1) (by simp)).mono ?_
 rintro e W2 ⟨er,o',C0,m0,C1,m1,rfl,hR,hOb,hb⟩;have HB2:Hid (Below w.heap.size w W2):=hid (HB1.out.trans (hb.low HB1.out.size (by simp)));have Q2:=hid (hb.Ym Q.out Q.out.lt (by simp));have HR:=hid hR;have HOb2:=hid hOb;clear hb hR hOb HB1 Q q0 q1 q2;go_wp2_with (first | ((refine sO Q2 HI ?_);intro wS HS) | fail);refine bodyPost_ret (rt (hid HS.out.Ym) Tryz.underlying26 HI) rfl ?_
 exact⟨er,o',C0,m0,C1,m1,rfl,HR.out,HOb2.out.keeps HS.out.keeps (by decide),HS.out.below HB2.out (by omega)⟩
theorem RX (o:Ob)(A0:Option Addr)(k0:Nat)(A1:Option Addr)(k1:Nat)(s n nm:List UInt8)(w:World)(hO:O3 w o A0 A1)(ho:o.Zs 1099511627776):
  Calls Tryz.prog 142 #[.agg #[.slice A0 o.Z4.length k0,.slice A1 o.Z7.length k1],.string (Z9 s),.string (Z9 n),.string (Z9 nm)] w (Kv o (RT o s n (Wc o nm)) w):=by
 have HOb:=hid hO;have HO:=hid ho;have HI:=iN 26 2;clear hO ho;go_enter Tryz.func142,Tryz.ntmps142
 go_wp2_with fail;refine Zj _ fun W hW=> ?_
 have HB1:Hid (Below w.heap.size w W):=hid (by rw [hW];exact(((br.alloc lr _).alloc (by simp) _).alloc (by simp;omega) _));have q0:ZP W (w.heap.size) 26 [.slice A0 o.Z4.length k0,.slice A1 o.Z7.length k1]:=by rw [hW];exact(ZP.alloc (ZP.alloc (ZP.new w 26 [.slice A0 o.Z4.length k0,.slice A1 o.Z7.length k1]) _) _)
 have q1:ZP W (w.heap.size+1) 9 [.string (Z9 nm)]:=by rw [hW];exact(ZP.alloc (by simpa using ZP.new (w.alloc (.cells #[.slice A0 o.Z4.length k0,.slice A1 o.Z7.length k1] 26)) 9 [.string (Z9 nm)]) _)
 have q2:ZP W (w.heap.size+1+1) 26 [.slice none 0 0,.slice none 0 0]:=by rw [hW];exact(by simpa using ZP.new ((w.alloc (.cells #[.slice A0 o.Z4.length k0,.slice A1 o.Z7.length k1] 26)).alloc (.cells #[.string (Z9 nm)] 9)) 26 [.slice none 0 0,.slice none 0 0])
 clear hW;have Q:=hid q2;have hql:=q2.lt;refine(Vp none 205 _ (Wc o nm) o s n A0 k0 A1 k1 W (enters_of Tryz.func205 (by kernel_rfl) rfl) (HOb.out.later HB1.out) HO.out (PA o s n nm _ W HO.out q1) (by simp)).mono ?_
 rintro e W2 ⟨er,o',C0,m0,C1,m1,rfl,hR,hOb,hb⟩;have HB2:Hid (Below w.heap.size w W2):=hid (HB1.out.trans (hb.low HB1.out.size (by simp)));have Q2:=hid (hb.Ym Q.out Q.out.lt (by simp));have HR:=hid hR;have HOb2:=hid hOb;clear hb hR hOb HB1 Q q0 q1 q2;go_wp2_with (first | ((refine sO Q2 HI ?_);intro wS HS) | fail);refine bodyPost_ret (rt (hid HS.out.Ym) Tryz.underlying26 HI) rfl ?_
 exact⟨er,o',C0,m0,C1,m1,rfl,HR.out,HOb2.out.keeps HS.out.keeps (by decide),HS.out.below HB2.out (by omega)⟩
theorem OZ (o:Ob)(A0:Option Addr)(k0:Nat)(A1:Option Addr)(k1:Nat)(s n:List UInt8)(r:Ru)(RA:Option Addr)(rn:Nat)(w:World)(hO:O3 w o A0 A1)(ho:o.Zs 1099511627776)(hr:r.Zs 1099511627776)(hbr:QZ r)(hRA:ZV w (· < w.heap.size) [.Z9] (YY r.ZY) RA):
  Calls Tryz.prog 143 #[.agg #[.slice A0 o.Z4.length k0,.slice A1 o.Z7.length k1],.string (Z9 s),.string (Z9 n),.agg #[.string (Z9 r.name),.int .i64 r.ZQ,.slice RA r.ZY.length rn,.int .i64 r.low,.int .i64 r.ZF,.string (Z9 r.Z8),.string (Z9 r.ZX),.string (Z9 r.key)]] w (Kv o (RT o s n (Xc o r)) w):=by
 have HOb:=hid hO;have HO:=hid ho;have HI:=iN 26 2;have HRt:=hid hr;have HBd:=hid hbr;have HRA:=hid hRA;clear hO ho hr hbr hRA;go_enter Tryz.func143,Tryz.ntmps143
 go_wp2_with fail;refine Zj _ fun W hW=> ?_
 have HB1:Hid (Below w.heap.size w W):=hid (by rw [hW];exact(((br.alloc lr _).alloc (by simp) _).alloc (by simp;omega) _));have q0:ZP W (w.heap.size) 26 [.slice A0 o.Z4.length k0,.slice A1 o.Z7.length k1]:=by rw [hW];exact(ZP.alloc (ZP.alloc (ZP.new w 26 [.slice A0 o.Z4.length k0,.slice A1 o.Z7.length k1]) _) _)
 have q1:ZP W (w.heap.size+1) 40 [.string (Z9 r.name),.int .i64 r.ZQ,.slice RA r.ZY.length rn,.int .i64 r.low,.int .i64 r.ZF,.string (Z9 r.Z8),.string (Z9 r.ZX),.string (Z9 r.key)]:=by rw [hW];exact(ZP.alloc (by simpa using ZP.new (w.alloc (.cells #[.slice A0 o.Z4.length k0,.slice A1 o.Z7.length k1] 26)) 40 [.string (Z9 r.name),.int .i64 r.ZQ,.slice RA r.ZY.length rn,.int .i64 r.low,.int .i64 r.ZF,.string (Z9 r.Z8),.string (Z9 r.ZX),.string (Z9 r.key)]) _)
 have q2:ZP W (w.heap.size+1+1) 26 [.slice none 0 0,.slice none 0 0]:=by rw [hW];exact(by simpa using ZP.new ((w.alloc (.cells #[.slice A0 o.Z4.length k0,.slice A1 o.Z7.length k1] 26)).alloc (.cells #[.string (Z9 r.name),.int .i64 r.ZQ,.slice RA r.ZY.length rn,.int .i64 r.low,.int .i64 r.ZF,.string (Z9 r.Z8),.string (Z9 r.ZX),.string (Z9 r.key)] 40)) 26 [.slice none 0 0,.slice none 0 0])
 clear hW;have Q:=hid q2;have hql:=q2.lt;refine(Vp (some (w.heap.size+1)) 209 _ (Xc o r) o s n A0 k0 A1 k1 W (enters_of Tryz.func209 (by kernel_rfl) rfl) (HOb.out.later HB1.out) HO.out (PJ o s n r RA rn _ W HO.out HRt.out HBd.out q1 (HRA.out.later HB1.out)) (fun c hc=>by injection hc with hc;omega)).mono ?_
 rintro e W2 ⟨er,o',C0,m0,C1,m1,rfl,hR,hOb,hb⟩;have HB2:Hid (Below w.heap.size w W2):=hid (HB1.out.trans (hb.low HB1.out.size (fun c hc=>by injection hc with hc;omega)))
 have Q2:=hid (hb.Ym Q.out Q.out.lt (fun e=>by injection e with e;omega));have HR:=hid hR;have HOb2:=hid hOb;clear hb hR hOb HB1 Q q0 q1 q2;go_wp2_with (first | ((refine sO Q2 HI ?_);intro wS HS) | fail);refine bodyPost_ret (rt (hid HS.out.Ym) Tryz.underlying26 HI) rfl ?_
 exact⟨er,o',C0,m0,C1,m1,rfl,HR.out,HOb2.out.keeps HS.out.keeps (by decide),HS.out.below HB2.out (by omega)⟩
def IG (o:Ob)(s n ow:List UInt8)(er:Int)(o':Ob):Prop:=(er=1∧Zq ow=false)∨RT o s n (Wj o ow) er o'
theorem Tr (o:Ob)(A0:Option Addr)(k0:Nat)(A1:Option Addr)(k1:Nat)(s n ow:List UInt8)(w:World)(hO:O3 w o A0 A1)(ho:o.Zs 1099511627776):
  Calls Tryz.prog 127 #[.agg #[.slice A0 o.Z4.length k0,.slice A1 o.Z7.length k1],.string (Z9 s),.string (Z9 n),.string (Z9 ow)] w (Kv o (IG o s n ow) w):=by
 have HOb:=hid hO;have HO:=hid ho;have HI:=iN 26 2;have HE0:Hid (RV o=if YR o=true then 0 else 63):=hid rfl;clear hO ho;go_enter Tryz.func127,Tryz.ntmps127
 go_wp2_with fail;refine Zj _ fun W hW=> ?_
 have HB1:=bR hW;have q0:ZP W (w.heap.size) 26 [.slice A0 o.Z4.length k0,.slice A1 o.Z7.length k1]:=by rw [hW];exact(ZP.alloc (ZP.alloc (ZP.new w 26 [.slice A0 o.Z4.length k0,.slice A1 o.Z7.length k1]) _) _)
 have q1:ZP W (w.heap.size+1) 9 [.string (Z9 ow)]:=by rw [hW];exact(ZP.alloc (by simpa using ZP.new (w.alloc (.cells #[.slice A0 o.Z4.length k0,.slice A1 o.Z7.length k1] 26)) 9 [.string (Z9 ow)]) _)
 have q2:ZP W (w.heap.size+1+1) 26 [.slice none 0 0,.slice none 0 0]:=by rw [hW];exact(by simpa using ZP.new ((w.alloc (.cells #[.slice A0 o.Z4.length k0,.slice A1 o.Z7.length k1] 26)).alloc (.cells #[.string (Z9 ow)] 9)) 26 [.slice none 0 0,.slice none 0 0])
 clear hW;have h1:=HOb.out.later HB1.out;refine(UE o A0 k0 A1 k1 W h1.sc h1.tb HO.out).mono ?_
 rintro e W2 ⟨rfl,hb⟩;have HB2:=bt HB1 hb;have P0:=hid (q0.below hb q0.lt);have P1:=hid (q1.below hb q1.lt);have P2:=hid (q2.below hb q2.lt);clear hb HB1 q0 q1 q2 h1;have REST: ∀ W3,Below W2.heap.size W2 W3→Hid (Calls Tryz.prog 176 #[.agg #[.slice A0 o.Z4.length k0,.slice A1 o.Z7.length k1],.string (Z9 s),.string (Z9 n),.func (.func 177) #[] #[.pointer (some ⟨w.heap.size+1,0,none⟩)]] W3 fun e w'=> ∃ er o' C0 m0 C1 m1,e= .returned (.tuple #[.agg #[.slice C0 o'.Z4.length m0,.slice C1 o'.Z7.length m1],.int .i64 er])∧Pe o (RT o s n (Wj o ow)) er o'∧PM w' o' C0 C1∧Ze W3.heap.size none W3 w'):=fun W3 h3=>hid (Vp none 177 _ (Wj o ow) o s n A0 k0 A1 k1 W3 (enters_of Tryz.func177 (by kernel_rfl) rfl) ((HOb.out.later HB2.out).later h3) HO.out (QI o s n ow _ W3 (P1.out.below h3 P1.out.lt)) (by simp))
 have hl2:=P2.out.lt;generalize RV o=eo at*
 cases hc:YR o
 ·have HCk:=hid hc;rw [hc] at HE0;obtain rfl:eo=63:=HE0.out;have R3:=REST W2 br;clear REST hc;have p0:=ce P0 0;have p1:=ce P0 1;go_wp2_with fail;refine R3.out.mono ?_
  rintro e W4 ⟨er,o',C0,m0,C1,m1,rfl,hR,hOb,hb⟩;have HB4:=bt HB2 hb.out;have Q2:=hid (P2.out.below hb.out hl2);have HR:=hid hR;have HOb2:=hid hOb;clear hb hR hOb R3;go_wp2_with (first | ((refine sO Q2 HI ?_);intro wS HS) | fail);refine bodyPost_ret (rt (hid HS.out.Ym) Tryz.underlying26 HI) rfl ?_
  refine⟨er,o',C0,m0,C1,m1,rfl,?_,HOb2.out.keeps HS.out.keeps (by decide),HS.out.below HB4.out (by omega)⟩
  have h:=HR.out;unfold Pe at h ⊢;rw [HCk.out] at h ⊢;exact h
 have HCk:=hid hc;rw [hc] at HE0;obtain rfl:eo=0:=HE0.out;clear hc;have p2:=ce P1 0;have hNm:Hid (Zq ow=false→ ∀ er o',(er=1∧Zq ow=false)∨RT o s n (Wj o ow) er o'→IG o s n ow er o'):=hid fun _ er o' h=>h
 have HN:=hid (show ∀ v,Zq ow=v→Zq ow=v from fun _ h=>h);have hn:=fun W=>YK ow W
 cases hv:Zq ow
 all_goals
  have HV:=hid hv;rw [hv] at hn;clear hv HN;go_wp2_with fail;refine(hn W2).mono ?_
  rintro e W3 ⟨rfl,m,rfl⟩;have hB3:Below W2.heap.size W2 (W2.drewN m):=below_drewN br m
 ·have HB3:=bt HB2 hB3;have Q3:=hid (P2.out.drewN m);clear REST hB3;go_wp2_with (first | ((refine sO Q3 HI ?_);intro wS HS) | fail);refine bodyPost_ret (rt (hid HS.out.Ym) Tryz.underlying26 HI) rfl ?_
  refine⟨1,⟨[],[]⟩,none,0,none,0,rfl,?_,⟨ZV.nil,ZV.nil⟩,HS.out.below HB3.out (by omega)⟩
  unfold Pe;rw [HCk.out];exact⟨⟨[],[]⟩,Or.inl ⟨rfl,HV.out⟩,rfl⟩
 ·have R3:=REST (W2.drewN m) hB3;have HB3:=bt HB2 hB3;have p0:(W2.drewN m).cell? ⟨w.heap.size,0,none⟩=some (.slice A0 o.Z4.length k0):=P0.out.cell 0;have p1:(W2.drewN m).cell? ⟨w.heap.size,1,none⟩=some (.slice A1 o.Z7.length k1):=P0.out.cell 1;clear REST hB3;go_wp2_with fail;refine R3.out.mono ?_
  rintro e W4 ⟨er,o',C0,m0,C1,m1,rfl,hR,hOb,hb⟩;have HB4:=bt HB3 hb.out;have Q2:=hid ((P2.out.drewN m).below hb.out hl2);have HR:=hid hR;have HOb2:=hid hOb;clear hb hR hOb R3;go_wp2_with (first | ((refine sO Q2 HI ?_);intro wS HS) | fail);refine bodyPost_ret (rt (hid HS.out.Ym) Tryz.underlying26 HI) rfl ?_
  refine⟨er,o',C0,m0,C1,m1,rfl,?_,HOb2.out.keeps HS.out.keeps (by decide),HS.out.below HB4.out (by omega)⟩
  have h:=HR.out;unfold Pe at h ⊢;rw [HCk.out] at h ⊢;obtain⟨o'',h1,h2⟩:=h;exact⟨o'',Or.inr h1,h2⟩
def Uv {α:Type}(p:α→α→Bool):List α→Bool
 | []=>true
 | [_]=>true
 | a ::b ::l=>p a b && Uv p (b ::l)
theorem VM {α:Type}(p:α→α→Bool): ∀ l:List α,Uv p l=true↔ ∀ j (h:j+1<l.length),p l[j] l[j+1]=true
 | []=>⟨fun _ j h=>absurd h (by simp),fun _=>rfl⟩
 | [_]=>⟨fun _ j h=>absurd h (by simp),fun _=>rfl⟩
 | a ::b ::l=>by
  rw [Uv,Bool.and_eq_true,VM p (b ::l)];constructor
  ·rintro⟨h1,h2⟩ j hj
   cases j with
   | zero=>exact h1
   | succ j=>exact h2 j (by simpa using hj)
  ·intro h;exact⟨h 0 (by simp),fun j hj=>h (j+1) (by simpa using hj)⟩
theorem PH {α:Type}(p:α→α→Bool)(l:List α)(j:Nat)(h:j+1<l.length)(hp:p l[j] l[j+1]=false):Uv p l=false:=by
 cases ha:Uv p l
 ·rfl
 ·have:=(VM p l).1 ha j h;rw [hp] at this;exact absurd this (by decide)
theorem Og {α:Type}(c:α→α→Int)(hs: ∀ a b,c b a= -(c a b))(l:List α):Zn c l=(Uv (fun a b=> !decide (c b a<0)) l && Uv (fun a b=> !decide (c b a=0)) l):=by
 induction l with
 | nil=>rfl
 | cons a l ih=>
  cases l with
  | nil=>rfl
  | cons b l=>
   show (decide (c a b<0) && Zn c (b ::l))=((!decide (c b a<0) && Uv _ (b ::l)) && (!decide (c b a=0) && Uv _ (b ::l)))
   rw [ih,hs a b];by_cases h1:c a b<0
   ·have h2: ¬ -(c a b)<0:=by omega
    have h3: ¬ -(c a b)=0:=by omega
    simp only [h1,h2,h3,decide_true,decide_false,Bool.true_and,Bool.not_false]
   ·by_cases h4: -(c a b)<0
    ·simp only [h1,h4,decide_true,decide_false,Bool.false_and,Bool.not_true]
    ·have h5: -(c a b)=0:=by omega
     simp only [h1,h5,decide_true,decide_false,Bool.false_and,Bool.not_true,Bool.and_false]
theorem Ld (a b:Mb):X4 b a= -(X4 a b):=((XK.Tf Mb.ZR).Js (XK.Tf Mb.of)).M5 a b
theorem Oc (a b:List UInt8)(w:World):
  Calls Tryz.prog 107 #[.string (Z9 a),.string (Z9 b)] w fun e w'=>e= .returned (.int .i64 (Y3 a b))∧WT w w':=(XP a b w).mono (by rintro e w' ⟨rfl,rfl⟩;exact⟨rfl,WT.refl _⟩)
theorem Zg.H8 {α:Type}{enc:α→List Value}{k:Nat}{w:World}{B:Nat}{A:Option Addr}{l:List α}(h:Zg w B A enc l)(hk: ∀ x,(enc x).length=k){j:Nat}(hj:j+1<l.length):
  ∃ ad,A=some ad∧ad.block<B∧(∀ i u,(enc l[j])[i]?=some u→w.cell? (ad.add (j*k+i))=some u)∧ ∀ i u,(enc l[j+1])[i]?=some u→w.cell? (ad.add ((j+1)*k+i))=some u:=by
 obtain⟨ad,e,hB,hr⟩:=h (by omega);refine⟨ad,e,hB,fun i u hu=>hr _ _ ?_,fun i u hu=>hr _ _ ?_⟩
 ·rw [Zi hk l j i (by omega) (by rw [←hk l[j]];exact(List.getElem?_eq_some_iff.1 hu).1)];exact hu
 ·rw [Zi hk l (j+1) i hj (by rw [←hk l[j+1]];exact(List.getElem?_eq_some_iff.1 hu).1)];exact hu
theorem M6 (l:List (List UInt8))(A:Option Addr)(c:Nat)(w:World)(hA:Zg w w.heap.size A YT l)(hn:l.length≤1099511627776):
  Calls Tryz.prog 228 #[.slice A l.length c,.func (.func 107) #[] #[]] w fun e w'=>e= .returned (.bool (Uv (fun a b:(List UInt8)=> !decide (Y3 b a<0)) l))∧Below w.heap.size w w':=by
 have HA:=hid hA;clear hA;go_enter Tryz.func228,Tryz.ntmps228
 go_wp2;go_loopw [5] (fun i wr=> ∃ j:Nat,j≤l.length∧i= .int .i64 ((j:Int) - 1)∧Hid (∀ k (hk:k+1<l.length),j≤k+1→(fun a b:(List UInt8)=> !decide (Y3 b a<0)) l[k] l[k+1]=true)∧Hid (Below w.heap.size w wr)) (fun i _=>(intOf i+1).toNat)
 case atStart=>exact⟨l.length,Nat.le_refl _,by(try go_num),hid (fun k hk h=>by omega),hid br⟩
 case round=>
  obtain⟨j',hj,rfl,HE,HBw⟩:=hrel;by_cases hlt:1<j'
  ·obtain⟨j,rfl⟩: ∃ j,j'=j+2:=⟨j' - 2,by omega⟩
   have hb0:(((j+2:Nat):Int) - 1)=(j:Int)+1:=by omega
   rw [hb0];have hb1:(j:Int)+1< (l.length:Int):=by omega
   have hb2:(0:Int)≤(j:Int)+1:=by omega
   have hb3:((j:Int)+1).toNat=j+1:=by omega
   have hb4:(j:Int)< (l.length:Int):=by omega
   have hb5:(0:Int)< (j:Int)+1:=by omega
   have hb6:(j:Int)+1 > 0:=by omega
   have hb7:(j:Int)+1 - 1=(j:Int):=by omega
   have hwr:IntKind.i64.wrap ((j:Int)+1 - 1)=(j:Int):=by rw [hb7];simp [IntKind.wrap,IntKind.bits,IntKind.signed];omega
   have hwr2:IntKind.i64.wrap (j:Int)=(j:Int):=by simp [IntKind.wrap,IntKind.bits,IntKind.signed];omega
   have hwr3:IntKind.i64.wrap ((j:Int)+1)=(j:Int)+1:=by simp [IntKind.wrap,IntKind.bits,IntKind.signed];omega
   obtain⟨ad,rfl,hB,hr,hr'⟩:=(HA.out.later HBw.out).H8 YT.k (j:=j) (by omega);have HX:Hid ((fun a b:(List UInt8)=> !decide (Y3 b a<0)) l[j] l[j+1]=true→ ∀ k (hk:k+1<l.length),j+1≤k+1→(fun a b:(List UInt8)=> !decide (Y3 b a<0)) l[k] l[k+1]=true):=hid (by
    intro h k hk hjk;rcases Nat.lt_or_ge (k+1) (j+2) with h1 | h1
    ·obtain rfl:k=j:=by omega
     exact h
    ·exact HE.out k hk h1)
   have HN:Hid ((fun a b:(List UInt8)=> !decide (Y3 b a<0)) l[j] l[j+1]=false→Uv (fun a b:(List UInt8)=> !decide (Y3 b a<0)) l=false):=hid (PH (fun a b:(List UInt8)=> !decide (Y3 b a<0)) l j (by omega));generalize l[j]=x at HX HN hr;generalize l[j+1]=y at HX HN hr';have a0:wr.cell? (ad.add j)=some (Value.string (Z9 x)):=by have:=hr 0 _ rfl;rwa [Nat.add_zero,Nat.mul_one] at this
   have b0:wr.cell? ⟨ad.block,ad.off+ (j+1),none⟩=some (Value.string (Z9 y)):=by have:=hr' 0 _ rfl;rw [Nat.add_zero,Nat.mul_one] at this;unfold Addr.add at this;rwa [if_neg (by omega)] at this
   clear hr hr';have hz:ad.block<wr.heap.size:=hB;have hW0:Below wr.heap.size wr wr.drew:=Below.drew br;have hz:(ad.add j).block<wr.heap.size:=by rw [Zz];exact hB
   have hz2:ad.block<wr.heap.size:=by exact hB
   have hkeep:Hid (∀ w1 w2,(fun w'=>Below wr.heap.size wr w'∧w'.cell? (ad.add j)=some (Value.string (Z9 x))∧w'.cell? ⟨ad.block,ad.off+ (j+1),none⟩=some (Value.string (Z9 y))) w1→Below w1.heap.size w1 w2→(fun w'=>Below wr.heap.size wr w'∧w'.cell? (ad.add j)=some (Value.string (Z9 x))∧w'.cell? ⟨ad.block,ad.off+ (j+1),none⟩=some (Value.string (Z9 y))) w2):=hid (by
    intro w1 w2 ⟨h1,_⟩ h2;have h3:Below wr.heap.size wr w2:=h1.trans (h2.mono h1.size);exact⟨h3,(h3.cell (p:=(ad.add j)) hz).trans a0,ct b0 h3 hz2⟩)
   obtain⟨r,HR0⟩: ∃ r,Hid (Y3 y x=r):=⟨_,hid rfl⟩
   have hcmp:=fun W=>Oc y x W
   simp only [HR0.out] at hcmp;go_wp2_with fail;go_region_held_law (fun w'=>Below wr.heap.size wr w'∧w'.cell? (ad.add j)=some (Value.string (Z9 x))∧w'.cell? ⟨ad.block,ad.off+ (j+1),none⟩=some (Value.string (Z9 y)))
    (first | exact hkeep.out _ _ (by assumption) (by assumption) | exact⟨hW0,a0,b0⟩)
    (first | (go_at_call 107;refine(hcmp _).mono ?_;rintro e w' ⟨rfl,hb⟩;have hb:=hb.below))
   rename_i hS;have HB2:=bt HBw hS.1;clear hS;by_cases hq:r<0
   ·have HX':Hid (Uv (fun a b:(List UInt8)=> !decide (Y3 b a<0)) l=false):=hid (HN.out (by simp [HR0.out,hq]));have hq': ¬ r≥0:=by omega
    have hq2: ¬ 0≤r:=by omega
    go_wp2;go_ret;exact⟨by rw [HX'.out];rfl,HB2.out⟩
   ·have HX':=hid (HX.out (by simp [HR0.out];omega));have hq':r≥0:=by omega
    have hq2:0≤r:=by omega
    go_wp2;go_roundw
    case rel=>exact⟨j+1,by omega,by(try go_num),HX',HB2⟩
    case measure=>simp [intOf];omega
  ·have HR:Hid (Uv (fun a b:(List UInt8)=> !decide (Y3 b a<0)) l=true):=hid ((VM _ l).2 fun k hk=>HE.out k hk (by omega));have hlt': ¬ (0:Int)< (j':Int) - 1:=by omega
   have hlt2: ¬ (j':Int) - 1 > 0:=by omega
   go_wp2;go_ret;exact⟨by rw [HR.out];rfl,HBw.out⟩
theorem QD (l:List Mb)(A:Option Addr)(c:Nat)(w:World)(hA:Zg w w.heap.size A Mb.cs l)(hn:l.length≤1099511627776):
  Calls Tryz.prog 231 #[.slice A l.length c,.func (.func 153) #[] #[]] w fun e w'=>e= .returned (.bool (Uv (fun a b:Mb=> !decide (X4 b a<0)) l))∧Below w.heap.size w w':=by
 have HA:=hid hA;clear hA;go_enter Tryz.func231,Tryz.ntmps231
 go_wp2;go_loopw [5] (fun i wr=> ∃ j:Nat,j≤l.length∧i= .int .i64 ((j:Int) - 1)∧Hid (∀ k (hk:k+1<l.length),j≤k+1→(fun a b:Mb=> !decide (X4 b a<0)) l[k] l[k+1]=true)∧Hid (Below w.heap.size w wr)) (fun i _=>(intOf i+1).toNat)
 case atStart=>exact⟨l.length,Nat.le_refl _,by(try go_num),hid (fun k hk h=>by omega),hid br⟩
 case round=>
  obtain⟨j',hj,rfl,HE,HBw⟩:=hrel;by_cases hlt:1<j'
  ·obtain⟨j,rfl⟩: ∃ j,j'=j+2:=⟨j' - 2,by omega⟩
   have hb0:(((j+2:Nat):Int) - 1)=(j:Int)+1:=by omega
   rw [hb0];have hb1:(j:Int)+1< (l.length:Int):=by omega
   have hb2:(0:Int)≤(j:Int)+1:=by omega
   have hb3:((j:Int)+1).toNat=j+1:=by omega
   have hb4:(j:Int)< (l.length:Int):=by omega
   have hb5:(0:Int)< (j:Int)+1:=by omega
   have hb6:(j:Int)+1 > 0:=by omega
   have hb7:(j:Int)+1 - 1=(j:Int):=by omega
   have hwr:IntKind.i64.wrap ((j:Int)+1 - 1)=(j:Int):=by rw [hb7];simp [IntKind.wrap,IntKind.bits,IntKind.signed];omega
   have hwr2:IntKind.i64.wrap (j:Int)=(j:Int):=by simp [IntKind.wrap,IntKind.bits,IntKind.signed];omega
   have hwr3:IntKind.i64.wrap ((j:Int)+1)=(j:Int)+1:=by simp [IntKind.wrap,IntKind.bits,IntKind.signed];omega
   obtain⟨ad,rfl,hB,hr,hr'⟩:=(HA.out.later HBw.out).H8 Mb.k (j:=j) (by omega);have HX:Hid ((fun a b:Mb=> !decide (X4 b a<0)) l[j] l[j+1]=true→ ∀ k (hk:k+1<l.length),j+1≤k+1→(fun a b:Mb=> !decide (X4 b a<0)) l[k] l[k+1]=true):=hid (by
    intro h k hk hjk;rcases Nat.lt_or_ge (k+1) (j+2) with h1 | h1
    ·obtain rfl:k=j:=by omega
     exact h
    ·exact HE.out k hk h1)
   have HN:Hid ((fun a b:Mb=> !decide (X4 b a<0)) l[j] l[j+1]=false→Uv (fun a b:Mb=> !decide (X4 b a<0)) l=false):=hid (PH (fun a b:Mb=> !decide (X4 b a<0)) l j (by omega));generalize l[j]=x at HX HN hr;generalize l[j+1]=y at HX HN hr';have a0:=e0 (m:=j*2) hr;have a1:=ef (m:=j*2) hr 1;have b0:=e0 (m:=(j+1)*2) hr';have b1:=ef (m:=(j+1)*2) hr' 1;clear hr hr';have hz:ad.block<wr.heap.size:=hB;have hW0:Below wr.heap.size wr wr.drew:=Below.drew br;have hz:(ad.add (j*2)).block<wr.heap.size:=by rw [Zz];exact hB
   have hz2:(ad.add ((j+1)*2)).block<wr.heap.size:=by rw [Zz];exact hB
   have hkeep:Hid (∀ w1 w2,(fun w'=>Below wr.heap.size wr w'∧w'.cell? (ad.add (j*2))=some (Value.string (Z9 x.ZR))∧w'.cell? ⟨(ad.add (j*2)).block,(ad.add (j*2)).off+1,none⟩=some (Value.string (Z9 x.of))∧w'.cell? (ad.add ((j+1)*2))=some (Value.string (Z9 y.ZR))∧w'.cell? ⟨(ad.add ((j+1)*2)).block,(ad.add ((j+1)*2)).off+1,none⟩=some (Value.string (Z9 y.of))) w1→Below w1.heap.size w1 w2→(fun w'=>Below wr.heap.size wr w'∧w'.cell? (ad.add (j*2))=some (Value.string (Z9 x.ZR))∧w'.cell? ⟨(ad.add (j*2)).block,(ad.add (j*2)).off+1,none⟩=some (Value.string (Z9 x.of))∧w'.cell? (ad.add ((j+1)*2))=some (Value.string (Z9 y.ZR))∧w'.cell? ⟨(ad.add ((j+1)*2)).block,(ad.add ((j+1)*2)).off+1,none⟩=some (Value.string (Z9 y.of))) w2):=hid (by
    intro w1 w2 ⟨h1,_⟩ h2;have h3:Below wr.heap.size wr w2:=h1.trans (h2.mono h1.size);exact⟨h3,(h3.cell (p:=(ad.add (j*2))) hz).trans a0,ct a1 h3 hz,(h3.cell (p:=(ad.add ((j+1)*2))) hz2).trans b0,ct b1 h3 hz2⟩)
   obtain⟨r,HR0⟩: ∃ r,Hid (X4 y x=r):=⟨_,hid rfl⟩
   have hcmp:=fun W=>Tz y x W
   simp only [HR0.out] at hcmp;unfold Mb.cs at hcmp;go_wp2_with fail;go_region_held_law (fun w'=>Below wr.heap.size wr w'∧w'.cell? (ad.add (j*2))=some (Value.string (Z9 x.ZR))∧w'.cell? ⟨(ad.add (j*2)).block,(ad.add (j*2)).off+1,none⟩=some (Value.string (Z9 x.of))∧w'.cell? (ad.add ((j+1)*2))=some (Value.string (Z9 y.ZR))∧w'.cell? ⟨(ad.add ((j+1)*2)).block,(ad.add ((j+1)*2)).off+1,none⟩=some (Value.string (Z9 y.of)))
    (first | exact hkeep.out _ _ (by assumption) (by assumption) | exact⟨hW0,a0,a1,b0,b1⟩)
    (first | (go_at_call 153;refine(hcmp _).mono ?_;rintro e w' ⟨rfl,hb⟩;have hb:=hb.below))
   rename_i hS;have HB2:=bt HBw hS.1;clear hS;by_cases hq:r<0
   ·have HX':Hid (Uv (fun a b:Mb=> !decide (X4 b a<0)) l=false):=hid (HN.out (by simp [HR0.out,hq]));have hq': ¬ r≥0:=by omega
    have hq2: ¬ 0≤r:=by omega
    go_wp2;go_ret;exact⟨by rw [HX'.out];rfl,HB2.out⟩
   ·have HX':=hid (HX.out (by simp [HR0.out];omega));have hq':r≥0:=by omega
    have hq2:0≤r:=by omega
    go_wp2;go_roundw
    case rel=>exact⟨j+1,by omega,by(try go_num),HX',HB2⟩
    case measure=>simp [intOf];omega
  ·have HR:Hid (Uv (fun a b:Mb=> !decide (X4 b a<0)) l=true):=hid ((VM _ l).2 fun k hk=>HE.out k hk (by omega));have hlt': ¬ (0:Int)< (j':Int) - 1:=by omega
   have hlt2: ¬ (j':Int) - 1 > 0:=by omega
   go_wp2;go_ret;exact⟨by rw [HR.out];rfl,HBw.out⟩
def JL (base:Nat)(A:Option Addr)(n c:Nat)(ok:Bool)(w:World)(e:Ending)(w':World):Prop:=
 ∃ m:Nat,e= .returned (.slice A m c)∧decide (m=n)=ok∧m≤n∧Below base w w'
def Yp {α:Type}(w:World)(base:Nat)(T:TypeId)(k:Nat)(A:Option Addr)(n c:Nat)(enc:α→List Value):Prop:=
 ∃ l:List α,l.length=n∧w.ownsRow base T k (.slice A n c) n (l.flatMap enc)
theorem Yp.below {α:Type}{w w':World}{base:Nat}{T:TypeId}{k:Nat}{A:Option Addr}{n c:Nat}{enc:α→List Value}(h:Yp w base T k A n c enc)(hb:Below w.heap.size w w'):Yp w' base T k A n c enc:=by
 obtain⟨l,h1,h2⟩:=h;exact⟨l,h1,h2.Zu hb⟩
theorem Yp.cells {α:Type}{w:World}{base:Nat}{T:TypeId}{k g n c:Nat}{enc:α→List Value}(hk: ∀ x,(enc x).length=k)(h:Yp w base T k (some ⟨g,0,none⟩) n c enc):
  base≤g∧g<w.heap.size∧(∀ i,w.frozen? ⟨g,i,none⟩=false)∧ ∀ p,p<n→ ∃ x:α,∀ i u,(enc x)[i]?=some u→w.cell? ⟨g,p*k+i,none⟩=some u:=by
 obtain⟨l,rfl,h2⟩:=h;obtain⟨h3,h4,_,h5,h6⟩:=ZL h2;refine⟨h3,h4,h5,fun p hp=>⟨l[p],fun i u hu=>h6 _ u ?_⟩⟩
 rw [Zi hk l p i hp (by rw [←hk l[p]];exact(List.getElem?_eq_some_iff.1 hu).1)];exact hu
theorem Yp.Ij {w:World}{base:Nat}{T:TypeId}{g n c:Nat}(h:Yp w base T 1 (some ⟨g,0,none⟩) n c YT){a:Nat}(ha:a<n)(y:List UInt8):Yp (w.setCell ⟨g,a,none⟩ (.string (Z9 y))) base T 1 (some ⟨g,0,none⟩) n c YT:=by
 obtain⟨l,rfl,h2⟩:=h;refine⟨l.set a y,by simp,?_⟩
 have:=XU h2 (i:=a) (by rw [Zp YT.k];omega) (.string (Z9 y));rw [show (l.flatMap YT).set a (.string (Z9 y))=(l.set a y).flatMap YT from by have:=Yg YT.k l a 0 ha (by omega) (.string (Z9 y)) y rfl;rwa [Nat.mul_one,Nat.add_zero] at this] at this;exact this
theorem Yp.Ii {w:World}{base:Nat}{T:TypeId}{g n c:Nat}(h:Yp w base T 2 (some ⟨g,0,none⟩) n c Mb.cs){a:Nat}(ha:a<n)(y:Mb):
  Yp ((w.setCell ⟨g,a*2,none⟩ (.string (Z9 y.ZR))).setCell ⟨g,a*2+1,none⟩ (.string (Z9 y.of))) base T 2 (some ⟨g,0,none⟩) n c Mb.cs:=by
 obtain⟨l,rfl,h2⟩:=h;refine⟨(l.set a ⟨y.ZR,l[a].of⟩).set a y,by simp,?_⟩
 have e1:=Yg Mb.k l a 0 ha (by omega) (.string (Z9 y.ZR)) ⟨y.ZR,l[a].of⟩ rfl;have e2:=Yg Mb.k (l.set a ⟨y.ZR,l[a].of⟩) a 1 (by simpa using ha) (by omega) (.string (Z9 y.of)) y (by rw [List.getElem_set_self];rfl)
 rw [Nat.add_zero] at e1;have h3:=XU h2 (i:=a*2) (by rw [Zp Mb.k];omega) (.string (Z9 y.ZR))
 rw [e1] at h3;have h4:=XU h3 (i:=a*2+1) (by rw [Zp Mb.k,List.length_set];omega) (.string (Z9 y.of))
 rw [e2] at h4;exact h4
theorem OQ (base:Nat)(lb:Array Value)(l:List (List UInt8))(A:Option Addr)(c:Nat)(w:World)(h:w.ownsRow base 9 1 (.slice A l.length c) l.length (l.flatMap YT))(hl:l.length≤1099511627776)
  (heq: ∀ (W:World) (a b:(List UInt8)),Below base w W→Calls Tryz.prog 230 (#[.string (Z9 a),.string (Z9 b)] ++lb) W fun e w'=>e= .returned (.bool (decide (Y3 a b=0)))∧Below W.heap.size W w'):
  Calls Tryz.prog 229 #[.slice A l.length c,.func (.func 230) #[] lb] w (JL base A l.length c (Uv (fun a b:(List UInt8)=> !decide (Y3 b a=0)) l) w):=by
 have HEq:=hid heq;have HO:=hid h;clear h heq;go_enter Tryz.func229,Tryz.ntmps229
 by_cases h2:l.length<2
 ·have h2':(l.length:Int)<2:=by omega
  go_wp2;go_ret;exact⟨l.length,rfl,by rw [(VM (fun a b:(List UInt8)=> !decide (Y3 b a=0)) l).2 fun k hk=>by omega];simp,Nat.le_refl _,Below.refl _ _⟩
 have h2': ¬ (l.length:Int)<2:=by omega
 obtain⟨g,rfl⟩: ∃ g,A=some ⟨g,0,none⟩:=by
  obtain⟨g,cap,hv,_,_⟩:=HO.out.form (by omega);exact⟨g,by injection hv⟩
 obtain⟨hc1,hc2⟩:=YQ HO.out;obtain⟨hgb,hgl,hgt,hfz,hcell⟩:=ZL HO.out;have HGT:=hid hgt;have HCL:=hid hcell;clear hgt hfz hcell;go_wp2;go_loopw [5] (fun i wr=> ∃ j:Nat,j+1≤l.length∧i= .int .i64 ((j:Int)+1)∧Hid (∀ k (hk:k+1<l.length),k<j→(fun a b:(List UInt8)=> !decide (Y3 b a=0)) l[k] l[k+1]=true)∧Hid (Below w.heap.size w wr)) (fun i _=>l.length - (intOf i).toNat)
 case atStart=>exact⟨0,by omega,rfl,hid (fun k hk h=>by omega),hid br⟩
 case round=>
  obtain⟨j,hj,rfl,HE,HBw⟩:=hrel;by_cases hlt:j+1<l.length
  ·have hb1:(j:Int)+1< (l.length:Int):=by omega
   have hb2:(0:Int)≤(j:Int)+1:=by omega
   have hb3:((j:Int)+1).toNat=j+1:=by omega
   have hb4:(j:Int)< (l.length:Int):=by omega
   have hb7:(j:Int)+1 - 1=(j:Int):=by omega
   have hwr:IntKind.i64.wrap ((j:Int)+1 - 1)=(j:Int):=by rw [hb7];simp [IntKind.wrap,IntKind.bits,IntKind.signed];omega
   have hwr2:IntKind.i64.wrap (j:Int)=(j:Int):=by simp [IntKind.wrap,IntKind.bits,IntKind.signed];omega
   have hwr3:IntKind.i64.wrap ((j:Int)+1)=(j:Int)+1:=by simp [IntKind.wrap,IntKind.bits,IntKind.signed];omega
   have hz:g<wr.heap.size:=Nat.lt_of_lt_of_le hgl HBw.out.size;have hr: ∀ i u,(YT l[j])[i]?=some u→wr.cell? ⟨g,j*1+i,none⟩=some u:=fun i u hu=>(HBw.out.cell (p:=⟨g,j*1+i,none⟩) hgl).trans (HCL.out _ u (by rw [Zi YT.k l j i (by omega) (by rw [←YT.k l[j]];exact(List.getElem?_eq_some_iff.1 hu).1)];exact hu))
   have hr': ∀ i u,(YT l[j+1])[i]?=some u→wr.cell? ⟨g,(j+1)*1+i,none⟩=some u:=fun i u hu=>(HBw.out.cell (p:=⟨g,(j+1)*1+i,none⟩) hgl).trans (HCL.out _ u (by rw [Zi YT.k l (j+1) i hlt (by rw [←YT.k l[j+1]];exact(List.getElem?_eq_some_iff.1 hu).1)];exact hu))
   have HX:Hid ((fun a b:(List UInt8)=> !decide (Y3 b a=0)) l[j] l[j+1]=true→ ∀ k (hk:k+1<l.length),k<j+1→(fun a b:(List UInt8)=> !decide (Y3 b a=0)) l[k] l[k+1]=true):=hid (by
    intro h k hk hjk;rcases Nat.lt_or_ge k j with h1 | h1
    ·exact HE.out k hk h1
    ·obtain rfl:k=j:=by omega
     exact h)
   have HN:Hid ((fun a b:(List UInt8)=> !decide (Y3 b a=0)) l[j] l[j+1]=false→Uv (fun a b:(List UInt8)=> !decide (Y3 b a=0)) l=false):=hid (PH (fun a b:(List UInt8)=> !decide (Y3 b a=0)) l j (by omega));generalize l[j]=x at HX HN hr;generalize l[j+1]=y at HX HN hr';have a0:wr.cell? ⟨g,j,none⟩=some (Value.string (Z9 x)):=by have:=hr 0 _ rfl;rwa [Nat.add_zero,Nat.mul_one] at this
   have b0:wr.cell? ⟨g,j+1,none⟩=some (Value.string (Z9 y)):=by have:=hr' 0 _ rfl;rwa [Nat.add_zero,Nat.mul_one] at this
   clear hr hr';obtain⟨r,HR0⟩: ∃ r,Hid (decide (Y3 y x=0)=r):=⟨_,hid rfl⟩
   have HBb:Hid (Below base w wr):=hid (HBw.out.mono (by omega));have hW0:Below wr.heap.size wr wr.drew:=Below.drew br;have hkeep:Hid (∀ w1 w2,(fun w'=>Below wr.heap.size wr w'∧w'.cell? ⟨g,j,none⟩=some (Value.string (Z9 x))∧w'.cell? ⟨g,j+1,none⟩=some (Value.string (Z9 y))) w1→Below w1.heap.size w1 w2→(fun w'=>Below wr.heap.size wr w'∧w'.cell? ⟨g,j,none⟩=some (Value.string (Z9 x))∧w'.cell? ⟨g,j+1,none⟩=some (Value.string (Z9 y))) w2):=hid (by
    intro w1 w2 ⟨h1,_⟩ h2;have h3:Below wr.heap.size wr w2:=h1.trans (h2.mono h1.size);exact⟨h3,ct a0 h3 hz,ct b0 h3 hz⟩)
   have HCall:Hid (∀ W,(fun w'=>Below wr.heap.size wr w'∧w'.cell? ⟨g,j,none⟩=some (Value.string (Z9 x))∧w'.cell? ⟨g,j+1,none⟩=some (Value.string (Z9 y))) W→Calls Tryz.prog 230 (#[.string (Z9 y),.string (Z9 x)] ++lb) W fun e w'=>e= .returned (.bool r)∧Below W.heap.size W w'):=hid (by
    intro W hW;rw [←HR0.out];exact HEq.out W y x (HBb.out.trans (hW.1.mono (by omega))))
   go_wp2_with fail;go_region_held_law (fun w'=>Below wr.heap.size wr w'∧w'.cell? ⟨g,j,none⟩=some (Value.string (Z9 x))∧w'.cell? ⟨g,j+1,none⟩=some (Value.string (Z9 y)))
    (first | exact hkeep.out _ _ (by assumption) (by assumption) | exact⟨hW0,a0,b0⟩)
    (first | (go_at_call 230;refine(HCall.out _ (by assumption)).mono ?_;rintro e w' ⟨rfl,hb⟩))
   rename_i hS;have HB2:=bt HBw hS.1;clear hS
   cases r
   ·have HX':=hid (HX.out (by show (!decide (Y3 y x=0))=true;rw [HR0.out];rfl));go_wp2;go_roundw
    case rel=>exact⟨j+1,by omega,by(try go_num),HX',HB2⟩
    case measure=>simp [intOf];omega
   ·have HX':Hid (Uv (fun a b:(List UInt8)=> !decide (Y3 b a=0)) l=false):=hid (HN.out (by show (!decide (Y3 y x=0))=false;rw [HR0.out];rfl));have HO2:Hid (Yp w' base 9 1 (some ⟨g,0,none⟩) l.length c YT):=hid ⟨l,rfl,HO.out.Zu HB2.out⟩;have HB3:Hid (Below base w w'):=hid (HB2.out.mono (by omega));clear HE HX HN HR0 HCL hkeep HCall HBb hW0 hb7 hwr a0 b0;have d1:(l.length:Int)≤(c:Int):=by omega
    have d2:(j:Int)+1≤(l.length:Int):=by omega
    have d3:(j:Int)+1≤(c:Int):=by omega
    have d4:((l.length:Int) - ((j:Int)+1)).toNat=l.length - (j+1):=by omega
    have d5:((c:Int) - ((j:Int)+1)).toNat=c - (j+1):=by omega
    go_wp2;go_loopw [5,7] (fun kk i wr=> ∃ a b:Nat,a≤j+1+b∧j+1+ (b+1)≤l.length∧kk= .int .i64 a∧i= .int .i64 ((b:Int)+1)∧Hid (Yp wr base 9 1 (some ⟨g,0,none⟩) l.length c YT)∧Hid (Below base w wr)) (fun _ i _=>l.length - (intOf i).toNat)
    case atStart=>exact⟨j+1,0,by omega,by omega,by(try go_num),rfl,HO2,HB3⟩
    case round=>
     clear HO2 HB3 HB2 HBw hb hz;obtain⟨a,b,hab,hbn,rfl,rfl,HO4,HB4⟩:=hrel;obtain⟨_,hg4,hfz4,hc4⟩:=HO4.out.cells YT.k;by_cases hlt4:j+1+ (b+1)<l.length
     ·have e1:(b:Int)+1< ((l.length - (j+1):Nat):Int):=by omega
      have e2:(0:Int)≤(b:Int)+1:=by omega
      have e3:((b:Int)+1).toNat=b+1:=by omega
      have e4:(b:Int)< ((l.length - (j+1):Nat):Int):=by omega
      have e5:(b:Int)+1 - 1=(b:Int):=by omega
      have hwq:IntKind.i64.wrap ((b:Int)+1 - 1)=(b:Int):=by rw [e5];simp [IntKind.wrap,IntKind.bits,IntKind.signed];omega
      have hwq2:IntKind.i64.wrap (b:Int)=(b:Int):=by simp [IntKind.wrap,IntKind.bits,IntKind.signed];omega
      have hwq3:IntKind.i64.wrap ((b:Int)+1)=(b:Int)+1:=by simp [IntKind.wrap,IntKind.bits,IntKind.signed];omega
      have hwq4:IntKind.i64.wrap ((a:Int)+1)=(a:Int)+1:=by simp [IntKind.wrap,IntKind.bits,IntKind.signed];omega
      have e6:(a:Int)< (l.length:Int):=by omega
      obtain⟨x,hr⟩:=hc4 (j+1+b) (by omega);obtain⟨y,hr'⟩:=hc4 (j+1+ (b+1)) hlt4;have a0:wr.cell? ⟨g,j+1+b,none⟩=some (Value.string (Z9 x)):=by have:=hr 0 _ rfl;rwa [Nat.add_zero,Nat.mul_one] at this
      have b0:wr.cell? ⟨g,j+1+ (b+1),none⟩=some (Value.string (Z9 y)):=by have:=hr' 0 _ rfl;rwa [Nat.add_zero,Nat.mul_one] at this
      clear hr hr' hc4;obtain⟨r,HR0⟩: ∃ r,Hid (decide (Y3 y x=0)=r):=⟨_,hid rfl⟩
      have HBb:=HB4;have hz:g<wr.heap.size:=hg4;have hW0:Below wr.heap.size wr wr.drew:=Below.drew br;have hkeep:Hid (∀ w1 w2,(fun w'=>Below wr.heap.size wr w'∧w'.cell? ⟨g,j+1+b,none⟩=some (Value.string (Z9 x))∧w'.cell? ⟨g,j+1+ (b+1),none⟩=some (Value.string (Z9 y))) w1→Below w1.heap.size w1 w2→(fun w'=>Below wr.heap.size wr w'∧w'.cell? ⟨g,j+1+b,none⟩=some (Value.string (Z9 x))∧w'.cell? ⟨g,j+1+ (b+1),none⟩=some (Value.string (Z9 y))) w2):=hid (by
       intro w1 w2 ⟨h1,_⟩ h2;have h3:Below wr.heap.size wr w2:=h1.trans (h2.mono h1.size);exact⟨h3,ct a0 h3 hz,ct b0 h3 hz⟩)
      have HCall:Hid (∀ W,(fun w'=>Below wr.heap.size wr w'∧w'.cell? ⟨g,j+1+b,none⟩=some (Value.string (Z9 x))∧w'.cell? ⟨g,j+1+ (b+1),none⟩=some (Value.string (Z9 y))) W→Calls Tryz.prog 230 (#[.string (Z9 y),.string (Z9 x)] ++lb) W fun e w'=>e= .returned (.bool r)∧Below W.heap.size W w'):=hid (by
       intro W hW;rw [←HR0.out];exact HEq.out W y x (HBb.out.trans (hW.1.mono (by omega))))
      go_wp2_with fail;go_region_held_law (fun w'=>Below wr.heap.size wr w'∧w'.cell? ⟨g,j+1+b,none⟩=some (Value.string (Z9 x))∧w'.cell? ⟨g,j+1+ (b+1),none⟩=some (Value.string (Z9 y)))
       (first | exact hkeep.out _ _ (by assumption) (by assumption) | exact⟨hW0,a0,b0⟩)
       (first | (go_at_call 230;refine(HCall.out _ (by assumption)).mono ?_;rintro e w' ⟨rfl,hb⟩))
      rename_i hS;obtain⟨hS1,hS2⟩:=hS;have HO5:Hid (Yp w' base 9 1 (some ⟨g,0,none⟩) l.length c YT):=hid (HO4.out.below hS1);have HB5:Hid (Below base w w'):=hid (HB4.out.trans (hS1.mono (by omega)));obtain⟨_,hg5,hfz5,hc5⟩:=HO5.out.cells YT.k;obtain⟨z,hz5⟩:=hc5 a (by omega);have c0:w'.cell? ⟨g,a,none⟩=some (Value.string (Z9 z)):=by have:=hz5 0 _ rfl;rwa [Nat.add_zero,Nat.mul_one] at this
      have b0':w'.cell? ⟨g,j+1+ (b+1),none⟩=some (Value.string (Z9 y)):=hS2.2;have g0:=hfz5 a;clear hS1 hS2 hkeep HCall hW0 hc5 hz5
      cases r
      ·go_wp2;go_roundw
       case rel=>exact⟨a+1,b+1,by omega,by omega,by(try go_num),by(try go_num),hid (HO5.out.Ij (by omega) y),hid (HB5.out.setCell (by exact hgb) _)⟩
       case measure=>simp [intOf];omega
      ·go_wp2;go_roundw
       case rel=>exact⟨a,b+1,by omega,by omega,rfl,by(try go_num),HO5,HB5⟩
       case measure=>simp [intOf];omega
     ·obtain⟨Z,hZl,hclr⟩:=Zd wr 27 9 0 (.string ⟨#[]⟩) Tryz.underlying27 (fun w=>by kernel_rfl) rfl (by decide) (by simp [Value.cells,Value.oneCell']) (size:=1) g (a) (l.length - a) (c - a) (by omega) (by
       obtain⟨l2,h1,h2⟩:=HO4.out;exact Zf h2 _ _ (by omega))
      have e1: ¬ (b:Int)+1< ((l.length - (j+1):Nat):Int):=by omega
      have f1:(a:Int)≤(l.length:Int):=by omega
      have f2:(a:Int)≤(c:Int):=by omega
      have f3:((l.length:Int) - (a:Int)).toNat=l.length - a:=by omega
      have f4:((c:Int) - (a:Int)).toNat=c - a:=by omega
      go_wp2_with fail;go_ret;exact⟨a,rfl,by rw [HX'.out];simp;omega,by omega,HB4.out.trans (ZJ hgb _ _)⟩
  ·have HR:Hid (Uv (fun a b:(List UInt8)=> !decide (Y3 b a=0)) l=true):=hid ((VM (fun a b:(List UInt8)=> !decide (Y3 b a=0)) l).2 fun k hk=>HE.out k hk (by omega));have hlt': ¬ (j:Int)+1< (l.length:Int):=by omega
   go_wp2;go_ret;exact⟨l.length,rfl,by rw [HR.out];simp,Nat.le_refl _,HBw.out.mono (by omega)⟩
theorem Sa (base:Nat)(lb:Array Value)(l:List Mb)(A:Option Addr)(c:Nat)(w:World)(h:w.ownsRow base 147 2 (.slice A l.length c) l.length (l.flatMap Mb.cs))(hl:l.length≤1099511627776)
  (heq: ∀ (W:World) (a b:Mb),Below base w W→Calls Tryz.prog 233 (#[.agg (a.cs).toArray,.agg (b.cs).toArray] ++lb) W fun e w'=>e= .returned (.bool (decide (X4 a b=0)))∧Below W.heap.size W w'):
  Calls Tryz.prog 232 #[.slice A l.length c,.func (.func 233) #[] lb] w (JL base A l.length c (Uv (fun a b:Mb=> !decide (X4 b a=0)) l) w):=by
 have HEq:=hid heq;have HO:=hid h;clear h heq;go_enter Tryz.func232,Tryz.ntmps232
 by_cases h2:l.length<2
 ·have h2':(l.length:Int)<2:=by omega
  go_wp2;go_ret;exact⟨l.length,rfl,by rw [(VM (fun a b:Mb=> !decide (X4 b a=0)) l).2 fun k hk=>by omega];simp,Nat.le_refl _,Below.refl _ _⟩
 have h2': ¬ (l.length:Int)<2:=by omega
 obtain⟨g,rfl⟩: ∃ g,A=some ⟨g,0,none⟩:=by
  obtain⟨g,cap,hv,_,_⟩:=HO.out.form (by omega);exact⟨g,by injection hv⟩
 obtain⟨hc1,hc2⟩:=YQ HO.out;obtain⟨hgb,hgl,hgt,hfz,hcell⟩:=ZL HO.out;have HGT:=hid hgt;have HCL:=hid hcell;clear hgt hfz hcell;go_wp2;go_loopw [5] (fun i wr=> ∃ j:Nat,j+1≤l.length∧i= .int .i64 ((j:Int)+1)∧Hid (∀ k (hk:k+1<l.length),k<j→(fun a b:Mb=> !decide (X4 b a=0)) l[k] l[k+1]=true)∧Hid (Below w.heap.size w wr)) (fun i _=>l.length - (intOf i).toNat)
 case atStart=>exact⟨0,by omega,rfl,hid (fun k hk h=>by omega),hid br⟩
 case round=>
  obtain⟨j,hj,rfl,HE,HBw⟩:=hrel;by_cases hlt:j+1<l.length
  ·have hb1:(j:Int)+1< (l.length:Int):=by omega
   have hb2:(0:Int)≤(j:Int)+1:=by omega
   have hb3:((j:Int)+1).toNat=j+1:=by omega
   have hb4:(j:Int)< (l.length:Int):=by omega
   have hb7:(j:Int)+1 - 1=(j:Int):=by omega
   have hwr:IntKind.i64.wrap ((j:Int)+1 - 1)=(j:Int):=by rw [hb7];simp [IntKind.wrap,IntKind.bits,IntKind.signed];omega
   have hwr2:IntKind.i64.wrap (j:Int)=(j:Int):=by simp [IntKind.wrap,IntKind.bits,IntKind.signed];omega
   have hwr3:IntKind.i64.wrap ((j:Int)+1)=(j:Int)+1:=by simp [IntKind.wrap,IntKind.bits,IntKind.signed];omega
   have hz:g<wr.heap.size:=Nat.lt_of_lt_of_le hgl HBw.out.size;have hr: ∀ i u,(Mb.cs l[j])[i]?=some u→wr.cell? ⟨g,j*2+i,none⟩=some u:=fun i u hu=>(HBw.out.cell (p:=⟨g,j*2+i,none⟩) hgl).trans (HCL.out _ u (by rw [Zi Mb.k l j i (by omega) (by rw [←Mb.k l[j]];exact(List.getElem?_eq_some_iff.1 hu).1)];exact hu))
   have hr': ∀ i u,(Mb.cs l[j+1])[i]?=some u→wr.cell? ⟨g,(j+1)*2+i,none⟩=some u:=fun i u hu=>(HBw.out.cell (p:=⟨g,(j+1)*2+i,none⟩) hgl).trans (HCL.out _ u (by rw [Zi Mb.k l (j+1) i hlt (by rw [←Mb.k l[j+1]];exact(List.getElem?_eq_some_iff.1 hu).1)];exact hu))
   have HX:Hid ((fun a b:Mb=> !decide (X4 b a=0)) l[j] l[j+1]=true→ ∀ k (hk:k+1<l.length),k<j+1→(fun a b:Mb=> !decide (X4 b a=0)) l[k] l[k+1]=true):=hid (by
    intro h k hk hjk;rcases Nat.lt_or_ge k j with h1 | h1
    ·exact HE.out k hk h1
    ·obtain rfl:k=j:=by omega
     exact h)
   have HN:Hid ((fun a b:Mb=> !decide (X4 b a=0)) l[j] l[j+1]=false→Uv (fun a b:Mb=> !decide (X4 b a=0)) l=false):=hid (PH (fun a b:Mb=> !decide (X4 b a=0)) l j (by omega));generalize l[j]=x at HX HN hr;generalize l[j+1]=y at HX HN hr';have a0:wr.cell? ⟨g,j*2,none⟩=some (Value.string (Z9 x.ZR)):=by have:=hr 0 _ rfl;rwa [Nat.add_zero] at this
   have a1:wr.cell? ⟨g,j*2+1,none⟩=some (Value.string (Z9 x.of)):=hr 1 _ rfl;have b0:wr.cell? ⟨g,(j+1)*2,none⟩=some (Value.string (Z9 y.ZR)):=by have:=hr' 0 _ rfl;rwa [Nat.add_zero] at this
   have b1:wr.cell? ⟨g,(j+1)*2+1,none⟩=some (Value.string (Z9 y.of)):=hr' 1 _ rfl;clear hr hr';obtain⟨r,HR0⟩: ∃ r,Hid (decide (X4 y x=0)=r):=⟨_,hid rfl⟩
   have HBb:Hid (Below base w wr):=hid (HBw.out.mono (by omega));have hW0:Below wr.heap.size wr wr.drew:=Below.drew br;have hkeep:Hid (∀ w1 w2,(fun w'=>Below wr.heap.size wr w'∧w'.cell? ⟨g,j*2,none⟩=some (Value.string (Z9 x.ZR))∧w'.cell? ⟨g,j*2+1,none⟩=some (Value.string (Z9 x.of))∧w'.cell? ⟨g,(j+1)*2,none⟩=some (Value.string (Z9 y.ZR))∧w'.cell? ⟨g,(j+1)*2+1,none⟩=some (Value.string (Z9 y.of))) w1→Below w1.heap.size w1 w2→(fun w'=>Below wr.heap.size wr w'∧w'.cell? ⟨g,j*2,none⟩=some (Value.string (Z9 x.ZR))∧w'.cell? ⟨g,j*2+1,none⟩=some (Value.string (Z9 x.of))∧w'.cell? ⟨g,(j+1)*2,none⟩=some (Value.string (Z9 y.ZR))∧w'.cell? ⟨g,(j+1)*2+1,none⟩=some (Value.string (Z9 y.of))) w2):=hid (by
    intro w1 w2 ⟨h1,_⟩ h2;have h3:Below wr.heap.size wr w2:=h1.trans (h2.mono h1.size);exact⟨h3,ct a0 h3 hz,ct a1 h3 hz,ct b0 h3 hz,ct b1 h3 hz⟩)
   have HCall:Hid (∀ W,(fun w'=>Below wr.heap.size wr w'∧w'.cell? ⟨g,j*2,none⟩=some (Value.string (Z9 x.ZR))∧w'.cell? ⟨g,j*2+1,none⟩=some (Value.string (Z9 x.of))∧w'.cell? ⟨g,(j+1)*2,none⟩=some (Value.string (Z9 y.ZR))∧w'.cell? ⟨g,(j+1)*2+1,none⟩=some (Value.string (Z9 y.of))) W→Calls Tryz.prog 233 (#[.agg #[.string (Z9 y.ZR),.string (Z9 y.of)],.agg #[.string (Z9 x.ZR),.string (Z9 x.of)]] ++lb) W fun e w'=>e= .returned (.bool r)∧Below W.heap.size W w'):=hid (by
    intro W hW;rw [←HR0.out];exact HEq.out W y x (HBb.out.trans (hW.1.mono (by omega))))
   go_wp2_with fail;go_region_held_law (fun w'=>Below wr.heap.size wr w'∧w'.cell? ⟨g,j*2,none⟩=some (Value.string (Z9 x.ZR))∧w'.cell? ⟨g,j*2+1,none⟩=some (Value.string (Z9 x.of))∧w'.cell? ⟨g,(j+1)*2,none⟩=some (Value.string (Z9 y.ZR))∧w'.cell? ⟨g,(j+1)*2+1,none⟩=some (Value.string (Z9 y.of)))
    (first | exact hkeep.out _ _ (by assumption) (by assumption) | exact⟨hW0,a0,a1,b0,b1⟩)
    (first | (go_at_call 233;refine(HCall.out _ (by assumption)).mono ?_;rintro e w' ⟨rfl,hb⟩))
   rename_i hS;have HB2:=bt HBw hS.1;clear hS
   cases r
   ·have HX':=hid (HX.out (by show (!decide (X4 y x=0))=true;rw [HR0.out];rfl));go_wp2;go_roundw
    case rel=>exact⟨j+1,by omega,by(try go_num),HX',HB2⟩
    case measure=>simp [intOf];omega
   ·have HX':Hid (Uv (fun a b:Mb=> !decide (X4 b a=0)) l=false):=hid (HN.out (by show (!decide (X4 y x=0))=false;rw [HR0.out];rfl));have HO2:Hid (Yp w' base 147 2 (some ⟨g,0,none⟩) l.length c Mb.cs):=hid ⟨l,rfl,HO.out.Zu HB2.out⟩;have HB3:Hid (Below base w w'):=hid (HB2.out.mono (by omega));clear HE HX HN HR0 HCL hkeep HCall HBb hW0 hb7 hwr a0 a1 b0 b1;have d1:(l.length:Int)≤(c:Int):=by omega
    have d2:(j:Int)+1≤(l.length:Int):=by omega
    have d3:(j:Int)+1≤(c:Int):=by omega
    have d4:((l.length:Int) - ((j:Int)+1)).toNat=l.length - (j+1):=by omega
    have d5:((c:Int) - ((j:Int)+1)).toNat=c - (j+1):=by omega
    go_wp2;go_loopw [5,7] (fun kk i wr=> ∃ a b:Nat,a≤j+1+b∧j+1+ (b+1)≤l.length∧kk= .int .i64 a∧i= .int .i64 ((b:Int)+1)∧Hid (Yp wr base 147 2 (some ⟨g,0,none⟩) l.length c Mb.cs)∧Hid (Below base w wr)) (fun _ i _=>l.length - (intOf i).toNat)
    case atStart=>exact⟨j+1,0,by omega,by omega,by(try go_num),rfl,HO2,HB3⟩
    case round=>
     clear HO2 HB3 HB2 HBw hb hz;obtain⟨a,b,hab,hbn,rfl,rfl,HO4,HB4⟩:=hrel;obtain⟨_,hg4,hfz4,hc4⟩:=HO4.out.cells Mb.k;by_cases hlt4:j+1+ (b+1)<l.length
     ·have e1:(b:Int)+1< ((l.length - (j+1):Nat):Int):=by omega
      have e2:(0:Int)≤(b:Int)+1:=by omega
      have e3:((b:Int)+1).toNat=b+1:=by omega
      have e4:(b:Int)< ((l.length - (j+1):Nat):Int):=by omega
      have e5:(b:Int)+1 - 1=(b:Int):=by omega
      have hwq:IntKind.i64.wrap ((b:Int)+1 - 1)=(b:Int):=by rw [e5];simp [IntKind.wrap,IntKind.bits,IntKind.signed];omega
      have hwq2:IntKind.i64.wrap (b:Int)=(b:Int):=by simp [IntKind.wrap,IntKind.bits,IntKind.signed];omega
      have hwq3:IntKind.i64.wrap ((b:Int)+1)=(b:Int)+1:=by simp [IntKind.wrap,IntKind.bits,IntKind.signed];omega
      have hwq4:IntKind.i64.wrap ((a:Int)+1)=(a:Int)+1:=by simp [IntKind.wrap,IntKind.bits,IntKind.signed];omega
      have e6:(a:Int)< (l.length:Int):=by omega
      obtain⟨x,hr⟩:=hc4 (j+1+b) (by omega);obtain⟨y,hr'⟩:=hc4 (j+1+ (b+1)) hlt4;have a0:wr.cell? ⟨g,(j+1)*2+b*2,none⟩=some (Value.string (Z9 x.ZR)):=by have:=hr 0 _ rfl;rwa [Nat.add_zero,Nat.add_mul] at this
      have a1:wr.cell? ⟨g,(j+1)*2+b*2+1,none⟩=some (Value.string (Z9 x.of)):=by have:=hr 1 _ rfl;rwa [Nat.add_mul] at this
      have b0:wr.cell? ⟨g,(j+1)*2+ (b+1)*2,none⟩=some (Value.string (Z9 y.ZR)):=by have:=hr' 0 _ rfl;rwa [Nat.add_zero,Nat.add_mul] at this
      have b1:wr.cell? ⟨g,(j+1)*2+ (b+1)*2+1,none⟩=some (Value.string (Z9 y.of)):=by have:=hr' 1 _ rfl;rwa [Nat.add_mul] at this
      clear hr hr' hc4;obtain⟨r,HR0⟩: ∃ r,Hid (decide (X4 y x=0)=r):=⟨_,hid rfl⟩
      have HBb:=HB4;have hz:g<wr.heap.size:=hg4;have hW0:Below wr.heap.size wr wr.drew:=Below.drew br;have hkeep:Hid (∀ w1 w2,(fun w'=>Below wr.heap.size wr w'∧w'.cell? ⟨g,(j+1)*2+b*2,none⟩=some (Value.string (Z9 x.ZR))∧w'.cell? ⟨g,(j+1)*2+b*2+1,none⟩=some (Value.string (Z9 x.of))∧w'.cell? ⟨g,(j+1)*2+ (b+1)*2,none⟩=some (Value.string (Z9 y.ZR))∧w'.cell? ⟨g,(j+1)*2+ (b+1)*2+1,none⟩=some (Value.string (Z9 y.of))) w1→Below w1.heap.size w1 w2→(fun w'=>Below wr.heap.size wr w'∧w'.cell? ⟨g,(j+1)*2+b*2,none⟩=some (Value.string (Z9 x.ZR))∧w'.cell? ⟨g,(j+1)*2+b*2+1,none⟩=some (Value.string (Z9 x.of))∧w'.cell? ⟨g,(j+1)*2+ (b+1)*2,none⟩=some (Value.string (Z9 y.ZR))∧w'.cell? ⟨g,(j+1)*2+ (b+1)*2+1,none⟩=some (Value.string (Z9 y.of))) w2):=hid (by
       intro w1 w2 ⟨h1,_⟩ h2;have h3:Below wr.heap.size wr w2:=h1.trans (h2.mono h1.size);exact⟨h3,ct a0 h3 hz,ct a1 h3 hz,ct b0 h3 hz,ct b1 h3 hz⟩)
      have HCall:Hid (∀ W,(fun w'=>Below wr.heap.size wr w'∧w'.cell? ⟨g,(j+1)*2+b*2,none⟩=some (Value.string (Z9 x.ZR))∧w'.cell? ⟨g,(j+1)*2+b*2+1,none⟩=some (Value.string (Z9 x.of))∧w'.cell? ⟨g,(j+1)*2+ (b+1)*2,none⟩=some (Value.string (Z9 y.ZR))∧w'.cell? ⟨g,(j+1)*2+ (b+1)*2+1,none⟩=some (Value.string (Z9 y.of))) W→Calls Tryz.prog 233 (#[.agg #[.string (Z9 y.ZR),.string (Z9 y.of)],.agg #[.string (Z9 x.ZR),.string (Z9 x.of)]] ++lb) W fun e w'=>e= .returned (.bool r)∧Below W.heap.size W w'):=hid (by
       intro W hW;rw [←HR0.out];exact HEq.out W y x (HBb.out.trans (hW.1.mono (by omega))))
      go_wp2_with fail;go_region_held_law (fun w'=>Below wr.heap.size wr w'∧w'.cell? ⟨g,(j+1)*2+b*2,none⟩=some (Value.string (Z9 x.ZR))∧w'.cell? ⟨g,(j+1)*2+b*2+1,none⟩=some (Value.string (Z9 x.of))∧w'.cell? ⟨g,(j+1)*2+ (b+1)*2,none⟩=some (Value.string (Z9 y.ZR))∧w'.cell? ⟨g,(j+1)*2+ (b+1)*2+1,none⟩=some (Value.string (Z9 y.of)))
       (first | exact hkeep.out _ _ (by assumption) (by assumption) | exact⟨hW0,a0,a1,b0,b1⟩)
       (first | (go_at_call 233;refine(HCall.out _ (by assumption)).mono ?_;rintro e w' ⟨rfl,hb⟩))
      rename_i hS;obtain⟨hS1,hS2⟩:=hS;have HO5:Hid (Yp w' base 147 2 (some ⟨g,0,none⟩) l.length c Mb.cs):=hid (HO4.out.below hS1);have HB5:Hid (Below base w w'):=hid (HB4.out.trans (hS1.mono (by omega)));obtain⟨_,hg5,hfz5,hc5⟩:=HO5.out.cells Mb.k;obtain⟨z,hz5⟩:=hc5 a (by omega);have c0:w'.cell? ⟨g,a*2,none⟩=some (Value.string (Z9 z.ZR)):=by have:=hz5 0 _ rfl;rwa [Nat.add_zero] at this
      have c1:w'.cell? ⟨g,a*2+1,none⟩=some (Value.string (Z9 z.of)):=hz5 1 _ rfl;have b0':w'.cell? ⟨g,(j+1)*2+ (b+1)*2,none⟩=some (Value.string (Z9 y.ZR)):=hS2.2.2.1;have b1':w'.cell? ⟨g,(j+1)*2+ (b+1)*2+1,none⟩=some (Value.string (Z9 y.of)):=hS2.2.2.2;have g0:=hfz5 (a*2);have g1:=hfz5 (a*2+1);clear hS1 hS2 hkeep HCall hW0 hc5 hz5
      cases r
      ·go_wp2;go_roundw
       case rel=>exact⟨a+1,b+1,by omega,by omega,by(try go_num),by(try go_num),hid (HO5.out.Ii (by omega) y),hid ((HB5.out.setCell (by exact hgb) _).setCell (by exact hgb) _)⟩
       case measure=>simp [intOf];omega
      ·go_wp2;go_roundw
       case rel=>exact⟨a,b+1,by omega,by omega,rfl,by(try go_num),HO5,HB5⟩
       case measure=>simp [intOf];omega
     ·obtain⟨Z,hZl,hclr⟩:=Zd wr 28 147 0 (.agg #[.string ⟨#[]⟩,.string ⟨#[]⟩]) Tryz.underlying28 (fun w=>by kernel_rfl) rfl (by decide) (by simp [Value.cells,Value.oneCell']) (size:=2) g (a*2) (l.length - a) (c - a) (by omega) (by
       obtain⟨l2,h1,h2⟩:=HO4.out;exact Zf h2 _ _ (by omega))
      have e1: ¬ (b:Int)+1< ((l.length - (j+1):Nat):Int):=by omega
      have f1:(a:Int)≤(l.length:Int):=by omega
      have f2:(a:Int)≤(c:Int):=by omega
      have f3:((l.length:Int) - (a:Int)).toNat=l.length - a:=by omega
      have f4:((c:Int) - (a:Int)).toNat=c - a:=by omega
      go_wp2_with fail;go_ret;exact⟨a,rfl,by rw [HX'.out];simp;omega,by omega,HB4.out.trans (ZJ hgb _ _)⟩
  ·have HR:Hid (Uv (fun a b:Mb=> !decide (X4 b a=0)) l=true):=hid ((VM (fun a b:Mb=> !decide (X4 b a=0)) l).2 fun k hk=>HE.out k hk (by omega));have hlt': ¬ (j:Int)+1< (l.length:Int):=by omega
   go_wp2;go_ret;exact⟨l.length,rfl,by rw [HR.out];simp,Nat.le_refl _,HBw.out.mono (by omega)⟩
theorem LW (g:Nat)(a b:(List UInt8))(w:World)(hB:ZP w g 173 [.func (.func 107) #[] #[]]):
  Calls Tryz.prog 230 #[.string (Z9 a),.string (Z9 b),.pointer (some ⟨g,0,none⟩)] w fun e w'=>e= .returned (.bool (decide (Y3 a b=0)))∧Below w.heap.size w w':=by
 have hcmp:=fun W=>Oc a b W
 have h0:=hB.cell 0;have hg:=hB.lt;generalize Y3 a b=r at*;go_enter Tryz.func230,Tryz.ntmps230
 go_wp2_with fail;refine(hcmp _).mono ?_
 rintro e w' ⟨rfl,hb⟩;have HB:=hid hb.below;go_wp2;go_ret;refine⟨?_,?_⟩
 ·first | rfl | (congr 2;by_cases h:r=0 <;> simp [h])
 ·first | exact HB.out | exact(((Below.refl w.heap.size w).alloc lr _).alloc (by simp) _).trans (HB.out.mono (by simp;omega))
theorem Ng (l:List (List UInt8))(A:Option Addr)(c:Nat)(w:World)(hA:Zg w w.heap.size A YT l)(hn:l.length≤1099511627776):
  Calls Tryz.prog 151 #[.slice A l.length c,.func (.func 107) #[] #[]] w fun e w'=>e= .returned (.bool (Zn Y3 l))∧Below w.heap.size w w':=by
 have HX:Hid (Zn Y3 l=(Uv (fun a b:(List UInt8)=> !decide (Y3 b a<0)) l && Uv (fun a b:(List UInt8)=> !decide (Y3 b a=0)) l)):=hid (Og _ Se l);have HA:=hid (hA.later ((Below.refl w.heap.size w).alloc lr (.cells #[.func (.func 107) #[] #[]] 173)));have HB1:Hid (ZP (w.alloc (.cells #[.func (.func 107) #[] #[]] 173)) w.heap.size 173 [.func (.func 107) #[] #[]]):=hid (ZP.new w _ _);have HBw:Hid (Below w.heap.size w (w.alloc (.cells #[.func (.func 107) #[] #[]] 173))):=hid ((Below.refl w.heap.size w).alloc lr _);have hsz:w.heap.size< (w.alloc (.cells #[.func (.func 107) #[] #[]] 173)).heap.size:=by simp
 clear hA;go_enter Tryz.func151,Tryz.ntmps151
 go_wp2_with fail;generalize (w.alloc (.cells #[.func (.func 107) #[] #[]] 173))=w1 at*;refine(M6 l A c _ HA.out hn).mono ?_
 rintro e w2 ⟨rfl,hb2⟩;have HA2:=hid (HA.out.later hb2);have HB2:=hid (HB1.out.below hb2 (by omega));have HBw2:=hid (HBw.out.trans (hb2.mono (by omega)));have hsz2:w.heap.size<w2.heap.size:=Nat.lt_of_lt_of_le hsz hb2.size;clear hb2 HA HB1 HBw hsz w1
 cases hq:Uv (fun a b:(List UInt8)=> !decide (Y3 b a<0)) l
 ·rw [hq] at HX;clear hq;go_wp2;go_ret;exact⟨by rw [HX.out];rfl,HBw2.out⟩
 ·rw [hq] at HX;clear hq;go_wp2_with fail;refine(XG A c l _ HA2.out hn).mono ?_
  rintro e w3 ⟨A',c',rfl,ho3,hb3⟩;have HO3:=hid (show w3.ownsRow w2.heap.size 9 1 (.slice A' l.length c') l.length (l.flatMap YT) from ho3);have HB3:=hid (HB2.out.below hb3 (by omega));have HBw3:=hid (HBw2.out.trans (hb3.mono (by omega)));have hsz3:w2.heap.size≤w3.heap.size:=hb3.size;clear ho3 hb3 HA2 HB2 HBw2;go_wp2_with fail;refine(OQ w2.heap.size #[.pointer (some ⟨w.heap.size,0,none⟩)] l A' c' _ HO3.out hn (fun W a b hW=>LW w.heap.size a b W (HB3.out.below hW (by omega)))).mono ?_
  rintro e w4 ⟨m,rfl,hm,hml,hb4⟩;have HM:=hid hm;have HBw4:=hid (HBw3.out.trans (hb4.mono (by omega)));clear hm hb4
  cases hq2:Uv (fun a b:(List UInt8)=> !decide (Y3 b a=0)) l
  ·rw [hq2] at HX HM;clear hq2;have h1:m≠l.length:=of_decide_eq_false HM.out;have h2:((m:Int) ==(l.length:Int))=false:=by simp;omega
   have h3: ¬ (m:Int)=(l.length:Int):=by omega
   go_wp2;go_ret;exact⟨by rw [HX.out];rfl,HBw4.out⟩
  ·rw [hq2] at HX HM;clear hq2;obtain rfl:m=l.length:=of_decide_eq_true HM.out;have h2:((l.length:Int) ==(l.length:Int))=true:=by simp
   go_wp2;go_ret;exact⟨by rw [HX.out];rfl,HBw4.out⟩
theorem Pl (g:Nat)(a b:Mb)(w:World)(hB:ZP w g 207 [.func (.func 153) #[] #[]]):
  Calls Tryz.prog 233 #[.agg (a.cs).toArray,.agg (b.cs).toArray,.pointer (some ⟨g,0,none⟩)] w fun e w'=>e= .returned (.bool (decide (X4 a b=0)))∧Below w.heap.size w w':=by
 have hcmp:=fun W=>Tz a b W
 unfold Mb.cs at hcmp ⊢;have h0:=hB.cell 0;have hg:=hB.lt;generalize X4 a b=r at*;go_enter Tryz.func233,Tryz.ntmps233
 go_wp2_with fail;refine(hcmp _).mono ?_
 rintro e w' ⟨rfl,hb⟩;have HB:=hid hb.below;go_wp2;go_ret;refine⟨?_,?_⟩
 ·first | rfl | (congr 2;by_cases h:r=0 <;> simp [h])
 ·first | exact HB.out | exact(((Below.refl w.heap.size w).alloc lr _).alloc (by simp) _).trans (HB.out.mono (by simp;omega))
theorem QJ (l:List Mb)(A:Option Addr)(c:Nat)(w:World)(hA:Zg w w.heap.size A Mb.cs l)(hn:l.length≤1099511627776):
  Calls Tryz.prog 152 #[.slice A l.length c,.func (.func 153) #[] #[]] w fun e w'=>e= .returned (.bool (Zn X4 l))∧Below w.heap.size w w':=by
 have HX:Hid (Zn X4 l=(Uv (fun a b:Mb=> !decide (X4 b a<0)) l && Uv (fun a b:Mb=> !decide (X4 b a=0)) l)):=hid (Og _ Ld l);have HA:=hid (hA.later ((Below.refl w.heap.size w).alloc lr (.cells #[.func (.func 153) #[] #[]] 207)));have HB1:Hid (ZP (w.alloc (.cells #[.func (.func 153) #[] #[]] 207)) w.heap.size 207 [.func (.func 153) #[] #[]]):=hid (ZP.new w _ _);have HBw:Hid (Below w.heap.size w (w.alloc (.cells #[.func (.func 153) #[] #[]] 207))):=hid ((Below.refl w.heap.size w).alloc lr _);have hsz:w.heap.size< (w.alloc (.cells #[.func (.func 153) #[] #[]] 207)).heap.size:=by simp
 clear hA;go_enter Tryz.func152,Tryz.ntmps152
 go_wp2_with fail;generalize (w.alloc (.cells #[.func (.func 153) #[] #[]] 207))=w1 at*;refine(QD l A c _ HA.out hn).mono ?_
 rintro e w2 ⟨rfl,hb2⟩;have HA2:=hid (HA.out.later hb2);have HB2:=hid (HB1.out.below hb2 (by omega));have HBw2:=hid (HBw.out.trans (hb2.mono (by omega)));have hsz2:w.heap.size<w2.heap.size:=Nat.lt_of_lt_of_le hsz hb2.size;clear hb2 HA HB1 HBw hsz w1
 cases hq:Uv (fun a b:Mb=> !decide (X4 b a<0)) l
 ·rw [hq] at HX;clear hq;go_wp2;go_ret;exact⟨by rw [HX.out];rfl,HBw2.out⟩
 ·rw [hq] at HX;clear hq;go_wp2_with fail;refine(Xx A c l _ HA2.out hn).mono ?_
  rintro e w3 ⟨A',c',rfl,ho3,hb3⟩;have HO3:=hid (show w3.ownsRow w2.heap.size 147 2 (.slice A' l.length c') l.length (l.flatMap Mb.cs) from ho3);have HB3:=hid (HB2.out.below hb3 (by omega));have HBw3:=hid (HBw2.out.trans (hb3.mono (by omega)));have hsz3:w2.heap.size≤w3.heap.size:=hb3.size;clear ho3 hb3 HA2 HB2 HBw2;go_wp2_with fail;refine(Sa w2.heap.size #[.pointer (some ⟨w.heap.size,0,none⟩)] l A' c' _ HO3.out hn (fun W a b hW=>Pl w.heap.size a b W (HB3.out.below hW (by omega)))).mono ?_
  rintro e w4 ⟨m,rfl,hm,hml,hb4⟩;have HM:=hid hm;have HBw4:=hid (HBw3.out.trans (hb4.mono (by omega)));clear hm hb4
  cases hq2:Uv (fun a b:Mb=> !decide (X4 b a=0)) l
  ·rw [hq2] at HX HM;clear hq2;have h1:m≠l.length:=of_decide_eq_false HM.out;have h2:((m:Int) ==(l.length:Int))=false:=by simp;omega
   have h3: ¬ (m:Int)=(l.length:Int):=by omega
   go_wp2;go_ret;exact⟨by rw [HX.out];rfl,HBw4.out⟩
  ·rw [hq2] at HX HM;clear hq2;obtain rfl:m=l.length:=of_decide_eq_true HM.out;have h2:((l.length:Int) ==(l.length:Int))=true:=by simp
   go_wp2;go_ret;exact⟨by rw [HX.out];rfl,HBw4.out⟩
end Go.Proofs.YtnhmoibjlakhjaaGreat
namespace Go.Proofs.YtnhmoibjlakhjaaGreat
set_option maxRecDepth 100000
set_option maxHeartbeats 16000000
open Go.RowKit Go.Maps
def MI (v:Value):Option (DataW Value×List MemPlace):=some (.held v,[])
section
variable {P : Program} {k t e : TypeId} {κ : Type} {kv : κ → Value} {kl : κ → Lit} {dom : κ → Prop} {w w' : World} {z : Value} {b n : Nat} {f : κ → Value}
structure Mw (P:Program) (k:TypeId) {κ:Type} (kv:κ→Value) (kl:κ→Lit) (dom:κ→Prop):Prop where
 law:Keyed P k
 key: ∀ x,dom x→keyOf P k (kv x)=some (kl x)
 inj: ∀ x y,kl x=kl y→x=y
def Y5 (P:Program)(k:TypeId)(kl:κ→Lit)(w:World)(z:Value)(b n:Nat)(f:κ→Value):Prop:=
 ∃ D:DataW Value,w.ownsMap P k MI b n D∧ ∀ x,D.atKey (kl x) (.held z)= .held (f x)
theorem Y5.made (P:Program)(k:TypeId)(kl:κ→Lit)(w:World)(z:Value):Y5 P k kl (w.alloc (.map #[] 0)) z w.heap.size 0 (fun _=>z):=
 ⟨.map [],World.ownsMap_made w P k MI,fun _=>rfl⟩
theorem Y5.lt (h:Y5 P k kl w z b n f):b<w.heap.size:=by
 obtain⟨D,h1,_⟩:=h;exact h1.lt
theorem Y5.mono (h:Y5 P k kl w z b n f){m:Nat}(hm:n≤m):Y5 P k kl w z b m f:=by
 obtain⟨D,h1,h2⟩:=h;exact⟨D,h1.mono hm,h2⟩
theorem Y5.same (h:Y5 P k kl w z b n f)(hb:w'.heap[b]?=w.heap[b]?):Y5 P k kl w' z b n f:=by
 obtain⟨D,⟨es,clock,h1,h2⟩,h3⟩:=h;exact⟨D,⟨es,clock,hb.trans h1,h2⟩,h3⟩
theorem Y5.below (h:Y5 P k kl w z b n f){B:Nat}(hb:Below B w w')(hB:b<B):Y5 P k kl w' z b n f:=h.same (hb.block b hB)
theorem Y5.later (h:Y5 P k kl w z b n f)(hb:Below w.heap.size w w'):Y5 P k kl w' z b n f:=h.below hb h.lt
theorem Y5.alloc (h:Y5 P k kl w z b n f)(o:Obj):Y5 P k kl (w.alloc o) z b n f:=h.same (Below.heap_alloc w o b h.lt)
theorem Y5.grown (h:Y5 P k kl w z b n f){row:Option Nat}(hg:w.grownBy w' row)(hr:some b≠row):Y5 P k kl w' z b n f:=h.same (hg.block b h.lt hr)
theorem Y5.look (h:Y5 P k kl w z b n f)(K:Mw P k kv kl dom)(ht:P.underlying t=some (.map k e))(hz:(zeroValue e).run P w= .ok z w){x:κ}(hx:dom x):
  (Instr.lookup t (.map (some b)) (kv x) false).run P w= .ok (f x) w:=by
 obtain⟨D,hown,hf⟩:=h;obtain⟨v,ps,hrun,hv⟩:=hown.lookup K.law ht hz (zd:= .held z) (zp:= []) rfl (K.key x hx);rw [hf x] at hv;simp only [MI,Option.some.injEq,Prod.mk.injEq,DataW.held.injEq] at hv;rw [hrun,hv.1]
theorem Y5.put [DecidableEq κ](h:Y5 P k kl w z b n f)(K:Mw P k kv kl dom)(ht:P.underlying t=some (.map k e))(hn:n<maxLen){x:κ}(hx:dom x)(v:Value):
  ∃ w',(Instr.mapUpdate t (.map (some b)) (kv x) v).run P w= .ok () w'∧Y5 P k kl w' z b (n+1) (fun y=>if y=x then v else f y)∧w.grownBy w' (some b):=by
 obtain⟨D,hown,hf⟩:=h;have hD:IsMap D:=by
  obtain⟨es,clock,_,_,_,rfl⟩:=hown;exact⟨_,rfl⟩
 obtain⟨w',hrun,h1,h2⟩:=hown.update K.law ht hn (K.key x hx) (val:=v) (d:= .held v) (ps:= []) rfl;refine⟨w',hrun,⟨_,h1,fun y=> ?_⟩,h2⟩
 by_cases hyx:y=x
 ·subst hyx;show _=DataW.held (if y=y then v else f y)
  rw [if_pos rfl];exact atKey_put_same hD (K.law.key (K.key y hx)) _ _
 ·show _=DataW.held (if y=x then v else f y)
  rw [if_neg hyx,atKey_put_other (fun e=>hyx (K.inj _ _ e))];exact hf y
theorem WJ {o:Oper}{a:Act}{K:Act→World→Prop}{Q:Exit→Act→World→Prop}(m x v:Operand)(hop:o.op=Op.mapUpdate t m x v){key val:Value}(hm:a.eval m= .map (some b))(hx:a.eval x=key)(hv:a.eval v=val)
  (hrun:(Instr.mapUpdate t (.map (some b)) key val).run P w= .ok () w') (h:K (a.put o.dst undef) w'):Oper.wp P o a w K Q:=by
 unfold Oper.wp;simp [execOp,hop,hm,hx,hv,hrun,Result.andThen];exact h
theorem Ww {ops:Array Oper}{rest:List Oper}{o:Oper}{a:Act}{Q:Exit→Act→World→Prop}(hg:o.guard=none)(m x v:Operand)(hop:o.op=Op.mapUpdate t m x v){key val:Value}(hm:a.eval m= .map (some b))(hx:a.eval x=key)(hv:a.eval v=val)
  (hrun:(Instr.mapUpdate t (.map (some b)) key val).run P w= .ok () w') (h:wpList P ops Q rest (a.put o.dst undef) w'):wpList P ops Q (o ::rest) a w:=
 wpList_plain hg fun K' hK'=>WJ m x v hop hm hx hv hrun (hK' _ _ h)
end
def If (s:List UInt8):Value:= .string (Z9 s)
def Vq (s:List UInt8):Lit:= .string s
theorem WL:Mw Tryz.prog 9 If Vq (fun s=>s.length≤maxLen) where
 law:=string_keyed Tryz.underlying9
 key x hx:=by
  have h:=Go.WideMaps.keyOf_string_mk Tryz.underlying9 (s:=Z9 x) (by rw [Yv];exact hx);exact h
 inj x y h:=by
  unfold Vq at h;injection h
end Go.Proofs.YtnhmoibjlakhjaaGreat
namespace Go.Proofs.YtnhmoibjlakhjaaGreat
open Lib (hid)
set_option maxRecDepth 100000
set_option maxHeartbeats 16000000
open Go.RowKit Go.Maps
def mu (ms:List Mb)(f:List UInt8→Nat):Nat:=(ms.filter fun m=>f m.ZR == 0).length
theorem Pr {f g:List UInt8→Nat}(h: ∀ x,f x≤g x): ∀ ms:List Mb,mu ms g≤mu ms f
 | []=>Nat.le_refl _
 | m ::ms=>by
  have ih:=Pr h ms;have hm:=h m.ZR;unfold mu at*;simp only [List.filter_cons];by_cases h1:g m.ZR=0
  ·have h2:f m.ZR=0:=by omega
   rw [if_pos (by simpa using h1),if_pos (by simpa using h2)];simpa using ih
  ·rw [if_neg (by simpa using h1)];split
   ·simp only [List.length_cons];omega
   ·exact ih
def bump (f:List UInt8→Nat)(ZR:List UInt8):List UInt8→Nat:=fun y=>if y=ZR then f ZR+1 else f y
theorem MB (f:List UInt8→Nat)(ZR:List UInt8)(h0:f ZR=0): ∀ ms:List Mb,mu ms (bump f ZR)+ (Yj ms ZR).length=mu ms f
 | []=>rfl
 | m ::ms=>by
  have ih:=MB f ZR h0 ms;unfold mu Yj at*;simp only [List.filter_cons,List.length_map] at*;by_cases h1:m.ZR=ZR
  ·have h2:bump f ZR m.ZR=1:=by rw [h1];simp [bump,h0]
   have h3:f m.ZR=0:=by rw [h1];exact h0
   rw [if_neg (by rw [h2];decide),if_pos (by simpa using h1),if_pos (by simpa using h3)];simp only [List.length_cons];omega
  ·have h2:bump f ZR m.ZR=f m.ZR:=by simp [bump,h1]
   rw [h2,if_neg (show ¬ (m.ZR == ZR)=true by simpa using h1)];split
   ·simp only [List.length_cons];omega
   ·exact ih
theorem PE (f:List UInt8→Nat)(ZR x:List UInt8):f x≤bump f ZR x:=by
 unfold bump;split
 ·rename_i h;rw [h];omega
 ·exact Nat.le_refl _
theorem L9 {ms:List Mb}{ZR x:List UInt8}(h:x∈Yj ms ZR): ∃ m∈ms,m.of=x:=by
 obtain⟨m,hm,rfl⟩:=List.mem_map.1 h;exact⟨m,(List.mem_filter.1 hm).1,rfl⟩
structure O2 (ms:List Mb) (b1 b2 b3 fb nb M:Nat) (nx:List UInt8→Value) (w:World):Prop where
 c1:w.cell? ⟨b1,0,none⟩=some (.map (some fb))
 c2:w.cell? ⟨b2,0,none⟩=some (.map (some nb))
 c3:w.cell? ⟨b3,0,none⟩=some (.func (.func 154) #[] #[.pointer (some ⟨b1,0,none⟩),.pointer (some ⟨b2,0,none⟩),.pointer (some ⟨b3,0,none⟩)])
 n1:b1≠fb
 n2:b2≠fb
 n3:b3≠fb
 n4:nb≠fb
 map:Y5 Tryz.prog 9 Vq w (.slice none 0 0) nb M nx
 read: ∀ x,∃ A c,nx x= .slice A (Yj ms x).length c∧ ∀ j (hj:j< (Yj ms x).length),∃ ad,A=some ad∧ad.block≠fb∧w.cell? (ad.add j)=some (.string (Z9 (Yj ms x)[j]))
theorem O2.grown {ms:List Mb}{b1 b2 b3 fb nb M:Nat}{nx:List UInt8→Value}{w w':World}(h:O2 ms b1 b2 b3 fb nb M nx w)(hg:w.grownBy w' (some fb)):O2 ms b1 b2 b3 fb nb M nx w' where
 c1:=(hg.cell_far _ (World.block_lt_of_cell? w _ h.c1) (by simpa using h.n1)).trans h.c1
 c2:=(hg.cell_far _ (World.block_lt_of_cell? w _ h.c2) (by simpa using h.n2)).trans h.c2
 c3:=(hg.cell_far _ (World.block_lt_of_cell? w _ h.c3) (by simpa using h.n3)).trans h.c3
 n1:=h.n1
 n2:=h.n2
 n3:=h.n3
 n4:=h.n4
 map:=h.map.grown hg (by simpa using h.n4)
 read x:=by
  obtain⟨A,c,h1,h2⟩:=h.read x;refine⟨A,c,h1,fun j hj=> ?_⟩
  obtain⟨ad,h3,h4,h5⟩:=h2 j hj;exact⟨ad,h3,h4,(hg.cell_far _ (World.block_lt_of_cell? w _ h5) (by rw [Zz];simpa using h4)).trans h5⟩
def Tm (f:List UInt8→Nat):List UInt8→Value:=fun x=> .int .i64 (f x)
def LE (ms:List Mb)(n fb N:Nat)(f:List UInt8→Nat)(ZR:List UInt8)(w:World)(e:Ending)(w':World):Prop:=
 ∃ (N':Nat) (f':List UInt8→Nat),e= .returned (.tuple #[])∧w.grownBy w' (some fb)∧Y5 Tryz.prog 9 Vq w' (.int .i64 0) fb N' (Tm f')∧(∀ x,f' x≤N')∧N'+mu ms f'≤N+1+mu ms f∧(∀ x,f x≤f' x)∧
  ∀ met:List (List UInt8),(∀ x,0<f x↔x∈met)→ ∀ x,0<f' x↔x∈SK n ms met ZR
def JJ (ms:List Mb)(n fb N:Nat)(f:List UInt8→Nat)(ZR:List UInt8)(w:World)(j:Nat)(w':World):Prop:=
 ∃ (N':Nat) (f':List UInt8→Nat),w.grownBy w' (some fb)∧Y5 Tryz.prog 9 Vq w' (.int .i64 0) fb N' (Tm f')∧(∀ x,f' x≤N')∧N'+mu ms f'≤N+1+mu ms (bump f ZR)+j∧(∀ x,bump f ZR x≤f' x)∧
  ∀ met:List (List UInt8),(∀ x,0<f x↔x∈met)→ ∀ x,0<f' x↔x∈((Yj ms ZR).take j).foldl (SK n ms) (ZR ::met)
theorem OU {f:List UInt8→Nat}{ZR:List UInt8}{met:List (List UInt8)}(h: ∀ x,0<f x↔x∈met)(x:List UInt8):0<bump f ZR x↔x∈ZR ::met:=by
 unfold bump;rw [List.mem_cons,←h x];split
 ·rename_i hx;exact⟨fun _=>Or.inl hx,fun _=>by omega⟩
 ·rename_i hx;exact⟨Or.inr,fun h=>h.resolve_left hx⟩
theorem JR (ms:List Mb)(b1 b2 b3 fb nb M:Nat)(nx:List UInt8→Value)(hms: ∀ m∈ms,m.of.length≤1099511627776): ∀ (n:Nat)(ZR:List UInt8)(f:List UInt8→Nat)(N:Nat)(w:World),ZR.length≤1099511627776→O2 ms b1 b2 b3 fb nb M nx w→
  Y5 Tryz.prog 9 Vq w (.int .i64 0) fb N (Tm f)→(∀ x,f x≤N)→mu ms f+2≤n→N+1+mu ms f≤1099511627776→mu ms f≤1099511627776→
  Calls Tryz.prog 154 #[.string (Z9 ZR),.pointer (some ⟨b1,0,none⟩),.pointer (some ⟨b2,0,none⟩),.pointer (some ⟨b3,0,none⟩)] w (LE ms n fb N f ZR w):=by
 intro n;induction n with
 | zero=>intro ZR f N w _ _ _ _ h;omega
 | succ n ih=>
  intro ZR f N w hrole hK hM hN hmu hcap hcap2;have HK:=hid hK;have HM:=hid hM;have IH:=hid ih;have HMS:=hid hms;have hfr:f ZR≤N:=hN ZR;have HN:=hid hN;have c1:=hK.c1;have r1:(Instr.lookup 164 (.map (some fb)) (.string (Z9 ZR)) false).run Tryz.prog w= .ok (.int .i64 (f ZR)) w:=hM.look WL Tryz.underlying164 (by kernel_rfl) (x:=ZR) (by unfold maxLen;omega)
  have hwr:IntKind.i64.wrap ((f ZR:Int)+1)=((f ZR+1:Nat):Int):=by simp [IntKind.wrap,IntKind.bits,IntKind.signed];omega
  obtain⟨w1,hput,hM1,hg1⟩:=hM.put WL Tryz.underlying164 (by unfold maxLen;omega) (x:=ZR) (by unfold maxLen;omega) (.int .i64 ((f ZR+1:Nat):Int));have hput':(Instr.mapUpdate 164 (.map (some fb)) (.string (Z9 ZR)) (.int .i64 ((f ZR+1:Nat):Int))).run Tryz.prog w= .ok () w1:=hput;have hF1:(fun y=>if y=ZR then Value.int .i64 ((f ZR+1:Nat):Int) else Tm f y)=Tm (bump f ZR):=by
   funext y
   unfold Tm bump;split <;> rfl
  rw [hF1] at hM1;have HM1:=hid hM1;have HG1:=hid hg1;have hK1:=hK.grown hg1;have HK1:=hid hK1;have c1':=hK1.c1;have c2':=hK1.c2;have c3':=hK1.c3;have r2:(Instr.lookup 164 (.map (some fb)) (.string (Z9 ZR)) false).run Tryz.prog w1= .ok (.int .i64 ((f ZR+1:Nat):Int)) w1:=by
   have:=hM1.look WL Tryz.underlying164 (by kernel_rfl) (x:=ZR) (by unfold maxLen;omega);rw [show Tm (bump f ZR) ZR= .int .i64 ((f ZR+1:Nat):Int) from by simp [Tm,bump]] at this;exact this
  have hN1: ∀ x,bump f ZR x≤N+1:=by
   intro x;unfold bump;split
   ·omega
   ·have:=hN x;omega
  have HN1:=hid hN1;clear hput hF1 hK hM hK1 hM1 hg1 ih hms hN hN1;go_enter Tryz.func154,Tryz.ntmps154
  by_cases h0:f ZR=0
  ·obtain⟨A,c,hnx,hread⟩:=HK1.out.read ZR;have r3:(Instr.lookup 154 (.map (some nb)) (.string (Z9 ZR)) false).run Tryz.prog w1= .ok (.slice A (Yj ms ZR).length c) w1:=by
    have:=HK1.out.map.look WL Tryz.underlying154 (by kernel_rfl) (x:=ZR) (by unfold maxLen;omega);rw [hnx] at this;exact this
   have hgt: ¬ ((f ZR+1:Nat):Int) > 1:=by omega
   have hgt': ¬ (1:Int)< ((f ZR+1:Nat):Int):=by omega
   have hmub:=MB f ZR h0 ms;have hnl:(Yj ms ZR).length≤1099511627776:=by omega
   have HW:Hid (∀ met,ZR∉met→SK (n+1) ms met ZR=(Yj ms ZR).foldl (SK n ms) (ZR ::met)):=hid fun met hm=>by rw [SK,if_neg hm]
   have H0:=hid h0;clear h0;go_wp2_with (first | (at_mapUpdate;refine Ww rfl _ _ _ rfl rfl rfl rfl hput' ?_) | fail)
   have HRd:=hid hread;have HNx:=hid hnx;have HMb:=hid hmub;clear hread hnx hmub r1 r2 r3 hput' c1 c1' c2' c3' hwr;go_loopw [19] (fun i wr=> ∃ j:Nat,j≤(Yj ms ZR).length∧i= .int .i64 j∧Hid (JJ ms n fb N f ZR w j wr)) (fun i _=>(Yj ms ZR).length - (intOf i).toNat)
   case atStart=>
    refine⟨0,Nat.zero_le _,rfl,hid ⟨N+1,bump f ZR,HG1.out,HM1.out,HN1.out,by omega,fun x=>Nat.le_refl _,fun met hmet x=> ?_⟩⟩
    rw [List.take_zero];exact OU hmet x
   case round=>
    obtain⟨j,hj,rfl,HJ⟩:=hrel;obtain⟨Nj,fj,hgj,hMj,hNj,hsum,hbj,hmj⟩:=HJ.out;have hKj:=HK.out.grown hgj;by_cases hlt:j< (Yj ms ZR).length
    ·obtain⟨ad,rfl,hne,_⟩:=HRd.out j hlt;obtain⟨A2,c2,h2,hrd2⟩:=hKj.read ZR;rw [HNx.out] at h2;injection h2 with h2 _ h3
     subst h2;subst h3;obtain⟨ad',e',_,a0⟩:=hrd2 j hlt;injection e' with e'
     subst e';have c3:=hKj.c3;have hlen:(Yj ms ZR)[j].length≤1099511627776:=by
      obtain⟨m,hm,he⟩:=L9 (List.getElem_mem hlt);rw [←he];exact HMS.out m hm
     have hmono:=Pr hbj ms;have hpos:1≤(Yj ms ZR).length:=by omega
     have hcall:=IH.out (Yj ms ZR)[j] fj Nj wr hlen hKj hMj hNj (by have:=HMb.out;omega) (by have:=HMb.out;omega) (by have:=HMb.out;omega);have HT:Hid ((Yj ms ZR).take (j+1)=(Yj ms ZR).take j ++ [(Yj ms ZR)[j]]):=hid (List.take_succ_eq_append_getElem hlt);have HC:=hid hcall;have HBj:=hid hbj;have HMj:=hid hmj;have HGj:=hid hgj;clear hcall hrd2 hKj hMj hNj hbj hmj hgj;generalize hL:(Yj ms ZR)[j]=x at*;have HL:=hid hL;clear hL;go_wp2_with fail;refine HC.out.mono ?_
     rintro e w2 ⟨N2,f2,rfl,hg2,hM2,hN2,hs2,hb2,hm2⟩;have HJ2:Hid (JJ ms n fb N f ZR w (j+1) w2):=hid ⟨N2,f2,HGj.out.trans hg2,hM2,hN2,by omega,fun x=>Nat.le_trans (HBj.out x) (hb2 x),fun met hmet y=>by
      rw [HT.out,List.foldl_append];exact hm2 _ (HMj.out met hmet) y⟩
     clear hg2 hM2 hN2 hs2 hb2 hm2;go_wp2;go_roundw
     case rel=>exact⟨j+1,by omega,by go_num,HJ2⟩
     case measure=>simp [intOf];omega
    ·obtain rfl:j=(Yj ms ZR).length:=by omega
     have HE:Hid (LE ms (n+1) fb N f ZR w (.returned (.tuple #[])) wr):=hid ⟨Nj,fj,rfl,hgj,hMj,hNj,by have:=HMb.out;omega,fun x=>Nat.le_trans (PE f ZR x) (hbj x),fun met hmet x=>by
      rw [HW.out met (fun hin=>by have:=(hmet ZR).2 hin;rw [H0.out] at this;omega),hmj met hmet x,List.take_length]⟩
     clear hgj hMj hNj hsum hbj hmj hKj;go_wp2;(try simp only [Exit.inBlock,Exit.then])
     first | (refine bodyPost_ret (results_none rfl _ _ _) rfl ?_) | (refine bodyPost_end (results_none rfl _ _ _) rfl ?_)
     exact HE.out
  ·have hgt:((f ZR+1:Nat):Int) > 1:=by omega
   have hgt':(1:Int)< ((f ZR+1:Nat):Int):=by omega
   have hmle:=Pr (PE f ZR) ms;have HE:Hid (LE ms (n+1) fb N f ZR w (.returned (.tuple #[])) w1):=hid ⟨N+1,bump f ZR,rfl,HG1.out,HM1.out,HN1.out,by omega,PE f ZR,fun met hmet x=>by
    have hin:ZR∈met:=(hmet ZR).1 (by omega);rw [SK,if_pos hin,OU hmet x,List.mem_cons];exact⟨fun h=>h.elim (fun e=>e▸hin) id,Or.inr⟩⟩
   go_wp2_with (first | (at_mapUpdate;refine Ww rfl _ _ _ rfl rfl rfl rfl hput' ?_) | fail);(try simp only [Exit.inBlock,Exit.then])
   first | (refine bodyPost_ret (results_none rfl _ _ _) rfl ?_) | (refine bodyPost_end (results_none rfl _ _ _) rfl ?_)
   exact HE.out
end Go.Proofs.YtnhmoibjlakhjaaGreat
namespace Go.Proofs.YtnhmoibjlakhjaaGreat
set_option maxRecDepth 100000
set_option maxHeartbeats 16000000
open Go.RowKit Go.Maps
theorem UN {w w':World}{base k n:Nat}{T:TypeId}{v:Value}{xs:List Value}(h:w.ownsRow base T k v n xs)(hb: ∀ g,v.ownBlock=some g→w'.heap[g]?=w.heap[g]?):w'.ownsRow base T k v n xs:=by
 obtain⟨hl,h2⟩:=h;refine⟨hl,?_⟩
 rcases h2 with h0 | ⟨g,cap,cur,hv,hg,hh,h3⟩
 ·exact .inl h0
 ·exact .inr ⟨g,cap,cur,hv,hg,(hb g (by rw [hv];rfl)).trans hh,h3⟩
theorem Nv (ms:List Mb)(j:Nat)(hj:j<ms.length)(x:List UInt8):Yj (ms.take (j+1)) x=Yj (ms.take j) x ++ (if ms[j].ZR=x then [ms[j].of] else []):=by
 unfold Yj;rw [List.take_succ_eq_append_getElem hj,List.filter_append,List.map_append];congr 1
 by_cases h:ms[j].ZR=x
 ·rw [if_pos h,List.filter_cons_of_pos (by simpa using h)];rfl
 ·rw [if_neg h,List.filter_cons_of_neg (by simpa using h)];rfl
theorem Ma (ms:List Mb)(x:List UInt8):(Yj ms x).length≤ms.length:=by
 unfold Yj;rw [List.length_map];exact List.length_filter_le _ _
structure O8 (ms:List Mb) (s:Nat) (w wr:World) (j:Nat) (nx:List UInt8→Value):Prop where
 below:Below s w wr
 cell:wr.cell? ⟨s+2,0,none⟩=some (.map (some (s+1)))
 map:Y5 Tryz.prog 9 Vq wr (.slice none 0 0) (s+1) j nx
 own: ∀ x,wr.ownsRow (s+3) 9 1 (nx x) (Yj (ms.take j) x).length ((Yj (ms.take j) x).flatMap YT)
 IC: ∀ x y g,(nx x).ownBlock=some g→(nx y).ownBlock=some g→x=y
 size:s+3≤wr.heap.size
def QA (s g7:Nat)(m:Mb)(v:Value)(w:World):Prop:=
 w.cell? ⟨s+2,0,none⟩=some (.map (some (s+1)))∧w.cell? ⟨g7,0,none⟩=some (.string (Z9 m.ZR))∧w.cell? ⟨g7,1,none⟩=some (.string (Z9 m.of))∧
  (Instr.lookup 154 (.map (some (s+1))) (.string (Z9 m.ZR)) false).run Tryz.prog w= .ok v w
theorem O8.step {ms:List Mb}{s:Nat}{w wr:World}{j:Nat}{nx:List UInt8→Value}(h:O8 ms s w wr j nx)(hj:j<ms.length)(hl:ms.length≤65536)(hr:ms[j].ZR.length≤1099511627776):
  QA s wr.heap.size ms[j] (nx ms[j].ZR) (wr.alloc (.cells #[.string (Z9 ms[j].ZR),.string (Z9 ms[j].of)] 147)).drew∧
  QA s wr.heap.size ms[j] (nx ms[j].ZR) ((wr.alloc (.cells #[.string (Z9 ms[j].ZR),.string (Z9 ms[j].of)] 147)).drew.alloc (.cells #[.string (Z9 ms[j].of)] 9))∧
  ∃ v W2 W3 nx',(Builtin.append_ #[27,27] 27 #[nx ms[j].ZR,.slice (some ⟨wr.heap.size+1,0,none⟩) 1 1]).run Tryz.prog ((wr.alloc (.cells #[.string (Z9 ms[j].ZR),.string (Z9 ms[j].of)] 147)).drew.alloc (.cells #[.string (Z9 ms[j].of)] 9))= .ok v W2∧
   QA s wr.heap.size ms[j] (nx ms[j].ZR) W2∧(Instr.mapUpdate 154 (.map (some (s+1))) (.string (Z9 ms[j].ZR)) v).run Tryz.prog W2= .ok () W3∧O8 ms s w W3 (j+1) nx':=by
 obtain⟨i0,hi0,hz0,hz1,hz2⟩:=info_parts Vv;generalize hm:ms[j]=m at*;have hlook: ∀ W,Y5 Tryz.prog 9 Vq W (.slice none 0 0) (s+1) j nx→(Instr.lookup 154 (.map (some (s+1))) (.string (Z9 m.ZR)) false).run Tryz.prog W= .ok (nx m.ZR) W:=fun W hW=>
  hW.look WL Tryz.underlying154 (by kernel_rfl) (x:=m.ZR) (by unfold maxLen;omega)
 generalize hV0:(wr.alloc (.cells #[.string (Z9 m.ZR),.string (Z9 m.of)] 147)).drew=V0 at*;have B0:Below wr.heap.size wr V0:=by rw [←hV0];exact(br.alloc lr _).drew
 have P0:ZP V0 wr.heap.size 147 [.string (Z9 m.ZR),.string (Z9 m.of)]:=by rw [←hV0];exact(ZP.new wr _ _).drew
 have z0:V0.heap.size=wr.heap.size+1:=by rw [←hV0];simp [World.drew]
 generalize hV:V0.alloc (.cells #[.string (Z9 m.of)] 9)=V at*;have B1:Below V0.heap.size V0 V:=by rw [←hV];exact br.alloc lr _
 have P1:ZP V wr.heap.size 147 [.string (Z9 m.ZR),.string (Z9 m.of)]:=P0.below B1 (by omega);have Q1:ZP V (wr.heap.size+1) 9 [.string (Z9 m.of)]:=by rw [←hV,←z0];exact ZP.new V0 _ _
 have z1:V.heap.size=wr.heap.size+2:=by rw [←hV];simp;omega
 have hs:=h.size;have hc:=h.cell;have M0:=h.map.later B0;have M1:=M0.later B1;have hcs:s+2<wr.heap.size:=by omega
 have S0:QA s wr.heap.size m (nx m.ZR) V0:=⟨ct hc B0 hcs,P0.cell 0,P0.cell 1,hlook _ M0⟩
 have S1:QA s wr.heap.size m (nx m.ZR) V:=⟨(B1.cell (p:=⟨s+2,0,none⟩) (by show s+2<_;omega)).trans S0.1,P1.cell 0,P1.cell 1,hlook _ M1⟩
 refine⟨S0,S1,?_⟩
 have B01:Below wr.heap.size wr V:=B0.trans (B1.mono (by omega));have hown1: ∀ x,V.ownsRow (s+3) 9 1 (nx x) (Yj (ms.take j) x).length ((Yj (ms.take j) x).flatMap YT):=fun x=>(h.own x).Zu B01
 have hlen:=Nat.le_trans (Ma (ms.take j) m.ZR) (List.length_take_le _ _);obtain⟨v,W2,hrun,ho2,hg2,_,hloc⟩:=run_append_own_at (P:=Tryz.prog) (w:=V) (s+3) 27 27 9 i0 _ 1 16 Tryz.underlying27 hi0 hz0 hz1 hz2 rfl (by decide) (nx m.ZR) _ _ (hown1 m.ZR) ⟨wr.heap.size+1,0,none⟩ 1 1 [.string (Z9 m.of)] rfl Q1.news
  (by simp [Value.oneCell']) (by unfold maxLen;omega) (by omega) (by omega)
 have Xo: ∀ k,k<V.heap.size→(k<s+3∨wr.heap.size≤k)→W2.heap[k]?=V.heap[k]?:=fun k hk hkk=>hg2.block k hk (fun e=>by
  obtain⟨h1,h2⟩:=(h.own m.ZR).lt k e.symm;omega)
 have M2:Y5 Tryz.prog 9 Vq W2 (.slice none 0 0) (s+1) j nx:=M1.same (Xo _ (by omega) (by omega));have S2:QA s wr.heap.size m (nx m.ZR) W2:=⟨(World.cell?_of_block (Xo (s+2) (by omega) (by omega))).trans S1.1,(World.cell?_of_block (Xo wr.heap.size (by omega) (by omega))).trans S1.2.1,(World.cell?_of_block (Xo wr.heap.size (by omega) (by omega))).trans S1.2.2.1,hlook _ M2⟩
 obtain⟨W3,hput,M3,hg3⟩:=M2.put WL Tryz.underlying154 (by unfold maxLen;omega) (x:=m.ZR) (by unfold maxLen;omega) v;refine⟨v,W2,W3,_,hrun,S2,hput,?_,?_,M3,?_,?_,?_⟩
 ·have b2:Below s V W2:=((Below.refl s V).grown hg2 (by omega) (fun k hk=>by have:=(h.own m.ZR).lt k hk;omega))
  exact((h.below.trans (B01.mono (by omega))).trans b2).grown hg3 (by have:=hg2.size;omega) (fun k hk=>by injection hk with hk;omega)
 ·exact(hg3.cell_far ⟨s+2,0,none⟩ (World.block_lt_of_cell? W2 ⟨s+2,0,none⟩ S2.1) (by simp)).trans S2.1
 ·intro x;rw [Nv ms j hj,hm];have hz2':=hg2.size;by_cases hx:x=m.ZR
  ·subst hx;rw [if_pos rfl,if_pos rfl,List.length_append,List.flatMap_append];refine UN ho2 fun g hg=>hg3.block g ((ho2.lt g hg).2) (fun e=> ?_)
   injection e with e
   have:=(ho2.lt g hg).1;omega
  ·rw [if_neg hx,if_neg (fun e=>hx e.symm),List.append_nil];refine UN (UN (hown1 x) fun g hg=>hg2.block g ((hown1 x).lt g hg).2 (fun e=> ?_)) fun g hg=>hg3.block g ?_ (fun e=> ?_)
   ·exact hx (h.IC x m.ZR g hg e.symm)
   ·have:=((hown1 x).lt g hg).2;omega
   ·injection e with e
    have:=((hown1 x).lt g hg).1;omega
 ·intro x y g hx hy;have old: ∀ z,(nx z).ownBlock=some g→g<wr.heap.size:=fun z hz=>((h.own z).lt g hz).2
  by_cases h1:x=m.ZR <;> by_cases h2:y=m.ZR
  ·rw [h1,h2]
  ·subst h1;rw [if_pos rfl] at hx;rw [if_neg h2] at hy;rcases hloc with hl | hl
   ·exact h.IC _ _ g (hl▸hx) hy
   ·rw [hl] at hx;injection hx with hx
    have:=old y hy;omega
  ·subst h2;rw [if_pos rfl] at hy;rw [if_neg h1] at hx;rcases hloc with hl | hl
   ·exact h.IC _ _ g hx (hl▸hy)
   ·rw [hl] at hy;injection hy with hy
    have:=old x hx;omega
  ·rw [if_neg h1] at hx;rw [if_neg h2] at hy;exact h.IC _ _ g hx hy
 ·have:=hg2.size;have:=hg3.size;omega
end Go.Proofs.YtnhmoibjlakhjaaGreat
