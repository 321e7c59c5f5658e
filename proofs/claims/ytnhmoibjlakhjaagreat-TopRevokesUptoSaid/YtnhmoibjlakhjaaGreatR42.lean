/- Lemmas of the proof. No condition but each theorem's own. -/
import Derived.Test.YtnhmoibjlakhjaaGreatR41
import Derived.Test.YtnhmoibjlakhjaaGreatR18
import Derived.Test.YtnhmoibjlakhjaaGreatR03
import Derived.Test.YtnhmoibjlakhjaaGreatR10
import Derived.Test.YtnhmoibjlakhjaaGreatR35
import Derived.Test.YtnhmoibjlakhjaaGreatR30
set_option linter.unusedVariables false
set_option linter.unusedSimpArgs false
namespace Go.Proofs.YtnhmoibjlakhjaaGreat
open Lib (hid)
set_option maxRecDepth 100000
set_option maxHeartbeats 16000000
open Go.RowKit
def Js (c:Ca)(x:Cm)(er:Int)(c':Ca):Prop:= ∃ o',Pl c.ob (Jr c.ob x) er o'∧c'=⟨c.ZO,c.ZU,o',c.ro,c.Z3⟩
def Wd (c:Ca)(x:Cm):Int→Ca→Prop:=
 if x.ZQ=4 then KK c x else if x.ZQ=9 then KJ c x else if x.ZQ=11 then MD c else if x.ZQ=14 then IY c else if x.ZQ=15 then LS c x
 else if x.ZQ=10∨x.ZQ=12∨x.ZQ=13 then MD c else Js c x
section
variable {c : Ca} {x : Cm}
theorem Wd.k4 (h:x.ZQ=4):Wd c x=KK c x:=by unfold Wd;rw [if_pos h]
theorem Wd.k9 (h:x.ZQ=9):Wd c x=KJ c x:=by unfold Wd;rw [if_neg (by omega),if_pos h]
theorem Wd.Iw (h:x.ZQ=11):Wd c x=MD c:=by unfold Wd;rw [if_neg (by omega),if_neg (by omega),if_pos h]
theorem Wd.Iv (h:x.ZQ=14):Wd c x=IY c:=by unfold Wd;rw [if_neg (by omega),if_neg (by omega),if_neg (by omega),if_pos h]
theorem Wd.IQ (h:x.ZQ=15):Wd c x=LS c x:=by unfold Wd;rw [if_neg (by omega),if_neg (by omega),if_neg (by omega),if_neg (by omega),if_pos h]
theorem Wd.ro (h:x.ZQ=10∨x.ZQ=12∨x.ZQ=13):Wd c x=MD c:=by unfold Wd;rw [if_neg (by omega),if_neg (by omega),if_neg (by omega),if_neg (by omega),if_neg (by omega),if_pos h]
theorem Wd.ob (h4: ¬ x.ZQ=4)(h9: ¬ x.ZQ=9)(h11: ¬ x.ZQ=11)(h14: ¬ x.ZQ=14)(h15: ¬ x.ZQ=15)(h: ¬ (x.ZQ=10∨x.ZQ=12∨x.ZQ=13)):Wd c x=Js c x:=by unfold Wd;rw [if_neg h4,if_neg h9,if_neg h11,if_neg h14,if_neg h15,if_neg h]
end
theorem IS (c:Ca)(A:WV)(x:Cm)(X:Option Addr)(k:Nat)(Y:Option Addr)(n:Nat)(g:Nat)(w:World)(hP:ZP w g 33 (c.cs A))(hT:Us w c A)(ht:c.Zv 1099511627776)
  (hX:ZV w (· < w.heap.size) Zl (x.ZX.map Cl.da) X) (hY:ZV w (· < w.heap.size) [.Z9] (YU x.ZZ.ZX) Y) (hx:x.Zv 1099511627776) (hbd:QJ x.ZZ) (h5:x.ZQ=5→x.ZX.length=1):
  Calls Tryz.prog 35 #[.pointer (some ⟨g,0,none⟩),.agg (x.cs X k Y n).toArray] w (LW g w (Wd c x)):=by
 have HT:=hid hT;have HTm:=hid ht;have HI2:=iN 26 2;have HI2r:=iN 30 2;have HI7:=iN 33 7;have hgl:=hP.lt;have HB0:Hid (Below w.heap.size w (w.alloc (.cells #[.int .i64 x.ZQ,.string (Z9 x.ZM),.string (Z9 x.Z8),.string (Z9 x.ZY),.string (Z9 x.name),.string (Z9 x.ZT),.slice X x.ZX.length k,.string (Z9 x.ZZ.name),.int .i64 x.ZZ.ZQ,.slice Y x.ZZ.ZX.length n,.int .i64 x.ZZ.low,.int .i64 x.ZZ.ZF,.string (Z9 x.ZZ.Z8),.string (Z9 x.ZZ.ZY),.string (Z9 x.ZZ.key),.int .i64 x.right,.bool x.Zz] 43))):=hid (br.alloc lr _);have P0:Hid (ZP (w.alloc (.cells #[.int .i64 x.ZQ,.string (Z9 x.ZM),.string (Z9 x.Z8),.string (Z9 x.ZY),.string (Z9 x.name),.string (Z9 x.ZT),.slice X x.ZX.length k,.string (Z9 x.ZZ.name),.int .i64 x.ZZ.ZQ,.slice Y x.ZZ.ZX.length n,.int .i64 x.ZZ.low,.int .i64 x.ZZ.ZF,.string (Z9 x.ZZ.Z8),.string (Z9 x.ZZ.ZY),.string (Z9 x.ZZ.key),.int .i64 x.right,.bool x.Zz] 43)) g 33 [.int .i64 c.ZO,.int .i64 c.ZU,.slice A.a0 c.ob.Z4.length A.k0,.slice A.a1 c.ob.Z7.length A.k1,.slice A.a2 c.ro.ZW.length A.k2,.slice A.a3 c.ro.Z2.length A.k3,.slice A.a4 c.Z3.length A.k4]):=hid (hP.alloc _);have X0:Hid (ZP (w.alloc (.cells #[.int .i64 x.ZQ,.string (Z9 x.ZM),.string (Z9 x.Z8),.string (Z9 x.ZY),.string (Z9 x.name),.string (Z9 x.ZT),.slice X x.ZX.length k,.string (Z9 x.ZZ.name),.int .i64 x.ZZ.ZQ,.slice Y x.ZZ.ZX.length n,.int .i64 x.ZZ.low,.int .i64 x.ZZ.ZF,.string (Z9 x.ZZ.Z8),.string (Z9 x.ZZ.ZY),.string (Z9 x.ZZ.key),.int .i64 x.right,.bool x.Zz] 43)) w.heap.size 43 [.int .i64 x.ZQ,.string (Z9 x.ZM),.string (Z9 x.Z8),.string (Z9 x.ZY),.string (Z9 x.name),.string (Z9 x.ZT),.slice X x.ZX.length k,.string (Z9 x.ZZ.name),.int .i64 x.ZZ.ZQ,.slice Y x.ZZ.ZX.length n,.int .i64 x.ZZ.low,.int .i64 x.ZZ.ZF,.string (Z9 x.ZZ.Z8),.string (Z9 x.ZZ.ZY),.string (Z9 x.ZZ.key),.int .i64 x.right,.bool x.Zz]):=hid (ZP.new w _ _);have HI17:=iN 43 17;have HX:=hid hX;have HY:=hid hY;have HXt:=hid hx;have HBd:=hid hbd;have H5:=hid h5;have HHn:Hid (∀ (R:Int→Ca→Prop) e w',LW g (w.alloc (.cells #[.int .i64 x.ZQ,.string (Z9 x.ZM),.string (Z9 x.Z8),.string (Z9 x.ZY),.string (Z9 x.name),.string (Z9 x.ZT),.slice X x.ZX.length k,.string (Z9 x.ZZ.name),.int .i64 x.ZZ.ZQ,.slice Y x.ZZ.ZX.length n,.int .i64 x.ZZ.low,.int .i64 x.ZZ.ZF,.string (Z9 x.ZZ.Z8),.string (Z9 x.ZZ.ZY),.string (Z9 x.ZZ.key),.int .i64 x.right,.bool x.Zz] 43)) R e w'→LW g w R e w'):=hid (fun R e w' h=>⟨(Zf.pre (HB0.out) (h.1.mono HB0.out.size)),h.2⟩);have HT0:=hid (HT.out.later HB0.out);clear hT ht hP hX hY hx hbd h5;unfold Cm.cs;go_enter Tryz.func35,Tryz.ntmps35
 go_upto_region 4 with fail
 generalize (w.alloc (.cells #[.int .i64 x.ZQ,.string (Z9 x.ZM),.string (Z9 x.Z8),.string (Z9 x.ZY),.string (Z9 x.name),.string (Z9 x.ZT),.slice X x.ZX.length k,.string (Z9 x.ZZ.name),.int .i64 x.ZZ.ZQ,.slice Y x.ZZ.ZX.length n,.int .i64 x.ZZ.low,.int .i64 x.ZZ.ZF,.string (Z9 x.ZZ.Z8),.string (Z9 x.ZZ.ZY),.string (Z9 x.ZZ.key),.int .i64 x.right,.bool x.Zz] 43))=W0 at*;by_cases h4:x.ZQ=4
 ·have t4:(x.ZQ == 4)=true:=by simpa using h4
  have HK:=hid h4;clear h4;go_wp2_with (first | (refine lO X0 HI17 Tryz.underlying43 ?_) | fail);have cD:=OS c A x X k Y n g W0 P0.out HT0.out HTm.out;unfold Cm.cs at cD;refine cD.mono ?_
  clear cD;rintro e W1 hd;have hd2:=HHn.out _ _ _ hd;clear hd;obtain⟨hbx,⟨c',A',rfl,hR,hB,hC⟩ | ⟨E,c',h0,rfl,hR,hvs⟩⟩:=hd2
  ·have HBX:=hid hbx;have HRR:=hid hR;have HBB:=hid hB;have HCC:=hid hC;clear hbx hR hB hC P0 X0 HT0 HHn HB0;go_wp2_with fail;have cM:=Y3 0 W1;rw [if_pos rfl] at cM;refine cM.mono ?_
   rintro e V9 ⟨rfl,rfl⟩;go_wp2;go_end0;exact⟨HBX.out,Or.inl ⟨c',A',rfl,by rw [Wd.k4 HK.out];exact HRR.out,HBB.out,HCC.out⟩⟩
  ·exact⟨rfl,hbx,Or.inr ⟨E,c',h0,rfl,by rw [Wd.k4 HK.out];exact hR,hvs⟩⟩
 have g4:(x.ZQ == 4)=false:=by simpa using h4
 by_cases h9:x.ZQ=9
 ·have t9:(x.ZQ == 9)=true:=by simpa using h9
  have HK:=hid h9;clear h9;go_wp2_with (first | (refine lO X0 HI17 Tryz.underlying43 ?_) | fail);have cD:=Nn c A x X k Y n g W0 P0.out HT0.out HTm.out;unfold Cm.cs at cD;refine cD.mono ?_
  clear cD;rintro e W1 hd;have hd2:=HHn.out _ _ _ hd;clear hd;obtain⟨hbx,⟨c',A',rfl,hR,hB,hC⟩ | ⟨E,c',h0,rfl,hR,hvs⟩⟩:=hd2
  ·have HBX:=hid hbx;have HRR:=hid hR;have HBB:=hid hB;have HCC:=hid hC;clear hbx hR hB hC P0 X0 HT0 HHn HB0;go_wp2_with fail;have cM:=Y3 0 W1;rw [if_pos rfl] at cM;refine cM.mono ?_
   rintro e V9 ⟨rfl,rfl⟩;go_wp2;go_end0;exact⟨HBX.out,Or.inl ⟨c',A',rfl,by rw [Wd.k9 HK.out];exact HRR.out,HBB.out,HCC.out⟩⟩
  ·exact⟨rfl,hbx,Or.inr ⟨E,c',h0,rfl,by rw [Wd.k9 HK.out];exact hR,hvs⟩⟩
 have g9:(x.ZQ == 9)=false:=by simpa using h9
 by_cases h11:x.ZQ=11
 ·have t11:(x.ZQ == 11)=true:=by simpa using h11
  have HK:=hid h11;clear h11;go_wp2_with (first | (refine lO X0 HI17 Tryz.underlying43 ?_) | fail);have cD:=NW c A x X k Y n g W0 P0.out HT0.out HTm.out;unfold Cm.cs at cD;refine cD.mono ?_
  clear cD;rintro e W1 hd;have hd2:=HHn.out _ _ _ hd;clear hd;obtain⟨hbx,⟨c',A',rfl,hR,hB,hC⟩ | ⟨E,c',h0,rfl,hR,hvs⟩⟩:=hd2
  ·have HBX:=hid hbx;have HRR:=hid hR;have HBB:=hid hB;have HCC:=hid hC;clear hbx hR hB hC P0 X0 HT0 HHn HB0;go_wp2_with fail;have cM:=Y3 0 W1;rw [if_pos rfl] at cM;refine cM.mono ?_
   rintro e V9 ⟨rfl,rfl⟩;go_wp2;go_end0;exact⟨HBX.out,Or.inl ⟨c',A',rfl,by rw [Wd.Iw HK.out];exact HRR.out,HBB.out,HCC.out⟩⟩
  ·exact⟨rfl,hbx,Or.inr ⟨E,c',h0,rfl,by rw [Wd.Iw HK.out];exact hR,hvs⟩⟩
 have g11:(x.ZQ == 11)=false:=by simpa using h11
 by_cases h14:x.ZQ=14
 ·have t14:(x.ZQ == 14)=true:=by simpa using h14
  have HK:=hid h14;clear h14;go_wp2_with (first | (refine lO X0 HI17 Tryz.underlying43 ?_) | fail);have cD:=JS c A x X k Y n g W0 P0.out HT0.out HTm.out;unfold Cm.cs at cD;refine cD.mono ?_
  clear cD;rintro e W1 hd;have hd2:=HHn.out _ _ _ hd;clear hd;obtain⟨hbx,⟨c',A',rfl,hR,hB,hC⟩ | ⟨E,c',h0,rfl,hR,hvs⟩⟩:=hd2
  ·have HBX:=hid hbx;have HRR:=hid hR;have HBB:=hid hB;have HCC:=hid hC;clear hbx hR hB hC P0 X0 HT0 HHn HB0;go_wp2_with fail;have cM:=Y3 0 W1;rw [if_pos rfl] at cM;refine cM.mono ?_
   rintro e V9 ⟨rfl,rfl⟩;go_wp2;go_end0;exact⟨HBX.out,Or.inl ⟨c',A',rfl,by rw [Wd.Iv HK.out];exact HRR.out,HBB.out,HCC.out⟩⟩
  ·exact⟨rfl,hbx,Or.inr ⟨E,c',h0,rfl,by rw [Wd.Iv HK.out];exact hR,hvs⟩⟩
 have g14:(x.ZQ == 14)=false:=by simpa using h14
 by_cases h15:x.ZQ=15
 ·have t15:(x.ZQ == 15)=true:=by simpa using h15
  have HK:=hid h15;clear h15;go_wp2_with (first | (refine lO X0 HI17 Tryz.underlying43 ?_) | fail);have cD:=Lb c A x X k Y n g W0 P0.out HT0.out HTm.out;unfold Cm.cs at cD;refine cD.mono ?_
  clear cD;rintro e W1 hd;have hd2:=HHn.out _ _ _ hd;clear hd;obtain⟨hbx,⟨c',A',rfl,hR,hB,hC⟩ | ⟨E,c',h0,rfl,hR,hvs⟩⟩:=hd2
  ·have HBX:=hid hbx;have HRR:=hid hR;have HBB:=hid hB;have HCC:=hid hC;clear hbx hR hB hC P0 X0 HT0 HHn HB0;go_wp2_with fail;have cM:=Y3 0 W1;rw [if_pos rfl] at cM;refine cM.mono ?_
   rintro e V9 ⟨rfl,rfl⟩;go_wp2;go_end0;exact⟨HBX.out,Or.inl ⟨c',A',rfl,by rw [Wd.IQ HK.out];exact HRR.out,HBB.out,HCC.out⟩⟩
  ·exact⟨rfl,hbx,Or.inr ⟨E,c',h0,rfl,by rw [Wd.IQ HK.out];exact hR,hvs⟩⟩
 have g15:(x.ZQ == 15)=false:=by simpa using h15
 by_cases h10:x.ZQ=10
 ·have t10:(x.ZQ == 10)=true:=by simpa using h10
  have HK:=hid h10;clear h10;go_wp2_with fail;have HBd1:Hid (Below W0.heap.size W0 W0.drew):=hid br.drew;have HCl:=US c.ro A.a2 A.k2 A.a3 A.k3 x X k Y n W0.drew (HT0.out.later HBd1.out).VF.nm (HT0.out.later HBd1.out).VF.mb HTm.out.2.1;unfold Cm.cs at HCl;replace HCl:=hid HCl;have hS0:W0.drew.cell? ⟨g,4,none⟩=some (.slice A.a2 c.ro.ZW.length A.k2)∧W0.drew.cell? ⟨g,5,none⟩=some (.slice A.a3 c.ro.Z2.length A.k3)∧W0.drew.rangeAt w.heap.size 0 [.int .i64 x.ZQ,.string (Z9 x.ZM),.string (Z9 x.Z8),.string (Z9 x.ZY),.string (Z9 x.name),.string (Z9 x.ZT),.slice X x.ZX.length k,.string (Z9 x.ZZ.name),.int .i64 x.ZZ.ZQ,.slice Y x.ZZ.ZX.length n,.int .i64 x.ZZ.low,.int .i64 x.ZZ.ZF,.string (Z9 x.ZZ.Z8),.string (Z9 x.ZZ.ZY),.string (Z9 x.ZZ.key),.int .i64 x.right,.bool x.Zz]:=⟨P0.out.drew.cell 4,P0.out.drew.cell 5,X0.out.drew.YQ⟩
  refine Zy 12 (S:=fun w'=>w'.cell? ⟨g,4,none⟩=some (.slice A.a2 c.ro.ZW.length A.k2)∧w'.cell? ⟨g,5,none⟩=some (.slice A.a3 c.ro.Z2.length A.k3)∧w'.rangeAt w.heap.size 0 [.int .i64 x.ZQ,.string (Z9 x.ZM),.string (Z9 x.Z8),.string (Z9 x.ZY),.string (Z9 x.name),.string (Z9 x.ZT),.slice X x.ZX.length k,.string (Z9 x.ZZ.name),.int .i64 x.ZZ.ZQ,.slice Y x.ZZ.ZX.length n,.int .i64 x.ZZ.low,.int .i64 x.ZZ.ZF,.string (Z9 x.ZZ.Z8),.string (Z9 x.ZZ.ZY),.string (Z9 x.ZZ.key),.int .i64 x.right,.bool x.Zz]) (by kernel_rfl) hS0 (fun HD'=> ?_)
  (try simp only [pp]);refine Y9 0 49 HD' ?_;refine Y9 1 50 HD' ?_;refine Y9 2 51 HD' ?_;refine Y9 3 52 HD' ?_;refine Y9 4 53 HD' ?_;refine ZC.take (i:=5) (oi:=⟨some 54,_,_,_,_,_⟩) (v:=_) rfl (by kernel_rfl) (by kernel_rfl) (by kernel_rfl) (by kernel_rfl) (fun _ _ _ h=>h) (yieldsIf_load_mid (by rfl) _ _ rfl (w.heap.size) 0 rfl [.int .i64 x.ZQ,.string (Z9 x.ZM),.string (Z9 x.Z8),.string (Z9 x.ZY),.string (Z9 x.name),.string (Z9 x.ZT),.slice X x.ZX.length k,.string (Z9 x.ZZ.name),.int .i64 x.ZZ.ZQ,.slice Y x.ZZ.ZX.length n,.int .i64 x.ZZ.low,.int .i64 x.ZZ.ZF,.string (Z9 x.ZZ.Z8),.string (Z9 x.ZZ.ZY),.string (Z9 x.ZZ.key),.int .i64 x.right,.bool x.Zz] _ (fun _ h=>h.2.2) Tryz.underlying43 rfl HI17.out) HD' ?_
  (try simp only [pp]);refine Re 6 55 fun K hK=> ?_
  go_simp;refine HCl.out.mono ?_
  rintro e V1 ⟨er,r',B0,l0,B1,l1,rfl,hRo,hb,htm⟩;have HRo:=hid hRo;have HTr:=hid htm;have HV1:Hid (Below W0.heap.size W0 V1):=hid (HBd1.out.trans hb);have PV:=bl P0 HV1.out;have XV:=bl X0 HV1.out;have HDf:V1.cell? ⟨g,4,none⟩=some (.slice A.a2 c.ro.ZW.length A.k2)∧V1.cell? ⟨g,5,none⟩=some (.slice A.a3 c.ro.Z2.length A.k3)∧V1.rangeAt w.heap.size 0 [.int .i64 x.ZQ,.string (Z9 x.ZM),.string (Z9 x.Z8),.string (Z9 x.ZY),.string (Z9 x.name),.string (Z9 x.ZT),.slice X x.ZX.length k,.string (Z9 x.ZZ.name),.int .i64 x.ZZ.ZQ,.slice Y x.ZZ.ZX.length n,.int .i64 x.ZZ.low,.int .i64 x.ZZ.ZF,.string (Z9 x.ZZ.Z8),.string (Z9 x.ZZ.ZY),.string (Z9 x.ZZ.key),.int .i64 x.right,.bool x.Zz]:=⟨PV.out.cell 4,PV.out.cell 5,XV.out.YQ⟩
  clear hb hRo htm;refine hK.out _ _ HDf ?_
  clear hK K;(try simp only [pp])
  clear HD' HCl;have HD':=HDf;refine U7 7 48 (fun _=>HD') ?_;refine U7 8 56 (fun _=>HD') ?_;refine U7 9 57 (fun _=>HD') ?_;refine U7 10 58 (fun _=>HD') ?_;refine U7 11 59 (fun _=>HD') ?_;have HTV:=hid (HT0.out.later HV1.out)
  have HBw:=bt HB0 HV1.out;clear HBd1 HV1 P0 X0 XV HB0 HT0 HHn;refine ZC.Xo (i:=12) (o:=⟨none,_,_,_,_,_⟩) (by kernel_rfl) (by kernel_rfl) rfl (fun K hK=> ?_)
  have e0:V1.cell? ⟨g,4,none⟩=some (.slice A.a2 c.ro.ZW.length A.k2):=HDf.1;have e1:V1.cell? ⟨g,5,none⟩=some (.slice A.a3 c.ro.Z2.length A.k3):=HDf.2.1;have q0:=PV.out.frozen 4;have q1:=PV.out.frozen 5;go_simp;refine hK.out _ _ ?_
  clear hK K;(try simp only [pp])
  refine ZC.behind (i:=13) (o:=⟨some 4,_,_,_,_,_⟩) (by kernel_rfl) (by kernel_rfl) rfl (fun K hK=> ?_)
  go_simp;refine hK.out _ _ (ZC.done (by kernel_rfl) ?_ _);clear hK K HD' HDf hS0 e0 e1 q0 q1;refine Sk _ fun V2 hV=> ?_
  have HK2:Hid (ZR [33] V1 V2):=hid (by rw [hV];exact(ZR.Zx PV.out.Xr (by simp) _).trans (ZR.Zx (PV.out.Xr.setCell _ _) (by simp) _));have P2:Hid (ZP V2 g 33 [.int .i64 c.ZO,.int .i64 c.ZU,.slice A.a0 c.ob.Z4.length A.k0,.slice A.a1 c.ob.Z7.length A.k1,.slice B0 r'.ZW.length l0,.slice B1 r'.Z2.length l1,.slice A.a4 c.Z3.length A.k4]):=hid (by rw [hV];exact(PV.out.Zx 4 _).Zx 5 _);have BX2:Hid (Zf w.heap.size (some g) w V2):=hid (by rw [hV];exact((HBw.out.x (some g)).Ut _).Ut _);clear hV;have hT4:=HTV.out.keeps HK2.out (by decide);have hO4:=HRo.out.keeps HK2.out (by decide);have HF:Hid (Us V2 ⟨c.ZO,c.ZU,c.ob,r',c.Z3⟩ ⟨A.a0,A.k0,A.a1,A.k1,B0,l0,B1,l1,A.a4,A.k4⟩):=hid ⟨hT4.sc,hT4.tb,hO4.nm.Tz (by decide),hO4.mb.Tz (by decide),hT4.gr⟩;clear hT4 hO4 HTV HRo HK2 PV;by_cases h0:er=0
  case neg=>
   go_wp2_with fail;have cM:=Y3 er V2;rw [if_neg h0] at cM;refine cM.mono ?_
   rintro e V9 ⟨rfl,rfl⟩;go_wp2;exact⟨rfl,BX2.out,Or.inr ⟨er,⟨c.ZO,c.ZU,c.ob,r',c.Z3⟩,h0,rfl,by rw [Wd.ro (Or.inl HK.out)];exact Or.inl h0,_,P2.out,rfl⟩⟩
  subst h0;go_wp2_with fail;have cM:=Y3 0 V2;rw [if_pos rfl] at cM;refine cM.mono ?_
  rintro e V9 ⟨rfl,rfl⟩;go_wp2;go_end0;exact⟨BX2.out,Or.inl ⟨⟨c.ZO,c.ZU,c.ob,r',c.Z3⟩,⟨A.a0,A.k0,A.a1,A.k1,B0,l0,B1,l1,A.a4,A.k4⟩,rfl,by rw [Wd.ro (Or.inl HK.out)];exact Or.inr ⟨rfl,r',HTr.out,rfl⟩,P2.out,HF.out⟩⟩
 have g10:(x.ZQ == 10)=false:=by simpa using h10
 by_cases h12:x.ZQ=12
 ·have t12:(x.ZQ == 12)=true:=by simpa using h12
  have HK:=hid h12;clear h12;go_wp2_with fail;have HBd1:Hid (Below W0.heap.size W0 W0.drew):=hid br.drew;have HCl:=US c.ro A.a2 A.k2 A.a3 A.k3 x X k Y n W0.drew (HT0.out.later HBd1.out).VF.nm (HT0.out.later HBd1.out).VF.mb HTm.out.2.1;unfold Cm.cs at HCl;replace HCl:=hid HCl;have hS0:W0.drew.cell? ⟨g,4,none⟩=some (.slice A.a2 c.ro.ZW.length A.k2)∧W0.drew.cell? ⟨g,5,none⟩=some (.slice A.a3 c.ro.Z2.length A.k3)∧W0.drew.rangeAt w.heap.size 0 [.int .i64 x.ZQ,.string (Z9 x.ZM),.string (Z9 x.Z8),.string (Z9 x.ZY),.string (Z9 x.name),.string (Z9 x.ZT),.slice X x.ZX.length k,.string (Z9 x.ZZ.name),.int .i64 x.ZZ.ZQ,.slice Y x.ZZ.ZX.length n,.int .i64 x.ZZ.low,.int .i64 x.ZZ.ZF,.string (Z9 x.ZZ.Z8),.string (Z9 x.ZZ.ZY),.string (Z9 x.ZZ.key),.int .i64 x.right,.bool x.Zz]:=⟨P0.out.drew.cell 4,P0.out.drew.cell 5,X0.out.drew.YQ⟩
  refine Zy 12 (S:=fun w'=>w'.cell? ⟨g,4,none⟩=some (.slice A.a2 c.ro.ZW.length A.k2)∧w'.cell? ⟨g,5,none⟩=some (.slice A.a3 c.ro.Z2.length A.k3)∧w'.rangeAt w.heap.size 0 [.int .i64 x.ZQ,.string (Z9 x.ZM),.string (Z9 x.Z8),.string (Z9 x.ZY),.string (Z9 x.name),.string (Z9 x.ZT),.slice X x.ZX.length k,.string (Z9 x.ZZ.name),.int .i64 x.ZZ.ZQ,.slice Y x.ZZ.ZX.length n,.int .i64 x.ZZ.low,.int .i64 x.ZZ.ZF,.string (Z9 x.ZZ.Z8),.string (Z9 x.ZZ.ZY),.string (Z9 x.ZZ.key),.int .i64 x.right,.bool x.Zz]) (by kernel_rfl) hS0 (fun HD'=> ?_)
  (try simp only [pp]);refine Y9 0 49 HD' ?_;refine Y9 1 50 HD' ?_;refine Y9 2 51 HD' ?_;refine Y9 3 52 HD' ?_;refine Y9 4 53 HD' ?_;refine ZC.take (i:=5) (oi:=⟨some 54,_,_,_,_,_⟩) (v:=_) rfl (by kernel_rfl) (by kernel_rfl) (by kernel_rfl) (by kernel_rfl) (fun _ _ _ h=>h) (yieldsIf_load_mid (by rfl) _ _ rfl (w.heap.size) 0 rfl [.int .i64 x.ZQ,.string (Z9 x.ZM),.string (Z9 x.Z8),.string (Z9 x.ZY),.string (Z9 x.name),.string (Z9 x.ZT),.slice X x.ZX.length k,.string (Z9 x.ZZ.name),.int .i64 x.ZZ.ZQ,.slice Y x.ZZ.ZX.length n,.int .i64 x.ZZ.low,.int .i64 x.ZZ.ZF,.string (Z9 x.ZZ.Z8),.string (Z9 x.ZZ.ZY),.string (Z9 x.ZZ.key),.int .i64 x.right,.bool x.Zz] _ (fun _ h=>h.2.2) Tryz.underlying43 rfl HI17.out) HD' ?_
  (try simp only [pp]);refine Re 6 55 fun K hK=> ?_
  go_simp;refine HCl.out.mono ?_
  rintro e V1 ⟨er,r',B0,l0,B1,l1,rfl,hRo,hb,htm⟩;have HRo:=hid hRo;have HTr:=hid htm;have HV1:Hid (Below W0.heap.size W0 V1):=hid (HBd1.out.trans hb);have PV:=bl P0 HV1.out;have XV:=bl X0 HV1.out;have HDf:V1.cell? ⟨g,4,none⟩=some (.slice A.a2 c.ro.ZW.length A.k2)∧V1.cell? ⟨g,5,none⟩=some (.slice A.a3 c.ro.Z2.length A.k3)∧V1.rangeAt w.heap.size 0 [.int .i64 x.ZQ,.string (Z9 x.ZM),.string (Z9 x.Z8),.string (Z9 x.ZY),.string (Z9 x.name),.string (Z9 x.ZT),.slice X x.ZX.length k,.string (Z9 x.ZZ.name),.int .i64 x.ZZ.ZQ,.slice Y x.ZZ.ZX.length n,.int .i64 x.ZZ.low,.int .i64 x.ZZ.ZF,.string (Z9 x.ZZ.Z8),.string (Z9 x.ZZ.ZY),.string (Z9 x.ZZ.key),.int .i64 x.right,.bool x.Zz]:=⟨PV.out.cell 4,PV.out.cell 5,XV.out.YQ⟩
  clear hb hRo htm;refine hK.out _ _ HDf ?_
  clear hK K;(try simp only [pp])
  clear HD' HCl;have HD':=HDf;refine U7 7 48 (fun _=>HD') ?_;refine U7 8 56 (fun _=>HD') ?_;refine U7 9 57 (fun _=>HD') ?_;refine U7 10 58 (fun _=>HD') ?_;refine U7 11 59 (fun _=>HD') ?_;have HTV:=hid (HT0.out.later HV1.out)
  have HBw:=bt HB0 HV1.out;clear HBd1 HV1 P0 X0 XV HB0 HT0 HHn;refine ZC.Xo (i:=12) (o:=⟨none,_,_,_,_,_⟩) (by kernel_rfl) (by kernel_rfl) rfl (fun K hK=> ?_)
  have e0:V1.cell? ⟨g,4,none⟩=some (.slice A.a2 c.ro.ZW.length A.k2):=HDf.1;have e1:V1.cell? ⟨g,5,none⟩=some (.slice A.a3 c.ro.Z2.length A.k3):=HDf.2.1;have q0:=PV.out.frozen 4;have q1:=PV.out.frozen 5;go_simp;refine hK.out _ _ ?_
  clear hK K;(try simp only [pp])
  refine ZC.behind (i:=13) (o:=⟨some 4,_,_,_,_,_⟩) (by kernel_rfl) (by kernel_rfl) rfl (fun K hK=> ?_)
  go_simp;refine hK.out _ _ (ZC.done (by kernel_rfl) ?_ _);clear hK K HD' HDf hS0 e0 e1 q0 q1;refine Sk _ fun V2 hV=> ?_
  have HK2:Hid (ZR [33] V1 V2):=hid (by rw [hV];exact(ZR.Zx PV.out.Xr (by simp) _).trans (ZR.Zx (PV.out.Xr.setCell _ _) (by simp) _));have P2:Hid (ZP V2 g 33 [.int .i64 c.ZO,.int .i64 c.ZU,.slice A.a0 c.ob.Z4.length A.k0,.slice A.a1 c.ob.Z7.length A.k1,.slice B0 r'.ZW.length l0,.slice B1 r'.Z2.length l1,.slice A.a4 c.Z3.length A.k4]):=hid (by rw [hV];exact(PV.out.Zx 4 _).Zx 5 _);have BX2:Hid (Zf w.heap.size (some g) w V2):=hid (by rw [hV];exact((HBw.out.x (some g)).Ut _).Ut _);clear hV;have hT4:=HTV.out.keeps HK2.out (by decide);have hO4:=HRo.out.keeps HK2.out (by decide);have HF:Hid (Us V2 ⟨c.ZO,c.ZU,c.ob,r',c.Z3⟩ ⟨A.a0,A.k0,A.a1,A.k1,B0,l0,B1,l1,A.a4,A.k4⟩):=hid ⟨hT4.sc,hT4.tb,hO4.nm.Tz (by decide),hO4.mb.Tz (by decide),hT4.gr⟩;clear hT4 hO4 HTV HRo HK2 PV;by_cases h0:er=0
  case neg=>
   go_wp2_with fail;have cM:=Y3 er V2;rw [if_neg h0] at cM;refine cM.mono ?_
   rintro e V9 ⟨rfl,rfl⟩;go_wp2;exact⟨rfl,BX2.out,Or.inr ⟨er,⟨c.ZO,c.ZU,c.ob,r',c.Z3⟩,h0,rfl,by rw [Wd.ro (Or.inr (Or.inl HK.out))];exact Or.inl h0,_,P2.out,rfl⟩⟩
  subst h0;go_wp2_with fail;have cM:=Y3 0 V2;rw [if_pos rfl] at cM;refine cM.mono ?_
  rintro e V9 ⟨rfl,rfl⟩;go_wp2;go_end0;exact⟨BX2.out,Or.inl ⟨⟨c.ZO,c.ZU,c.ob,r',c.Z3⟩,⟨A.a0,A.k0,A.a1,A.k1,B0,l0,B1,l1,A.a4,A.k4⟩,rfl,by rw [Wd.ro (Or.inr (Or.inl HK.out))];exact Or.inr ⟨rfl,r',HTr.out,rfl⟩,P2.out,HF.out⟩⟩
 have g12:(x.ZQ == 12)=false:=by simpa using h12
 by_cases h13:x.ZQ=13
 ·have t13:(x.ZQ == 13)=true:=by simpa using h13
  have HK:=hid h13;clear h13;go_wp2_with fail;have HBd1:Hid (Below W0.heap.size W0 W0.drew):=hid br.drew;have HCl:=US c.ro A.a2 A.k2 A.a3 A.k3 x X k Y n W0.drew (HT0.out.later HBd1.out).VF.nm (HT0.out.later HBd1.out).VF.mb HTm.out.2.1;unfold Cm.cs at HCl;replace HCl:=hid HCl;have hS0:W0.drew.cell? ⟨g,4,none⟩=some (.slice A.a2 c.ro.ZW.length A.k2)∧W0.drew.cell? ⟨g,5,none⟩=some (.slice A.a3 c.ro.Z2.length A.k3)∧W0.drew.rangeAt w.heap.size 0 [.int .i64 x.ZQ,.string (Z9 x.ZM),.string (Z9 x.Z8),.string (Z9 x.ZY),.string (Z9 x.name),.string (Z9 x.ZT),.slice X x.ZX.length k,.string (Z9 x.ZZ.name),.int .i64 x.ZZ.ZQ,.slice Y x.ZZ.ZX.length n,.int .i64 x.ZZ.low,.int .i64 x.ZZ.ZF,.string (Z9 x.ZZ.Z8),.string (Z9 x.ZZ.ZY),.string (Z9 x.ZZ.key),.int .i64 x.right,.bool x.Zz]:=⟨P0.out.drew.cell 4,P0.out.drew.cell 5,X0.out.drew.YQ⟩
  refine Zy 12 (S:=fun w'=>w'.cell? ⟨g,4,none⟩=some (.slice A.a2 c.ro.ZW.length A.k2)∧w'.cell? ⟨g,5,none⟩=some (.slice A.a3 c.ro.Z2.length A.k3)∧w'.rangeAt w.heap.size 0 [.int .i64 x.ZQ,.string (Z9 x.ZM),.string (Z9 x.Z8),.string (Z9 x.ZY),.string (Z9 x.name),.string (Z9 x.ZT),.slice X x.ZX.length k,.string (Z9 x.ZZ.name),.int .i64 x.ZZ.ZQ,.slice Y x.ZZ.ZX.length n,.int .i64 x.ZZ.low,.int .i64 x.ZZ.ZF,.string (Z9 x.ZZ.Z8),.string (Z9 x.ZZ.ZY),.string (Z9 x.ZZ.key),.int .i64 x.right,.bool x.Zz]) (by kernel_rfl) hS0 (fun HD'=> ?_)
  (try simp only [pp]);refine Y9 0 49 HD' ?_;refine Y9 1 50 HD' ?_;refine Y9 2 51 HD' ?_;refine Y9 3 52 HD' ?_;refine Y9 4 53 HD' ?_;refine ZC.take (i:=5) (oi:=⟨some 54,_,_,_,_,_⟩) (v:=_) rfl (by kernel_rfl) (by kernel_rfl) (by kernel_rfl) (by kernel_rfl) (fun _ _ _ h=>h) (yieldsIf_load_mid (by rfl) _ _ rfl (w.heap.size) 0 rfl [.int .i64 x.ZQ,.string (Z9 x.ZM),.string (Z9 x.Z8),.string (Z9 x.ZY),.string (Z9 x.name),.string (Z9 x.ZT),.slice X x.ZX.length k,.string (Z9 x.ZZ.name),.int .i64 x.ZZ.ZQ,.slice Y x.ZZ.ZX.length n,.int .i64 x.ZZ.low,.int .i64 x.ZZ.ZF,.string (Z9 x.ZZ.Z8),.string (Z9 x.ZZ.ZY),.string (Z9 x.ZZ.key),.int .i64 x.right,.bool x.Zz] _ (fun _ h=>h.2.2) Tryz.underlying43 rfl HI17.out) HD' ?_
  (try simp only [pp]);refine Re 6 55 fun K hK=> ?_
  go_simp;refine HCl.out.mono ?_
  rintro e V1 ⟨er,r',B0,l0,B1,l1,rfl,hRo,hb,htm⟩;have HRo:=hid hRo;have HTr:=hid htm;have HV1:Hid (Below W0.heap.size W0 V1):=hid (HBd1.out.trans hb);have PV:=bl P0 HV1.out;have XV:=bl X0 HV1.out;have HDf:V1.cell? ⟨g,4,none⟩=some (.slice A.a2 c.ro.ZW.length A.k2)∧V1.cell? ⟨g,5,none⟩=some (.slice A.a3 c.ro.Z2.length A.k3)∧V1.rangeAt w.heap.size 0 [.int .i64 x.ZQ,.string (Z9 x.ZM),.string (Z9 x.Z8),.string (Z9 x.ZY),.string (Z9 x.name),.string (Z9 x.ZT),.slice X x.ZX.length k,.string (Z9 x.ZZ.name),.int .i64 x.ZZ.ZQ,.slice Y x.ZZ.ZX.length n,.int .i64 x.ZZ.low,.int .i64 x.ZZ.ZF,.string (Z9 x.ZZ.Z8),.string (Z9 x.ZZ.ZY),.string (Z9 x.ZZ.key),.int .i64 x.right,.bool x.Zz]:=⟨PV.out.cell 4,PV.out.cell 5,XV.out.YQ⟩
  clear hb hRo htm;refine hK.out _ _ HDf ?_
  clear hK K;(try simp only [pp])
  clear HD' HCl;have HD':=HDf;refine U7 7 48 (fun _=>HD') ?_;refine U7 8 56 (fun _=>HD') ?_;refine U7 9 57 (fun _=>HD') ?_;refine U7 10 58 (fun _=>HD') ?_;refine U7 11 59 (fun _=>HD') ?_;have HTV:=hid (HT0.out.later HV1.out)
  have HBw:=bt HB0 HV1.out;clear HBd1 HV1 P0 X0 XV HB0 HT0 HHn;refine ZC.Xo (i:=12) (o:=⟨none,_,_,_,_,_⟩) (by kernel_rfl) (by kernel_rfl) rfl (fun K hK=> ?_)
  have e0:V1.cell? ⟨g,4,none⟩=some (.slice A.a2 c.ro.ZW.length A.k2):=HDf.1;have e1:V1.cell? ⟨g,5,none⟩=some (.slice A.a3 c.ro.Z2.length A.k3):=HDf.2.1;have q0:=PV.out.frozen 4;have q1:=PV.out.frozen 5;go_simp;refine hK.out _ _ ?_
  clear hK K;(try simp only [pp])
  refine ZC.behind (i:=13) (o:=⟨some 4,_,_,_,_,_⟩) (by kernel_rfl) (by kernel_rfl) rfl (fun K hK=> ?_)
  go_simp;refine hK.out _ _ (ZC.done (by kernel_rfl) ?_ _);clear hK K HD' HDf hS0 e0 e1 q0 q1;refine Sk _ fun V2 hV=> ?_
  have HK2:Hid (ZR [33] V1 V2):=hid (by rw [hV];exact(ZR.Zx PV.out.Xr (by simp) _).trans (ZR.Zx (PV.out.Xr.setCell _ _) (by simp) _));have P2:Hid (ZP V2 g 33 [.int .i64 c.ZO,.int .i64 c.ZU,.slice A.a0 c.ob.Z4.length A.k0,.slice A.a1 c.ob.Z7.length A.k1,.slice B0 r'.ZW.length l0,.slice B1 r'.Z2.length l1,.slice A.a4 c.Z3.length A.k4]):=hid (by rw [hV];exact(PV.out.Zx 4 _).Zx 5 _);have BX2:Hid (Zf w.heap.size (some g) w V2):=hid (by rw [hV];exact((HBw.out.x (some g)).Ut _).Ut _);clear hV;have hT4:=HTV.out.keeps HK2.out (by decide);have hO4:=HRo.out.keeps HK2.out (by decide);have HF:Hid (Us V2 ⟨c.ZO,c.ZU,c.ob,r',c.Z3⟩ ⟨A.a0,A.k0,A.a1,A.k1,B0,l0,B1,l1,A.a4,A.k4⟩):=hid ⟨hT4.sc,hT4.tb,hO4.nm.Tz (by decide),hO4.mb.Tz (by decide),hT4.gr⟩;clear hT4 hO4 HTV HRo HK2 PV;by_cases h0:er=0
  case neg=>
   go_wp2_with fail;have cM:=Y3 er V2;rw [if_neg h0] at cM;refine cM.mono ?_
   rintro e V9 ⟨rfl,rfl⟩;go_wp2;exact⟨rfl,BX2.out,Or.inr ⟨er,⟨c.ZO,c.ZU,c.ob,r',c.Z3⟩,h0,rfl,by rw [Wd.ro (Or.inr (Or.inr HK.out))];exact Or.inl h0,_,P2.out,rfl⟩⟩
  subst h0;go_wp2_with fail;have cM:=Y3 0 V2;rw [if_pos rfl] at cM;refine cM.mono ?_
  rintro e V9 ⟨rfl,rfl⟩;go_wp2;go_end0;exact⟨BX2.out,Or.inl ⟨⟨c.ZO,c.ZU,c.ob,r',c.Z3⟩,⟨A.a0,A.k0,A.a1,A.k1,B0,l0,B1,l1,A.a4,A.k4⟩,rfl,by rw [Wd.ro (Or.inr (Or.inr HK.out))];exact Or.inr ⟨rfl,r',HTr.out,rfl⟩,P2.out,HF.out⟩⟩
 have g13:(x.ZQ == 13)=false:=by simpa using h13
 go_wp2_with fail;have HBd1:Hid (Below W0.heap.size W0 W0.drew):=hid br.drew;have HCl:=QQ c.ob A.a0 A.k0 A.a1 A.k1 x X k Y n W0.drew ⟨(HT0.out.later HBd1.out).VF.sc,(HT0.out.later HBd1.out).VF.tb⟩ HTm.out.1 (HX.out.later (HB0.out.trans (HBd1.out.mono HB0.out.size))) (HY.out.later (HB0.out.trans (HBd1.out.mono HB0.out.size))) HXt.out HBd.out H5.out;unfold Cm.cs at HCl;replace HCl:=hid HCl;have hS0:W0.drew.cell? ⟨g,2,none⟩=some (.slice A.a0 c.ob.Z4.length A.k0)∧W0.drew.cell? ⟨g,3,none⟩=some (.slice A.a1 c.ob.Z7.length A.k1)∧W0.drew.rangeAt w.heap.size 0 [.int .i64 x.ZQ,.string (Z9 x.ZM),.string (Z9 x.Z8),.string (Z9 x.ZY),.string (Z9 x.name),.string (Z9 x.ZT),.slice X x.ZX.length k,.string (Z9 x.ZZ.name),.int .i64 x.ZZ.ZQ,.slice Y x.ZZ.ZX.length n,.int .i64 x.ZZ.low,.int .i64 x.ZZ.ZF,.string (Z9 x.ZZ.Z8),.string (Z9 x.ZZ.ZY),.string (Z9 x.ZZ.key),.int .i64 x.right,.bool x.Zz]:=⟨P0.out.drew.cell 2,P0.out.drew.cell 3,X0.out.drew.YQ⟩
 refine Zy 12 (S:=fun w'=>w'.cell? ⟨g,2,none⟩=some (.slice A.a0 c.ob.Z4.length A.k0)∧w'.cell? ⟨g,3,none⟩=some (.slice A.a1 c.ob.Z7.length A.k1)∧w'.rangeAt w.heap.size 0 [.int .i64 x.ZQ,.string (Z9 x.ZM),.string (Z9 x.Z8),.string (Z9 x.ZY),.string (Z9 x.name),.string (Z9 x.ZT),.slice X x.ZX.length k,.string (Z9 x.ZZ.name),.int .i64 x.ZZ.ZQ,.slice Y x.ZZ.ZX.length n,.int .i64 x.ZZ.low,.int .i64 x.ZZ.ZF,.string (Z9 x.ZZ.Z8),.string (Z9 x.ZZ.ZY),.string (Z9 x.ZZ.key),.int .i64 x.right,.bool x.Zz]) (by kernel_rfl) hS0 (fun HD'=> ?_)
 (try simp only [pp]);refine Y9 0 8 HD' ?_;refine Y9 1 9 HD' ?_;refine Y9 2 10 HD' ?_;refine Y9 3 11 HD' ?_;refine Y9 4 12 HD' ?_;refine ZC.take (i:=5) (oi:=⟨some 13,_,_,_,_,_⟩) (v:=_) rfl (by kernel_rfl) (by kernel_rfl) (by kernel_rfl) (by kernel_rfl) (fun _ _ _ h=>h) (yieldsIf_load_mid (by rfl) _ _ rfl (w.heap.size) 0 rfl [.int .i64 x.ZQ,.string (Z9 x.ZM),.string (Z9 x.Z8),.string (Z9 x.ZY),.string (Z9 x.name),.string (Z9 x.ZT),.slice X x.ZX.length k,.string (Z9 x.ZZ.name),.int .i64 x.ZZ.ZQ,.slice Y x.ZZ.ZX.length n,.int .i64 x.ZZ.low,.int .i64 x.ZZ.ZF,.string (Z9 x.ZZ.Z8),.string (Z9 x.ZZ.ZY),.string (Z9 x.ZZ.key),.int .i64 x.right,.bool x.Zz] _ (fun _ h=>h.2.2) Tryz.underlying43 rfl HI17.out) HD' ?_
 (try simp only [pp]);refine Re 6 14 fun K hK=> ?_
 go_simp;refine HCl.out.mono ?_
 rintro e V1 ⟨er,o',B0,l0,B1,l1,rfl,hR,hRo,hb⟩;have HRo:=hid hRo;have HR:=hid hR;have HV1:Hid (Below W0.heap.size W0 V1):=hid (HBd1.out.trans hb);have PV:=bl P0 HV1.out;have XV:=bl X0 HV1.out;have HDf:V1.cell? ⟨g,2,none⟩=some (.slice A.a0 c.ob.Z4.length A.k0)∧V1.cell? ⟨g,3,none⟩=some (.slice A.a1 c.ob.Z7.length A.k1)∧V1.rangeAt w.heap.size 0 [.int .i64 x.ZQ,.string (Z9 x.ZM),.string (Z9 x.Z8),.string (Z9 x.ZY),.string (Z9 x.name),.string (Z9 x.ZT),.slice X x.ZX.length k,.string (Z9 x.ZZ.name),.int .i64 x.ZZ.ZQ,.slice Y x.ZZ.ZX.length n,.int .i64 x.ZZ.low,.int .i64 x.ZZ.ZF,.string (Z9 x.ZZ.Z8),.string (Z9 x.ZZ.ZY),.string (Z9 x.ZZ.key),.int .i64 x.right,.bool x.Zz]:=⟨PV.out.cell 2,PV.out.cell 3,XV.out.YQ⟩
 clear hb hRo hR;refine hK.out _ _ HDf ?_
 clear hK K;(try simp only [pp])
 clear HD' HCl;have HD':=HDf;refine U7 7 7 (fun _=>HD') ?_;refine U7 8 15 (fun _=>HD') ?_;refine U7 9 16 (fun _=>HD') ?_;refine U7 10 17 (fun _=>HD') ?_;refine U7 11 18 (fun _=>HD') ?_;have HTV:=hid (HT0.out.later HV1.out)
 have HBw:=bt HB0 HV1.out;clear HBd1 HV1 P0 X0 XV HB0 HT0 HHn;refine ZC.Xo (i:=12) (o:=⟨none,_,_,_,_,_⟩) (by kernel_rfl) (by kernel_rfl) rfl (fun K hK=> ?_)
 have e0:V1.cell? ⟨g,2,none⟩=some (.slice A.a0 c.ob.Z4.length A.k0):=HDf.1;have e1:V1.cell? ⟨g,3,none⟩=some (.slice A.a1 c.ob.Z7.length A.k1):=HDf.2.1;have q0:=PV.out.frozen 2;have q1:=PV.out.frozen 3;go_simp;refine hK.out _ _ ?_
 clear hK K;(try simp only [pp])
 refine ZC.behind (i:=13) (o:=⟨some 4,_,_,_,_,_⟩) (by kernel_rfl) (by kernel_rfl) rfl (fun K hK=> ?_)
 go_simp;refine hK.out _ _ (ZC.done (by kernel_rfl) ?_ _);clear hK K HD' HDf hS0 e0 e1 q0 q1;refine Sk _ fun V2 hV=> ?_
 have HK2:Hid (ZR [33] V1 V2):=hid (by rw [hV];exact(ZR.Zx PV.out.Xr (by simp) _).trans (ZR.Zx (PV.out.Xr.setCell _ _) (by simp) _));have P2:Hid (ZP V2 g 33 [.int .i64 c.ZO,.int .i64 c.ZU,.slice B0 o'.Z4.length l0,.slice B1 o'.Z7.length l1,.slice A.a2 c.ro.ZW.length A.k2,.slice A.a3 c.ro.Z2.length A.k3,.slice A.a4 c.Z3.length A.k4]):=hid (by rw [hV];exact(PV.out.Zx 2 _).Zx 3 _);have BX2:Hid (Zf w.heap.size (some g) w V2):=hid (by rw [hV];exact((HBw.out.x (some g)).Ut _).Ut _);clear hV;have hT4:=HTV.out.keeps HK2.out (by decide);have hO4:=HRo.out.keeps HK2.out (by decide);have HF:Hid (Us V2 ⟨c.ZO,c.ZU,o',c.ro,c.Z3⟩ ⟨B0,l0,B1,l1,A.a2,A.k2,A.a3,A.k3,A.a4,A.k4⟩):=hid ⟨hO4.IG,hO4.IE,hT4.nm,hT4.mb,hT4.gr⟩;clear hT4 hO4 HTV HRo HK2 PV;by_cases h0:er=0
 case neg=>
  go_wp2_with fail;have cM:=Y3 er V2;rw [if_neg h0] at cM;refine cM.mono ?_
  rintro e V9 ⟨rfl,rfl⟩;go_wp2;exact⟨rfl,BX2.out,Or.inr ⟨er,⟨c.ZO,c.ZU,o',c.ro,c.Z3⟩,h0,rfl,by rw [Wd.ob h4 h9 h11 h14 h15 (by omega)];exact⟨o',HR.out,rfl⟩,_,P2.out,rfl⟩⟩
 subst h0;go_wp2_with fail;have cM:=Y3 0 V2;rw [if_pos rfl] at cM;refine cM.mono ?_
 rintro e V9 ⟨rfl,rfl⟩;go_wp2;go_end0;exact⟨BX2.out,Or.inl ⟨⟨c.ZO,c.ZU,o',c.ro,c.Z3⟩,⟨B0,l0,B1,l1,A.a2,A.k2,A.a3,A.k3,A.a4,A.k4⟩,rfl,by rw [Wd.ob h4 h9 h11 h14 h15 (by omega)];exact⟨o',HR.out,rfl⟩,P2.out,HF.out⟩⟩
end Go.Proofs.YtnhmoibjlakhjaaGreat
namespace Go.Proofs.YtnhmoibjlakhjaaGreat
set_option maxRecDepth 100000
set_option maxHeartbeats 16000000
theorem Ru.Zv.up {r:Ru}{M N:Nat}(h:r.Zv M)(hm:M≤N):r.Zv N:=⟨Nat.le_trans h.1 hm,Nat.le_trans h.2.1 hm,Nat.le_trans h.2.2.1 hm,Nat.le_trans h.2.2.2 hm⟩
theorem Tb.Zv.up {t:Tb}{M N:Nat}(h:t.Zv M)(hm:M≤N):t.Zv N:=⟨Nat.le_trans h.1 hm,Nat.le_trans h.2.1 hm,fun r hr=>(h.2.2 r hr).up hm⟩
theorem Ob.Zv.up {o:Ob}{M N:Nat}(h:o.Zv M)(hm:M≤N):o.Zv N:=⟨Nat.le_trans h.1 hm,Nat.le_trans h.2.1 hm,fun t ht=>(h.2.2 t ht).up hm⟩
theorem Ro.Zv.up {r:Ro}{M N:Nat}(h:r.Zv M)(hm:M≤N):r.Zv N:=⟨Nat.le_trans h.1 hm,Nat.le_trans h.2.1 hm,fun n hn=>Nat.le_trans (h.2.2.1 n hn) hm,fun m hm'=>⟨Nat.le_trans (h.2.2.2 m hm').1 hm,Nat.le_trans (h.2.2.2 m hm').2 hm⟩⟩
theorem Ca.Zv.up {c:Ca}{M N:Nat}(h:c.Zv M)(hm:M≤N):c.Zv N:=⟨Ob.Zv.up h.1 hm,Ro.Zv.up h.2.1 hm,Nat.le_trans h.2.2 hm⟩
theorem UK {o:Ob}{i:Nat}{t:Tb}{M:Nat}(ho:o.Zv M)(ht:t.Zv M):(UJ o i t).Zv M:=by
 refine⟨ho.1,by simpa [UJ] using ho.2.1,fun y hy=> ?_⟩
 rcases List.mem_or_eq_of_mem_set hy with h | h
 ·exact ho.2.2 y h
 ·rw [h];exact ht
theorem WX {o:Ob}{M i:Nat}(ho:o.Zv M)(hi:i<o.Z7.length):(o.Z7[i]).Zv M:=ho.2.2 _ (List.getElem_mem hi)
theorem La {o o':Ob}{x:Cm}{M:Nat}(ho:o.Zv 64)(hM:65≤M)(hx:x.Zv M)(h:Jr o x 0 o'):o'.Zv M:=by
 have hoM:=ho.up (show 64≤M by omega);unfold Jr at h;split at h
 ·rcases h with ⟨rfl,_⟩ | ⟨_,_,_,_,_,ss',hp,_,rfl⟩
  ·exact hoM
  ·refine⟨?_,hoM.2⟩
   have:=hp.length_eq;have:=ho.1;simp at*;omega
 split at h
 ·rcases h with ⟨_,rfl⟩ | ⟨_,k,_,_,rfl⟩
  ·exact hoM
  ·exact⟨Nat.le_trans (List.length_eraseIdx_le _ _) hoM.1,hoM.2⟩
 split at h
 ·rcases h with ⟨_,rfl⟩ | ⟨_,_,_,_,_,_,_,_,ts',hp,_,rfl⟩
  ·exact hoM
  ·refine⟨hoM.1,?_,fun y hy=> ?_⟩
   ·have:=hp.length_eq;have:=ho.2.1;simp at*;omega
   ·have:=hp.mem_iff.1 hy;rcases List.mem_append.1 this with h1 | h1
    ·exact hoM.2.2 y h1
    ·rw [List.mem_singleton.1 h1];exact⟨hx.2.2.2.2.2.1,by simp,by simp⟩
 split at h
 ·rcases h with ⟨_,h⟩ | ⟨i,_,h⟩
  ·cases h
  ·rcases h with ⟨_,rfl⟩ | ⟨_,hi,_,_,_,_,rfl⟩
   ·exact hoM
   ·refine UK hoM ⟨?_,(WX hoM hi).2⟩
    have:=(WX ho hi).1;simp
    omega
 split at h
 ·rcases h with ⟨_,h⟩ | ⟨i,_,h⟩
  ·cases h
  ·rcases h with ⟨_,rfl⟩ | ⟨_,hi,k,_,_,_,rfl⟩
   ·exact hoM
   ·exact UK hoM ⟨Nat.le_trans (List.length_eraseIdx_le _ _) (WX hoM hi).1,(WX hoM hi).2⟩
 split at h
 ·rcases h with ⟨_,h⟩ | ⟨i,_,h⟩
  ·cases h
  ·rcases h with ⟨_,rfl⟩ | ⟨_,hi,_,_,_,_,rs',hp,_,rfl⟩
   ·exact hoM
   ·refine UK hoM ⟨(WX hoM hi).1,?_,fun y hy=> ?_⟩
    ·have:=hp.length_eq;have:=(WX ho hi).2.1;simp at*;omega
    ·have:=hp.mem_iff.1 hy;rcases List.mem_append.1 this with h1 | h1
     ·exact(WX hoM hi).2.2 y h1
     ·rw [List.mem_singleton.1 h1];exact hx.2.2.2.2.2.2.1
 ·rcases h with ⟨_,h⟩ | ⟨i,_,h⟩
  ·cases h
  ·rcases h with ⟨_,rfl⟩ | ⟨_,hi,k,_,_,rfl⟩
   ·exact hoM
   ·exact UK hoM ⟨(WX hoM hi).1,Nat.le_trans (List.length_eraseIdx_le _ _) (WX hoM hi).2.1,fun y hy=>(WX hoM hi).2.2 y (List.mem_of_mem_eraseIdx hy)⟩
theorem PJ {o o':Ob}{R:Int→Ob→Prop}(h:Pl o R 0 o'):YT o=true∧R 0 o':=by
 unfold Pl at h;split at h
 ·rename_i h0;obtain⟨o'',h1,h2⟩:=h;simp only [if_true] at h2;rw [h2];exact⟨h0,h1⟩
 ·cases h.1
theorem MV {c c':Ca}{x:Cm}{M:Nat}(hM:512≤M)(hc:c.Zv 256)(hx:x.Zv M)(h:Wd c x 0 c'):c'.Zv M:=by
 have hcM:=Ca.Zv.up hc (show 256≤M by omega);unfold Wd at h;split at h
 ·obtain⟨o',ho,rfl⟩:=h;obtain⟨hk,hr⟩:=PJ ho;refine⟨?_,hcM.2.1,Nat.le_trans (List.length_filter_le _ _) hcM.2.2⟩
  rcases hr with ⟨_,rfl⟩ | ⟨_,i,_,_,rfl⟩
  ·exact hcM.1
  ·exact⟨hcM.1.1,Nat.le_trans (List.length_eraseIdx_le _ _) hcM.1.2.1,fun y hy=>hcM.1.2.2 y (List.mem_of_mem_eraseIdx hy)⟩
 split at h
 ·rcases h with ⟨h,_⟩ | ⟨_,o',ho,rfl⟩
  ·cases h
  ·obtain⟨hk,hr⟩:=PJ ho;refine⟨?_,hcM.2⟩
   rcases hr with ⟨h,_⟩ | ⟨h,h2⟩ | ⟨i,_,_,hi,rfl⟩
   ·cases h
   ·cases h2
   ·exact UK hcM.1 (WX hcM.1 hi)
 split at h
 ·rcases h with h | ⟨_,r',hr,rfl⟩
  ·exact absurd rfl h
  ·exact⟨hcM.1,hr.up hM,hcM.2.2⟩
 split at h
 ·rcases h with h | ⟨_,l,hl,rfl⟩
  ·exact absurd rfl h
  ·refine⟨hcM.1,hcM.2.1,?_⟩
   have:=hc.2.2;show l.length≤M
   omega
 split at h
 ·rcases h with ⟨h,_⟩ | ⟨_,_,rfl⟩
  ·cases h
  ·exact⟨hcM.1,hcM.2.1,Nat.le_trans (List.length_filter_le _ _) hcM.2.2⟩
 split at h
 ·rcases h with h | ⟨_,r',hr,rfl⟩
  ·exact absurd rfl h
  ·exact⟨hcM.1,hr.up hM,hcM.2.2⟩
 ·obtain⟨o',ho,rfl⟩:=h;obtain⟨hk,hr⟩:=PJ ho;exact⟨La (SQ hk) (by omega) hx hr,hcM.2⟩
end Go.Proofs.YtnhmoibjlakhjaaGreat
namespace Go.Proofs.YtnhmoibjlakhjaaGreat
open Lib (hid)
set_option maxRecDepth 100000
set_option maxHeartbeats 16000000
open Go.RowKit
def JD (c:Ca)(x:Cm)(er:Int)(c':Ca):Prop:=
 (Wo c x≠0∧er=Wo c x)∨(Wo c x=0∧er≠0∧ ∃ c1,Wd c x er c1)∨(Wo c x=0∧SN c x=true∧er=92)∨
 (er=0∧Wo c x=0∧SN c x=false∧ ∃ c1 l,Wd c x 0 c1∧l.Perm (WE c1)∧c'=⟨c.ZO+ (if Wq x=true then 1 else 0),c.ZU+1,c1.ob,c1.ro,l⟩)
def JY (c:Ca)(x:Cm)(w:World)(e:Ending)(w':World):Prop:=
 ∃ er c' A',e= .returned (.tuple #[.agg (c'.cs A').toArray,.int .i64 er])∧JD c x er c'∧(er=0→Us w' c' A')∧Below w.heap.size w w'
section
variable {c : Ca} {x : Cm}
theorem Jk (h:XS c≠0):Wo c x=XS c:=by
 unfold Wo;rw [if_pos h];unfold XS at h ⊢;split at h
 ·exact absurd rfl h
 ·rename_i h';rw [if_neg h']
theorem Jj (h1:XS c=0)(h2:UV x=false):Wo c x=90:=by unfold Wo;rw [if_neg (by simp [h1]),if_pos h2]
theorem Ji (h1:XS c=0)(h2:UV x=true)(h3:c.ro.ZW.contains x.ZM=false):Wo c x=71:=by unfold Wo;rw [if_neg (by simp [h1]),if_neg (by simp [h2]),if_pos h3]
theorem Jh (h1:XS c=0)(h2:UV x=true)(h3:c.ro.ZW.contains x.ZM=true)(h4:Wv c x=false):Wo c x=61:=by unfold Wo;rw [if_neg (by simp [h1]),if_neg (by simp [h2]),if_neg (by rw [h3];simp),if_pos h4]
theorem Jg (h1:XS c=0)(h2:UV x=true)(h3:c.ro.ZW.contains x.ZM=true)(h4:Wv c x=true)(h5:Wu c x≠0):Wo c x=Wu c x:=by unfold Wo;rw [if_neg (by simp [h1]),if_neg (by simp [h2]),if_neg (by rw [h3];simp),if_neg (by simp [h4]),if_pos h5]
theorem pre6 (h1:XS c=0)(h2:UV x=true)(h3:c.ro.ZW.contains x.ZM=true)(h4:Wv c x=true)(h5:Wu c x=0)(h6:WG c x=false):Wo c x=91:=by unfold Wo;rw [if_neg (by simp [h1]),if_neg (by simp [h2]),if_neg (by rw [h3];simp),if_neg (by simp [h4]),if_neg (by simp [h5]),if_pos h6]
theorem IL (h1:XS c=0)(h2:UV x=true)(h3:c.ro.ZW.contains x.ZM=true)(h4:Wv c x=true)(h5:Wu c x=0)(h6:WG c x=true):Wo c x=0:=by unfold Wo;rw [if_neg (by simp [h1]),if_neg (by simp [h2]),if_neg (by rw [h3];simp),if_neg (by simp [h4]),if_neg (by simp [h5]),if_neg (by simp [h6])]
theorem Ks (h:UV x=true)(h5:x.ZQ=5):x.ZX.length=1:=by
 unfold UV RE at h;rw [if_neg (by omega),if_pos h5] at h;simp only [Bool.and_eq_true,beq_iff_eq] at h;exact h.2.2
theorem My (h2:UV x=true)(h4:Wv c x=true)(hb:Sg x.ZQ=1):(c.ob.Z4.any fun s=>s.name == x.Z8)=true:=by
 have hk:x.ZQ=2∨x.ZQ=3:=by
  unfold Sg at hb;split at hb
  ·assumption
  ·split at hb
   ·cases hb
   ·split at hb <;> cases hb
 have hs:x.Z8≠ []:=by
  unfold UV Ri at h2;simp only [Bool.and_eq_true] at h2;have h3:=h2.1.2.1.1.1;have hu:(VS x.ZQ).1=true:=by rcases hk with h | h <;> rw [h] <;> rfl
  rw [hu] at h3;intro e;rw [e] at h3
  cases h3
 have h1:x.ZQ≠1:=by omega
 unfold Wv at h4;simpa [hs,h1] using h4
theorem Kp (h:false=(!(x.Z8 == []) && !(x.ZQ == 1))):Wv c x=true:=by
 unfold Wv
 cases h1:(x.Z8 == []) <;> cases h2:(x.ZQ == 1) <;> rw [h1,h2] at h <;> first | rfl | cases h
theorem Ko (h:true=(!(x.Z8 == []) && !(x.ZQ == 1))):Wv c x=c.ob.Z4.any fun s=>s.name == x.Z8:=by
 unfold Wv
 cases h1:(x.Z8 == []) <;> cases h2:(x.ZQ == 1) <;> rw [h1,h2] at h <;> first | rfl | cases h
theorem Km (h:false=(!(x.ZY == []) && !(x.ZQ == 3))):Wu c x=0:=by
 unfold Wu
 cases h1:(x.ZY == []) with
 | true=>rw [if_pos (Or.inl (by simpa using h1))]
 | false=>
  cases h2:(x.ZQ == 3) with
  | true=>rw [if_pos (Or.inr (by simpa using h2))]
  | false=>rw [h1,h2] at h;cases h
theorem Kl (h:true=(!(x.ZY == []) && !(x.ZQ == 3))):Wu c x=QW c.ob x.Z8 x.ZY:=by
 unfold Wu
 cases h1:(x.ZY == []) with
 | true=>rw [h1] at h;cases h
 | false=>
  cases h2:(x.ZQ == 3) with
  | true=>rw [h1,h2] at h;cases h
  | false=>rw [if_neg (by rintro(h3 | h3) <;> simp_all)];rfl
theorem KE {c1:Ca}(h:Wd c x 0 c1):c1.ZO=c.ZO∧c1.ZU=c.ZU:=by
 unfold Wd at h;split at h
 ·obtain⟨_,_,rfl⟩:=h;exact⟨rfl,rfl⟩
 split at h
 ·rcases h with ⟨h,_⟩ | ⟨_,_,_,rfl⟩
  ·cases h
  ·exact⟨rfl,rfl⟩
 split at h
 ·rcases h with h | ⟨_,_,_,rfl⟩
  ·exact absurd rfl h
  ·exact⟨rfl,rfl⟩
 split at h
 ·rcases h with h | ⟨_,_,_,rfl⟩
  ·exact absurd rfl h
  ·exact⟨rfl,rfl⟩
 split at h
 ·rcases h with ⟨h,_⟩ | ⟨_,_,rfl⟩
  ·cases h
  ·exact⟨rfl,rfl⟩
 split at h
 ·rcases h with h | ⟨_,_,_,rfl⟩
  ·exact absurd rfl h
  ·exact⟨rfl,rfl⟩
 ·obtain⟨_,_,rfl⟩:=h;exact⟨rfl,rfl⟩
end
theorem S5 {P:Program}{fn:Func}{t u:Tmp}{ty ty2:TypeId}(h:fn.results= #[.cell t ty,.cell u ty2])(tmps:Array Value)(w:World)(b b2:Nat)(hb:tmps.getD t undef= .pointer (some ⟨b,0,none⟩))(hb2:tmps.getD u undef= .pointer (some ⟨b2,0,none⟩))
  {t':TypeId} {cs:List Value} {v:Value} (hB:Hid (ZP w b t' cs)) {n:Nat} (hn:cs.length=n) {d:TypeDesc} (hu:P.underlying ty=some d) (hd:d.isRow=true) (hi:Hid ((P.info? ty).map (·.size)=some n))
  (hl2:(loadVar ty2 ⟨b2,0,none⟩).run P w= .ok v w):(results fn tmps).run P w= .ok (.tuple #[.agg cs.toArray,v]) w:=by
 have hl:=run_loadVar_mid w b 0 ty cs d hB.out.YQ hu hd (hn▸hi.out);have hb':tmps[t]?.getD undef= .pointer (some ⟨b,0,none⟩):=by simpa using hb
 have hb2':tmps[u]?.getD undef= .pointer (some ⟨b2,0,none⟩):=by simpa using hb2
 simp [results,h,hb',hl,hb2',hl2,asAddr]
theorem Ue (w:World)(b:Nat)(E:Int)(h:w.cell? ⟨b,0,none⟩=some (.int .i64 E)):(loadVar 45 ⟨b,0,none⟩).run Tryz.prog w= .ok (.int .i64 E) w:=by
 simp [go_sem,h]
theorem Yc (tmps:Array Value)(R:Ending→World→Prop)(base b2 b3:Nat)(E:Int)(vs:List Value)(xv:Int)(W:World){fv:Fn}{cap dargs:Array Value}
  (h4:tmps.getD 4 undef= .pointer (some ⟨b2,0,none⟩)) (h5:tmps.getD 5 undef= .pointer (some ⟨b3,0,none⟩)) (hi:(invoke (.fn fv cap) dargs).run Tryz.prog W= .ok (.enter 25 #[.pointer (some ⟨b2,0,none⟩),.pointer (some ⟨b3,0,none⟩)]) W)
  (hQ:Hid (ZP W b2 33 vs)) (hl:vs.length=7) (hH:Hid (ZP W b3 45 [.int .i64 xv])) (hb2:base≤b2) (hb3:base≤b3) (hne:b2≠b3)
  (hR: ∀ w',Below base W w'→R (.returned (.tuple #[.agg (Ca.zero.cs WV.zero).toArray,.int .i64 E])) w'):
  Leaves Tryz.prog Tryz.f9 tmps R [{ target:= .fn fv cap,args:=dargs}] (.panicking (TH E)) W:=by
 have HI7:=iN 33 7;refine leaves_cons (f:=25) (args:= #[.pointer (some ⟨b2,0,none⟩),.pointer (some ⟨b3,0,none⟩)]) (by simp) hi ?_
 refine(MA base b2 b3 E vs xv W hQ.out hl hH.out hb2 hb3 hne).mono ?_
 rintro e u' w' ⟨rfl,rfl,hB,hE,hb⟩;refine⟨_,S5 Tryz.results9 tmps w' b2 b3 h4 h5 (hid hB) rfl Tryz.underlying33 rfl HI7 (Ue w' b3 E (hE.cell 0)),hR w' hb⟩
theorem LE (w:World)(a b d e:List Value)(t u v y:TypeId)(W:World)(hW:W=(((w.alloc (.cells a.toArray t)).alloc (.cells b.toArray u)).alloc (.cells d.toArray v)).alloc (.cells e.toArray y)):
  ZP W w.heap.size t a∧ZP W (w.heap.size+1) u b∧ZP W (w.heap.size+1+1) v d∧ZP W (w.heap.size+1+1+1) y e∧Below w.heap.size w W:=by
 subst hW;have s1:(w.alloc (.cells a.toArray t)).heap.size=w.heap.size+1:=by simp
 have s2:((w.alloc (.cells a.toArray t)).alloc (.cells b.toArray u)).heap.size=w.heap.size+1+1:=by simp
 have s3:(((w.alloc (.cells a.toArray t)).alloc (.cells b.toArray u)).alloc (.cells d.toArray v)).heap.size=w.heap.size+1+1+1:=by simp
 refine⟨(((ZP.new w t a).alloc _).alloc _).alloc _,?_,?_,?_,?_⟩
 ·have h:=((ZP.new (w.alloc (.cells a.toArray t)) u b).alloc (.cells d.toArray v)).alloc (.cells e.toArray y);rwa [s1] at h
 ·have h:=(ZP.new ((w.alloc (.cells a.toArray t)).alloc (.cells b.toArray u)) v d).alloc (.cells e.toArray y);rwa [s2] at h
 ·have h:=ZP.new (((w.alloc (.cells a.toArray t)).alloc (.cells b.toArray u)).alloc (.cells d.toArray v)) y e;rwa [s3] at h
 ·exact(((br.alloc lr _).alloc (by omega) _).alloc (by omega) _).alloc (by omega) _
theorem WS (c:Ca)(A:WV)(x:Cm)(X:Option Addr)(k:Nat)(Y:Option Addr)(n:Nat)(w:World)(hc:VJ w w.heap.size c A)(ht:c.Zv 1099511627776)
  (hX:ZV w (· < w.heap.size) Zl (x.ZX.map Cl.da) X) (hY:ZV w (· < w.heap.size) [.Z9] (YU x.ZZ.ZX) Y) (hx:x.Zv 549755813888) (hbd:QJ x.ZZ):
  Calls Tryz.prog 9 #[.agg (c.cs A).toArray,.agg (x.cs X k Y n).toArray] w (JY c x w):=by
 have HC:=hid hc;have HTm:=hid ht;have HX:=hid hX;have HY:=hid hY;have HXs:=hid hx;have HXt:Hid (x.Zv 1099511627776):=hid ⟨Nat.le_trans hx.1 (by omega),Nat.le_trans hx.2.1 (by omega),Nat.le_trans hx.2.2.1 (by omega),Nat.le_trans hx.2.2.2.1 (by omega),Nat.le_trans hx.2.2.2.2.1 (by omega),Nat.le_trans hx.2.2.2.2.2.1 (by omega),hx.2.2.2.2.2.2.1.up (by omega),Nat.le_trans hx.2.2.2.2.2.2.2 (by omega)⟩;have HBd:=hid hbd;have HI7:=iN 33 7;have HI17:=iN 43 17;clear hc ht hX hY hx hbd;obtain⟨W4,hW4⟩: ∃ W4,W4=((((w.alloc (.cells #[.int .i64 c.ZO,.int .i64 c.ZU,.slice A.a0 c.ob.Z4.length A.k0,.slice A.a1 c.ob.Z7.length A.k1,.slice A.a2 c.ro.ZW.length A.k2,.slice A.a3 c.ro.Z2.length A.k3,.slice A.a4 c.Z3.length A.k4] 33)).alloc (.cells #[.int .i64 x.ZQ,.string (Z9 x.ZM),.string (Z9 x.Z8),.string (Z9 x.ZY),.string (Z9 x.name),.string (Z9 x.ZT),.slice X x.ZX.length k,.string (Z9 x.ZZ.name),.int .i64 x.ZZ.ZQ,.slice Y x.ZZ.ZX.length n,.int .i64 x.ZZ.low,.int .i64 x.ZZ.ZF,.string (Z9 x.ZZ.Z8),.string (Z9 x.ZZ.ZY),.string (Z9 x.ZZ.key),.int .i64 x.right,.bool x.Zz] 43)).alloc (.cells #[.int .i64 0,.int .i64 0,.slice none 0 0,.slice none 0 0,.slice none 0 0,.slice none 0 0,.slice none 0 0] 33)).alloc (.cells #[.int .i64 0] 45)):=⟨_,rfl⟩
 obtain⟨p0,x0,q0,e0,hb⟩:=LE w _ _ _ _ _ _ _ _ W4 hW4;have P0:=hid p0;have X0:=hid x0;have Q0:=hid q0;have E0:=hid e0;have HB0:=hid hb;clear p0 x0 q0 e0 hb;unfold Cm.cs Ca.cs;go_enter_defers Tryz.func9,Tryz.ntmps9
 go_wp2_with (first | (refine lO P0 HI7 Tryz.underlying33 ?_) | fail);try (rw [←hW4])
 clear hW4;have HCk:Hid (VJ W4 W4.heap.size c A):=hid (HC.out.later HB0.out);have cC:=NZ c A W4 HCk.out HTm.out;unfold Ca.cs at cC;refine cC.mono ?_
 rintro e W5 ⟨rfl,hb⟩;clear cC;have P1:=bl P0 hb;have X1:=bl X0 hb;have Q1:=bl Q0 hb;have E1:=bl E0 hb;have HB1:=bt HB0 hb;clear hb P0 X0 Q0 E0 HB0;have P0:=P1;have X0:=X1;have Q0:=Q1;have E0:=E1;have HB0:=HB1;clear P1 X1 Q1 E1 HB1;clear HCk;by_cases h1:XS c=0
 case neg=>
  go_wp2_with fail;have cM:=Y3 (XS c) W5;rw [if_neg h1] at cM;refine cM.mono ?_
  rintro e W9 ⟨rfl,rfl⟩;refine Yc _ _ w.heap.size (w.heap.size+1+1) (w.heap.size+1+1+1) (XS c) _ 0 _ (by simp) (by simp) (by simp [go_sem]) Q0 rfl E0 (by omega) (by omega) (by omega) (fun w' hb'=> ?_)
  exact⟨XS c,Ca.zero,WV.zero,rfl,Or.inl ⟨by rw [Jk h1];exact h1,(Jk h1).symm⟩,fun h=>absurd h h1,HB0.out.trans hb'⟩
 rw [h1];have H1:=hid h1;go_wp2_with fail;have cM:=Y3 0 W5;rw [if_pos rfl] at cM;refine cM.mono ?_
 rintro e W6 ⟨rfl,rfl⟩;clear cM h1;go_wp2_with (first | (refine lO X0 HI17 Tryz.underlying43 ?_) | fail);have cY:=KS x X k Y n W6 HXt.out;unfold Cm.cs at cY;refine cY.mono ?_
 rintro e W7 ⟨rfl,hb⟩;clear cY;have P1:=bl P0 hb;have X1:=bl X0 hb;have Q1:=bl Q0 hb;have E1:=bl E0 hb;have HB1:=bt HB0 hb;clear hb P0 X0 Q0 E0 HB0;have P0:=P1;have X0:=X1;have Q0:=Q1;have E0:=E1;have HB0:=HB1;clear P1 X1 Q1 E1 HB1
 cases h2:UV x
 case false=>
  go_wp2_with fail;refine(YD false 90 W7).mono ?_
  rintro e W9 ⟨rfl,rfl⟩;refine Yc _ _ w.heap.size (w.heap.size+1+1) (w.heap.size+1+1+1) 90 _ 0 _ (by simp) (by simp) (by simp [go_sem]) Q0 rfl E0 (by omega) (by omega) (by omega) (fun w' hb'=> ?_)
  exact⟨90,Ca.zero,WV.zero,rfl,Or.inl ⟨by rw [Jj H1.out h2];decide,(Jj H1.out h2).symm⟩,fun h=>absurd h (by decide),HB0.out.trans hb'⟩
 have H2:=hid h2;clear h2;go_wp2_with fail;refine(YD true 90 W7).mono ?_
 rintro e W8 ⟨rfl,rfl⟩;have q4:=ce P0 4;have r1:=ce X0 1;have hnl:=HTm.out.2.1.1;go_wp2_with fail;refine(Zn c.ro.ZW A.a2 A.k2 x.ZM W8 (HC.out.later HB0.out).nm hnl).mono ?_
 rintro e W10 ⟨rfl,rfl⟩;clear q4 r1
 cases h3:c.ro.ZW.contains x.ZM
 case false=>
  go_wp2_with fail;refine(YD false 71 W10).mono ?_
  rintro e W9 ⟨rfl,rfl⟩;refine Yc _ _ w.heap.size (w.heap.size+1+1) (w.heap.size+1+1+1) 71 _ 0 _ (by simp) (by simp) (by simp [go_sem]) Q0 rfl E0 (by omega) (by omega) (by omega) (fun w' hb'=> ?_)
  exact⟨71,Ca.zero,WV.zero,rfl,Or.inl ⟨by rw [Ji H1.out H2.out h3];decide,(Ji H1.out H2.out h3).symm⟩,fun h=>absurd h (by decide),HB0.out.trans hb'⟩
 have H3:=hid h3;clear h3;go_wp2_with fail;refine(YD true 71 W10).mono ?_
 rintro e W11 ⟨rfl,rfl⟩;have HS:Hid (Wv c x=(x.Z8 == [] || x.ZQ == 1 || c.ob.Z4.any fun s=>s.name == x.Z8)):=hid rfl;have HNT:Hid (Wu c x=if x.ZY= []∨x.ZQ=3 then 0 else QW c.ob x.Z8 x.ZY):=hid rfl;go_upto_region 5 with fail
 have r2:=ce X0 2;have r0:=ce X0 0;go_cut [29] from 6 to 91 (fun v W=> ∃ b,v= .bool b∧Hid (b=(!(x.Z8 == []) && !(x.ZQ == 1)))∧Hid (W=W11))
 case first=>
  cases hs:(x.Z8 == [])
  ·have hs2:x.Z8.isEmpty=false:=by simpa using hs
   have hs3:(x.Z8 != [])=true:=by simpa using hs
   cases hk:(x.ZQ == 1)
   ·have hk2:(x.ZQ != 1)=true:=by simpa using hk
    go_wp2;go_meet
    case rel=>exact⟨true,rfl,hid (by rw [hs,hk];rfl),hid rfl⟩
   ·have hk2:(x.ZQ != 1)=false:=by simpa using hk
    go_wp2;go_meet
    case rel=>exact⟨false,rfl,hid (by rw [hs,hk];rfl),hid rfl⟩
  ·have hs2:x.Z8.isEmpty=true:=by simpa using hs
   have hs3:(x.Z8 != [])=false:=by simpa using hs
   go_wp2;go_meet
   case rel=>exact⟨false,rfl,hid (by rw [hs];rfl),hid rfl⟩
 case rest=>
 clear r2 r0;obtain⟨b,rfl,HCb,HWw⟩:=hcut;have hWw:=HWw.out;subst hWw;clear HWw;go_upto_if 29 with fail
 go_cut [] from 6 to 91 (fun W=>Hid (ZP W w.heap.size 33 [.int .i64 c.ZO,.int .i64 c.ZU,.slice A.a0 c.ob.Z4.length A.k0,.slice A.a1 c.ob.Z7.length A.k1,.slice A.a2 c.ro.ZW.length A.k2,.slice A.a3 c.ro.Z2.length A.k3,.slice A.a4 c.Z3.length A.k4])∧Hid (ZP W (w.heap.size+1) 43 [.int .i64 x.ZQ,.string (Z9 x.ZM),.string (Z9 x.Z8),.string (Z9 x.ZY),.string (Z9 x.name),.string (Z9 x.ZT),.slice X x.ZX.length k,.string (Z9 x.ZZ.name),.int .i64 x.ZZ.ZQ,.slice Y x.ZZ.ZX.length n,.int .i64 x.ZZ.low,.int .i64 x.ZZ.ZF,.string (Z9 x.ZZ.Z8),.string (Z9 x.ZZ.ZY),.string (Z9 x.ZZ.key),.int .i64 x.right,.bool x.Zz])∧Hid (ZP W (w.heap.size+1+1) 33 [.int .i64 0,.int .i64 0,.slice none 0 0,.slice none 0 0,.slice none 0 0,.slice none 0 0,.slice none 0 0])∧Hid (ZP W (w.heap.size+1+1+1) 45 [.int .i64 0])∧Hid (Below w.heap.size w W)∧Hid (Wv c x=true))
 case first=>
  cases b
  ·go_wp2;go_meet
   case rel=>exact⟨P0,X0,Q0,E0,HB0,hid (Kp HCb.out)⟩
  ·have HSx:Hid (Wv c x=c.ob.Z4.any fun s=>s.name == x.Z8):=hid (Ko HCb.out);clear HS HCb;have q2:=ce P0 2;have hsl:=HTm.out.1.1;go_wp2_with fail;have cH:=NO c.ob.Z4 A.a0 A.k0 (w.heap.size+1) x.Z8 wc (HC.out.later HB0.out).sc hsl X0.out rfl;refine cH.mono ?_
   rintro e W12 ⟨rfl,hb⟩;clear cH q2;have P1:=bl P0 hb;have X1:=bl X0 hb;have Q1:=bl Q0 hb;have E1:=bl E0 hb;have HB1:=bt HB0 hb;clear hb P0 X0 Q0 E0 HB0;have P0:=P1;have X0:=X1;have Q0:=Q1;have E0:=E1;have HB0:=HB1;clear P1 X1 Q1 E1 HB1;rw [←HSx.out]
   cases h4:Wv c x
   case false=>
    go_wp2_with fail;refine(YD false 61 W12).mono ?_
    rintro e W9 ⟨rfl,rfl⟩;refine Yc _ _ w.heap.size (w.heap.size+1+1) (w.heap.size+1+1+1) 61 _ 0 _ (by simp) (by simp) (by simp [go_sem]) Q0 rfl E0 (by omega) (by omega) (by omega) (fun w' hb'=> ?_)
    exact⟨61,Ca.zero,WV.zero,rfl,Or.inl ⟨by rw [Jh H1.out H2.out H3.out h4];decide,(Jh H1.out H2.out H3.out h4).symm⟩,fun h=>absurd h (by decide),HB0.out.trans hb'⟩
   have H4:=hid h4;clear h4;go_wp2_with fail;refine(YD true 61 W12).mono ?_
   rintro e W13 ⟨rfl,rfl⟩;go_wp2;go_meet
   case rel=>exact⟨P0,X0,Q0,E0,HB0,H4⟩
 case rest=>
 clear HS HCb P0 X0 Q0 E0 HB0;obtain⟨P0,X0,Q0,E0,HB0,H4⟩:=hcut;generalize wc=W14 at*;go_upto_region 7 with fail
 have r2:=ce X0 3;have r0:=ce X0 0;go_cut [43] from 6 to 91 (fun v W=> ∃ b,v= .bool b∧Hid (b=(!(x.ZY == []) && !(x.ZQ == 3)))∧Hid (W=W14))
 case first=>
  cases hs:(x.ZY == [])
  ·have hs2:x.ZY.isEmpty=false:=by simpa using hs
   have hs3:(x.ZY != [])=true:=by simpa using hs
   cases hk:(x.ZQ == 3)
   ·have hk2:(x.ZQ != 3)=true:=by simpa using hk
    go_wp2;go_meet
    case rel=>exact⟨true,rfl,hid (by rw [hs,hk];rfl),hid rfl⟩
   ·have hk2:(x.ZQ != 3)=false:=by simpa using hk
    go_wp2;go_meet
    case rel=>exact⟨false,rfl,hid (by rw [hs,hk];rfl),hid rfl⟩
  ·have hs2:x.ZY.isEmpty=true:=by simpa using hs
   have hs3:(x.ZY != [])=false:=by simpa using hs
   go_wp2;go_meet
   case rel=>exact⟨false,rfl,hid (by rw [hs];rfl),hid rfl⟩
 case rest=>
 clear r2 r0;obtain⟨b,rfl,HCb,HWw⟩:=hcut;have hWw:=HWw.out;subst hWw;clear HWw;go_upto_if 43 with fail
 go_cut [] from 6 to 91 (fun W=>Hid (ZP W w.heap.size 33 [.int .i64 c.ZO,.int .i64 c.ZU,.slice A.a0 c.ob.Z4.length A.k0,.slice A.a1 c.ob.Z7.length A.k1,.slice A.a2 c.ro.ZW.length A.k2,.slice A.a3 c.ro.Z2.length A.k3,.slice A.a4 c.Z3.length A.k4])∧Hid (ZP W (w.heap.size+1) 43 [.int .i64 x.ZQ,.string (Z9 x.ZM),.string (Z9 x.Z8),.string (Z9 x.ZY),.string (Z9 x.name),.string (Z9 x.ZT),.slice X x.ZX.length k,.string (Z9 x.ZZ.name),.int .i64 x.ZZ.ZQ,.slice Y x.ZZ.ZX.length n,.int .i64 x.ZZ.low,.int .i64 x.ZZ.ZF,.string (Z9 x.ZZ.Z8),.string (Z9 x.ZZ.ZY),.string (Z9 x.ZZ.key),.int .i64 x.right,.bool x.Zz])∧Hid (ZP W (w.heap.size+1+1) 33 [.int .i64 0,.int .i64 0,.slice none 0 0,.slice none 0 0,.slice none 0 0,.slice none 0 0,.slice none 0 0])∧Hid (ZP W (w.heap.size+1+1+1) 45 [.int .i64 0])∧Hid (Below w.heap.size w W)∧Hid (Wu c x=0))
 case first=>
  cases b
  ·go_wp2;go_meet
   case rel=>exact⟨P0,X0,Q0,E0,HB0,hid (Km HCb.out)⟩
  ·have HSx:Hid (Wu c x=QW c.ob x.Z8 x.ZY):=hid (Kl HCb.out);clear HNT HCb;have q2:=ce P0 2;have q3:=ce P0 3;have r2:=ce X0 2;have r3:=ce X0 3;go_wp2_with fail;refine(ON c.ob A.a0 A.k0 A.a1 A.k1 x.Z8 x.ZY wc (HC.out.later HB0.out).sc (HC.out.later HB0.out).tb HTm.out.1).mono ?_
   rintro e W15 ⟨t',X',k',Y',n',er,rfl,her,hb,_⟩;clear q2 q3 r2 r3;have HEr:Hid (er=Wu c x):=hid (her.trans HSx.out.symm);clear her;unfold Tb.cs;have P1:=bl P0 hb;have X1:=bl X0 hb;have Q1:=bl Q0 hb;have E1:=bl E0 hb;have HB1:=bt HB0 hb;clear hb P0 X0 Q0 E0 HB0;have P0:=P1;have X0:=X1;have Q0:=Q1;have E0:=E1;have HB0:=HB1;clear P1 X1 Q1 E1 HB1;go_wp2_with fail;refine Zm _ fun W16 hW=> ?_
   have HB16:Hid (Below W15.heap.size W15 W16):=hid (by rw [hW];repeat (first | exact Below.refl _ _ | refine Below.setCell ?_ lr _ | refine Below.alloc ?_ lr _));clear hW;have hb:=HB16.out;clear HB16;have P1:=bl P0 hb;have X1:=bl X0 hb;have Q1:=bl Q0 hb;have E1:=bl E0 hb;have HB1:=bt HB0 hb;clear hb P0 X0 Q0 E0 HB0;have P0:=P1;have X0:=X1;have Q0:=Q1;have E0:=E1;have HB0:=HB1;clear P1 X1 Q1 E1 HB1;by_cases h5:er=0
   case neg=>
    have cM:=Y3 er W16;rw [if_neg h5] at cM;refine cM.mono ?_
    rintro e W9 ⟨rfl,rfl⟩;have h5':Wu c x≠0:=by rw [←HEr.out];exact h5
    refine Yc _ _ w.heap.size (w.heap.size+1+1) (w.heap.size+1+1+1) er _ 0 _ (by simp) (by simp) (by simp [go_sem]) Q0 rfl E0 (by omega) (by omega) (by omega) (fun w' hb'=> ?_)
    exact⟨er,Ca.zero,WV.zero,rfl,Or.inl ⟨by rw [Jg H1.out H2.out H3.out H4.out h5'];exact h5',by rw [Jg H1.out H2.out H3.out H4.out h5',HEr.out]⟩,fun h=>absurd h h5,HB0.out.trans hb'⟩
   subst h5;have cM:=Y3 0 W16;rw [if_pos rfl] at cM;refine cM.mono ?_
   rintro e W17 ⟨rfl,rfl⟩;clear cM;go_wp2;go_meet
   case rel=>exact⟨P0,X0,Q0,E0,HB0,hid HEr.out.symm⟩
 case rest=>
 clear HNT HCb P0 X0 Q0 E0 HB0;obtain⟨P0,X0,Q0,E0,HB0,H5⟩:=hcut;generalize wc=W18 at*;go_wp2_with (first | (refine lO P0 HI7 Tryz.underlying33 ?_) | (refine lO X0 HI17 Tryz.underlying43 ?_) | fail);have cA:=O9 c A x X k Y n W18 (HC.out.later HB0.out) HTm.out (My H2.out H4.out);unfold Ca.cs Cm.cs at cA;refine cA.mono ?_
 rintro e W19 ⟨rfl,hb⟩;clear cA;have P1:=bl P0 hb;have X1:=bl X0 hb;have Q1:=bl Q0 hb;have E1:=bl E0 hb;have HB1:=bt HB0 hb;clear hb P0 X0 Q0 E0 HB0;have P0:=P1;have X0:=X1;have Q0:=Q1;have E0:=E1;have HB0:=HB1;clear P1 X1 Q1 E1 HB1
 cases h6:WG c x
 case false=>
  go_wp2_with fail;refine(YD false 91 W19).mono ?_
  rintro e W9 ⟨rfl,rfl⟩;refine Yc _ _ w.heap.size (w.heap.size+1+1) (w.heap.size+1+1+1) 91 _ 0 _ (by simp) (by simp) (by simp [go_sem]) Q0 rfl E0 (by omega) (by omega) (by omega) (fun w' hb'=> ?_)
  exact⟨91,Ca.zero,WV.zero,rfl,Or.inl ⟨by rw [pre6 H1.out H2.out H3.out H4.out H5.out h6];decide,(pre6 H1.out H2.out H3.out H4.out H5.out h6).symm⟩,fun h=>absurd h (by decide),HB0.out.trans hb'⟩
 have HPre:Hid (Wo c x=0):=hid (IL H1.out H2.out H3.out H4.out H5.out h6);clear h6;go_wp2_with fail;refine(YD true 91 W19).mono ?_
 rintro e W20 ⟨rfl,rfl⟩;go_wp2_with (first | (refine lO P0 HI7 Tryz.underlying33 ?_) | fail);have cO:=LI c A W20 (HC.out.later HB0.out) HTm.out;unfold Ca.cs at cO;refine cO.mono ?_
 rintro e W21 ⟨A1,rfl,hT,hb⟩;have HT1:=hid hT;clear cO hT;have P1:=bl P0 hb;have X1:=bl X0 hb;have Q1:=bl Q0 hb;have E1:=bl E0 hb;have HB1:=bt HB0 hb;clear hb P0 X0 Q0 E0 HB0;have P0:=P1;have X0:=X1;have Q0:=Q1;have E0:=E1;have HB0:=HB1;clear P1 X1 Q1 E1 HB1;go_wp2_with (first | ((with_reducible refine ZD rfl 33 _ _ rfl (w.heap.size+1+1) (Ca.cs c A1) rfl rfl Q0 (n:=7) rfl rfl HI7 (by simp [Ca.cs,Value.oneCell']) ?_);intro W22 U;have X1:=hid (U.out.other X0.out (by omega))) | (refine lO X1 HI17 Tryz.underlying43 ?_) | fail);have P1:=hid (U.out.other P0.out (by omega));have E1:=hid (U.out.other E0.out (by omega));have HB1:Hid (Below w.heap.size w W22):=hid (U.out.below HB0.out (by omega));have Q1:=hid U.out.X8;have HT2:=hid (HT1.out.keeps U.out.keeps (by decide));have hqz:=Q1.out.lt;clear U P0 X0 Q0 E0 HB0 HT1;have cD:=IS c A1 x X k Y n (w.heap.size+1+1) W22 Q1.out HT2.out HTm.out (HX.out.later HB1.out) (HY.out.later HB1.out) HXt.out HBd.out (Ks H2.out);unfold Cm.cs at cD;refine cD.mono ?_
 rintro e W23 ⟨hbx,hd⟩;clear cD;have P0:=hid (hbx.X8 P1.out P1.out.lt (fun q=>by injection q with q;omega))
 have X0:=hid (hbx.X8 X1.out X1.out.lt (fun q=>by injection q with q;omega));have E0:=hid (hbx.X8 E1.out E1.out.lt (fun q=>by injection q with q;omega))
 have HB0:Hid (Below w.heap.size w W23):=hid (HB1.out.trans (hbx.low (by omega) (fun q hq=>by injection hq with hq;omega)));clear hbx P1 X1 E1 HB1 Q1 HT2 hqz;rcases hd with ⟨c1,A2,rfl,hR,hB,hT⟩ | ⟨E,c1,h0,rfl,hR,vs,hB,hvl⟩
 case inr=>
  have QE:=hid hB;refine Yc _ _ w.heap.size (w.heap.size+1+1) (w.heap.size+1+1+1) E vs 0 _ (by simp) (by simp) (by simp [go_sem]) QE hvl E0 (by omega) (by omega) (by omega) (fun w' hb'=> ?_)
  exact⟨E,Ca.zero,WV.zero,rfl,Or.inr (Or.inl ⟨HPre.out,h0,c1,hR⟩),fun h=>absurd h h0,HB0.out.trans hb'⟩
 have HR:=hid hR;have Q0:=hid hB;have HT1:=hid hT;have hkp:=KE hR;clear hR hB hT;obtain⟨ep1,ver1,ob1,ro1,gr1⟩:=c1;dsimp only at hkp;obtain⟨rfl,rfl⟩:=hkp;have HTm1:Hid ((⟨c.ZO,c.ZU,ob1,ro1,gr1⟩:Ca).Zv 1099511627776):=hid (Ca.Zv.up (MV (M:=549755813888) (by omega) (SH (Vf (Ws H1.out).1).1) HXs.out HR.out) (by omega));obtain⟨_,hep0,hep1,hve0,hve1⟩:=Ws H1.out;have HFu:Hid (SN c x= !(decide (c.ZU<1000000000) && (!Wq x || decide (c.ZO<1000)))):=hid rfl;obtain⟨fx,hfx⟩: ∃ fx,fx=Wq x:=⟨_,rfl⟩
 rw [←hfx] at HFu;have HFx:=hid hfx;have cF:Hid (∀ W,Calls Tryz.prog 36 #[.agg #[.int .i64 x.ZQ,.string (Z9 x.ZM),.string (Z9 x.Z8),.string (Z9 x.ZY),.string (Z9 x.name),.string (Z9 x.ZT),.slice X x.ZX.length k,.string (Z9 x.ZZ.name),.int .i64 x.ZZ.ZQ,.slice Y x.ZZ.ZX.length n,.int .i64 x.ZZ.low,.int .i64 x.ZZ.ZF,.string (Z9 x.ZZ.Z8),.string (Z9 x.ZZ.ZY),.string (Z9 x.ZZ.key),.int .i64 x.right,.bool x.Zz]] W fun e w'=>e= .returned (.bool fx)∧Below W.heap.size W w'):=hid (fun W=>by rw [hfx];exact NV x X k Y n W);clear hfx;have v1:=ce P0 1;have v0:=ce P0 0;by_cases hv:c.ZU<1000000000
 case neg=>
  have HFull:Hid (SN c x=true):=hid (by rw [HFu.out];simp [hv]);clear HFu;go_wp2_with fail;refine(YD false 92 W23).mono ?_
  rintro e W9 ⟨rfl,rfl⟩;refine Yc _ _ w.heap.size (w.heap.size+1+1) (w.heap.size+1+1+1) 92 _ 0 _ (by simp) (by simp) (by simp [go_sem]) Q0 rfl E0 (by omega) (by omega) (by omega) (fun w' hb'=> ?_)
  exact⟨92,Ca.zero,WV.zero,rfl,Or.inr (Or.inr (Or.inl ⟨HPre.out,HFull.out,rfl⟩)),fun h=>absurd h (by decide),HB0.out.trans hb'⟩
 cases fx
 ·have xq0:=ce X0 0;have xq1:=ce X0 1;have xq2:=ce X0 2;have xq3:=ce X0 3;have xq4:=ce X0 4;have xq5:=ce X0 5;have xq6:=ce X0 6;have xq7:=ce X0 7;have xq8:=ce X0 8;have xq9:=ce X0 9;have xq10:=ce X0 10;have xq11:=ce X0 11;have xq12:=ce X0 12;have xq13:=ce X0 13;have xq14:=ce X0 14;have xq15:=ce X0 15;have xq16:=ce X0 16;go_wp2_with fail;clear xq0 xq1 xq2 xq3 xq4 xq5 xq6 xq7 xq8 xq9 xq10 xq11 xq12 xq13 xq14 xq15 xq16;refine(cF.out _).mono ?_
  rintro e W24 ⟨rfl,hb⟩;have HT2:=hid (HT1.out.later hb);clear HT1;have HT1:=HT2;clear HT2 v0 v1;have P1:=bl P0 hb;have X1:=bl X0 hb;have Q1:=bl Q0 hb;have E1:=bl E0 hb;have HB1:=bt HB0 hb;clear hb P0 X0 Q0 E0 HB0;have P0:=P1;have X0:=X1;have Q0:=Q1;have E0:=E1;have HB0:=HB1;clear P1 X1 Q1 E1 HB1;have HFull:Hid (SN c x=false):=hid (by rw [HFu.out];simp [hv]);clear HFu;go_wp2_with fail;refine(YD true 92 W24).mono ?_
  rintro e W25 ⟨rfl,rfl⟩;skip
  go_wp2_with (first | (refine lO Q0 HI7 Tryz.underlying33 ?_) | fail);have cHo:=RK ⟨c.ZO,c.ZU,ob1,ro1,gr1⟩ A2 W25 HT1.out.VF HTm1.out;unfold Ca.cs at cHo;refine cHo.mono ?_
  rintro e W26 ⟨l,B4,l4,rfl,hp,ho,hb⟩;clear cHo;have HPm:=hid hp;have HG1:=hid ho;have HT2:=hid (HT1.out.later hb);clear HT1 hp ho;have P1:=bl P0 hb;have X1:=bl X0 hb;have Q1:=bl Q0 hb;have E1:=bl E0 hb;have HB1:=bt HB0 hb;clear hb P0 X0 Q0 E0 HB0;have P0:=P1;have X0:=X1;have Q0:=Q1;have E0:=E1;have HB0:=HB1;clear P1 X1 Q1 E1 HB1;have Qa:Hid (ZP (W26.setCell ⟨(w.heap.size+1+1),6,none⟩ (.slice B4 l.length l4)) (w.heap.size+1+1) 33 [.int .i64 c.ZO,.int .i64 c.ZU,.slice A2.a0 ob1.Z4.length A2.k0,.slice A2.a1 ob1.Z7.length A2.k1,.slice A2.a2 ro1.ZW.length A2.k2,.slice A2.a3 ro1.Z2.length A2.k3,.slice B4 l.length l4]):=hid (Q0.out.Zx 6 _);have Qb:Hid (ZP ((W26.setCell ⟨(w.heap.size+1+1),6,none⟩ (.slice B4 l.length l4)).setCell ⟨(w.heap.size+1+1),1,none⟩ (.int .i64 (c.ZU+1))) (w.heap.size+1+1) 33 [.int .i64 c.ZO,.int .i64 (c.ZU+1),.slice A2.a0 ob1.Z4.length A2.k0,.slice A2.a1 ob1.Z7.length A2.k1,.slice A2.a2 ro1.ZW.length A2.k2,.slice A2.a3 ro1.Z2.length A2.k3,.slice B4 l.length l4]):=hid (Qa.out.Zx 1 _);have e6:=ce Q0 6;have f6:=Q0.out.frozen 6;have e1:(W26.setCell ⟨(w.heap.size+1+1),6,none⟩ (.slice B4 l.length l4)).cell? ⟨(w.heap.size+1+1),1,none⟩=some (.int .i64 c.ZU):=Qa.out.cell 1;have f1:=Qa.out.frozen 1;have Xb:Hid (ZP ((W26.setCell ⟨(w.heap.size+1+1),6,none⟩ (.slice B4 l.length l4)).setCell ⟨(w.heap.size+1+1),1,none⟩ (.int .i64 (c.ZU+1))) (w.heap.size+1) 43 [.int .i64 x.ZQ,.string (Z9 x.ZM),.string (Z9 x.Z8),.string (Z9 x.ZY),.string (Z9 x.name),.string (Z9 x.ZT),.slice X x.ZX.length k,.string (Z9 x.ZZ.name),.int .i64 x.ZZ.ZQ,.slice Y x.ZZ.ZX.length n,.int .i64 x.ZZ.low,.int .i64 x.ZZ.ZF,.string (Z9 x.ZZ.Z8),.string (Z9 x.ZZ.ZY),.string (Z9 x.ZZ.key),.int .i64 x.right,.bool x.Zz]):=hid ((X0.out.Wx (by dsimp only;omega) _).Wx (by dsimp only;omega) _)
  have Eb:Hid (ZP ((W26.setCell ⟨(w.heap.size+1+1),6,none⟩ (.slice B4 l.length l4)).setCell ⟨(w.heap.size+1+1),1,none⟩ (.int .i64 (c.ZU+1))) (w.heap.size+1+1+1) 45 [.int .i64 0]):=hid ((E0.out.Wx (by dsimp only;omega) _).Wx (by dsimp only;omega) _);have HBb:Hid (Below w.heap.size w ((W26.setCell ⟨(w.heap.size+1+1),6,none⟩ (.slice B4 l.length l4)).setCell ⟨(w.heap.size+1+1),1,none⟩ (.int .i64 (c.ZU+1)))):=hid ((HB0.out.setCell (by dsimp only;omega) _).setCell (by dsimp only;omega) _)
  have HKb:Hid (ZR [33] W26 ((W26.setCell ⟨(w.heap.size+1+1),6,none⟩ (.slice B4 l.length l4)).setCell ⟨(w.heap.size+1+1),1,none⟩ (.int .i64 (c.ZU+1)))):=hid ((ZR.Zx Q0.out.Xr (by simp) _).trans (ZR.Zx (Q0.out.Xr.setCell _ _) (by simp) _));have HTb:=hid (HT2.out.keeps HKb.out (by decide));have HGb:=hid (HG1.out.keeps HKb.out (by decide));go_wp2_with (first | (refine lO Xb HI17 Tryz.underlying43 ?_) | fail);clear e6 f6 e1 f1 HT2 HG1 HKb Qa Q0 X0 E0 P0 HB0;refine Zm _ fun W27 hW=> ?_
  rw [←hW] at Qb Xb Eb HBb HTb HGb;clear hW;refine(cF.out W27).mono ?_
  rintro e W28 ⟨rfl,hb⟩;have Q0:=bl Qb hb;have E0:=bl Eb hb;have HB0:=bt HBb hb;have HT2:=hid (HTb.out.later hb);have HG2:=hid (HGb.out.Zw hb);clear hb Qb Eb Xb HBb HTb HGb cF;have HFin:Hid (∀ W,ZR [33,45] W28 W→Us W ⟨c.ZO,c.ZU+1,ob1,ro1,l⟩ ⟨A2.a0,A2.k0,A2.a1,A2.k1,A2.a2,A2.k2,A2.a3,A2.k3,B4,l4⟩):=hid (fun W hk=>by
   have hT4:=HT2.out.keeps hk (by decide);exact⟨hT4.sc,hT4.tb,hT4.nm,hT4.mb,XL (us:=CT) (HG2.out.keeps hk (by decide))⟩)
  clear HT2 HG2;go_wp2_with (first | (refine lO Q0 HI7 Tryz.underlying33 ?_) | ((refine sO Q0 HI7 ?_);intro W29 U;have Ed:=hid (U.out.other E0.out (by omega));have g0:W29.cell? ⟨(w.heap.size+1+1+1),0,none⟩=some (.int .i64 0):=Ed.out.cell 0;have g1:W29.frozen? ⟨(w.heap.size+1+1+1),0,none⟩=false:=Ed.out.frozen 0) | fail);have Qd:Hid (ZP (W29.setCell ⟨(w.heap.size+1+1+1),0,none⟩ (.int .i64 0)) (w.heap.size+1+1) 33 [.int .i64 c.ZO,.int .i64 (c.ZU+1),.slice A2.a0 ob1.Z4.length A2.k0,.slice A2.a1 ob1.Z7.length A2.k1,.slice A2.a2 ro1.ZW.length A2.k2,.slice A2.a3 ro1.Z2.length A2.k3,.slice B4 l.length l4]):=hid (U.out.X8.Wx (by dsimp only;omega) _)
  have Ee:Hid (ZP (W29.setCell ⟨(w.heap.size+1+1+1),0,none⟩ (.int .i64 0)) (w.heap.size+1+1+1) 45 [.int .i64 0]):=hid (Ed.out.Zx 0 _);refine leaves_cons (f:=25) (args:= #[.pointer (some ⟨(w.heap.size+1+1),0,none⟩),.pointer (some ⟨(w.heap.size+1+1+1),0,none⟩)]) (by simp) (by simp [go_sem]) ?_
  refine(Sl _ _ _).mono ?_
  rintro e u' w'' ⟨rfl,rfl,rfl⟩;refine⟨_,S5 Tryz.results9 _ _ (w.heap.size+1+1) (w.heap.size+1+1+1) (by simp) (by simp) Qd rfl Tryz.underlying33 rfl HI7 (Ue _ (w.heap.size+1+1+1) 0 (Ee.out.cell 0)),?_⟩
  refine⟨0,⟨c.ZO,c.ZU+1,ob1,ro1,l⟩,⟨A2.a0,A2.k0,A2.a1,A2.k1,A2.a2,A2.k2,A2.a3,A2.k3,B4,l4⟩,rfl,Or.inr (Or.inr (Or.inr ⟨rfl,HPre.out,HFull.out,⟨c.ZO,c.ZU,ob1,ro1,gr1⟩,l,HR.out,HPm.out,?_⟩)),fun _=>HFin.out _ ?_,?_⟩
  ·rw [if_neg (by rw [←HFx.out];simp)];simp
  ·exact(U.out.keeps.Ya (by simp)).trans (ZR.Zx Ed.out.Xr (by simp) _)
  ·exact(U.out.below HB0.out (by omega)).setCell (by dsimp only;omega) _
 ·have xq0:=ce X0 0;have xq1:=ce X0 1;have xq2:=ce X0 2;have xq3:=ce X0 3;have xq4:=ce X0 4;have xq5:=ce X0 5;have xq6:=ce X0 6;have xq7:=ce X0 7;have xq8:=ce X0 8;have xq9:=ce X0 9;have xq10:=ce X0 10;have xq11:=ce X0 11;have xq12:=ce X0 12;have xq13:=ce X0 13;have xq14:=ce X0 14;have xq15:=ce X0 15;have xq16:=ce X0 16;go_wp2_with fail;clear xq0 xq1 xq2 xq3 xq4 xq5 xq6 xq7 xq8 xq9 xq10 xq11 xq12 xq13 xq14 xq15 xq16;refine(cF.out _).mono ?_
  rintro e W24 ⟨rfl,hb⟩;have HT2:=hid (HT1.out.later hb);clear HT1;have HT1:=HT2;clear HT2 v0 v1;have P1:=bl P0 hb;have X1:=bl X0 hb;have Q1:=bl Q0 hb;have E1:=bl E0 hb;have HB1:=bt HB0 hb;clear hb P0 X0 Q0 E0 HB0;have P0:=P1;have X0:=X1;have Q0:=Q1;have E0:=E1;have HB0:=HB1;clear P1 X1 Q1 E1 HB1;have v0:=ce P0 0;by_cases he:c.ZO<1000
  case neg=>
   have HFull:Hid (SN c x=true):=hid (by rw [HFu.out];simp [he]);clear HFu;go_wp2_with fail;refine(YD _ 92 W24).mono ?_
   rintro e W9 ⟨he',rfl⟩;obtain rfl:e= .panicked (TH 92):=by rw [he',decide_eq_false (show ¬ c.ZO<1000 by omega)];rfl
   refine Yc _ _ w.heap.size (w.heap.size+1+1) (w.heap.size+1+1+1) 92 _ 0 _ (by simp) (by simp) (by simp [go_sem]) Q0 rfl E0 (by omega) (by omega) (by omega) (fun w' hb'=> ?_)
   exact⟨92,Ca.zero,WV.zero,rfl,Or.inr (Or.inr (Or.inl ⟨HPre.out,HFull.out,rfl⟩)),fun h=>absurd h (by decide),HB0.out.trans hb'⟩
  have HFull:Hid (SN c x=false):=hid (by rw [HFu.out];simp [he,hv]);clear HFu;go_wp2_with fail;refine(YD _ 92 W24).mono ?_
  rintro e W25 ⟨he',rfl⟩;obtain rfl:e= .returned (.tuple #[]):=by rw [he'];first | rfl | (rw [decide_eq_true (show c.ZO<1000 by omega)];rfl)
  go_wp2_with (first | (refine lO Q0 HI7 Tryz.underlying33 ?_) | fail);have cHo:=RK ⟨c.ZO,c.ZU,ob1,ro1,gr1⟩ A2 W25 HT1.out.VF HTm1.out;unfold Ca.cs at cHo;refine cHo.mono ?_
  rintro e W26 ⟨l,B4,l4,rfl,hp,ho,hb⟩;clear cHo;have HPm:=hid hp;have HG1:=hid ho;have HT2:=hid (HT1.out.later hb);clear HT1 hp ho;have P1:=bl P0 hb;have X1:=bl X0 hb;have Q1:=bl Q0 hb;have E1:=bl E0 hb;have HB1:=bt HB0 hb;clear hb P0 X0 Q0 E0 HB0;have P0:=P1;have X0:=X1;have Q0:=Q1;have E0:=E1;have HB0:=HB1;clear P1 X1 Q1 E1 HB1;have Qa:Hid (ZP (W26.setCell ⟨(w.heap.size+1+1),6,none⟩ (.slice B4 l.length l4)) (w.heap.size+1+1) 33 [.int .i64 c.ZO,.int .i64 c.ZU,.slice A2.a0 ob1.Z4.length A2.k0,.slice A2.a1 ob1.Z7.length A2.k1,.slice A2.a2 ro1.ZW.length A2.k2,.slice A2.a3 ro1.Z2.length A2.k3,.slice B4 l.length l4]):=hid (Q0.out.Zx 6 _);have Qb:Hid (ZP ((W26.setCell ⟨(w.heap.size+1+1),6,none⟩ (.slice B4 l.length l4)).setCell ⟨(w.heap.size+1+1),1,none⟩ (.int .i64 (c.ZU+1))) (w.heap.size+1+1) 33 [.int .i64 c.ZO,.int .i64 (c.ZU+1),.slice A2.a0 ob1.Z4.length A2.k0,.slice A2.a1 ob1.Z7.length A2.k1,.slice A2.a2 ro1.ZW.length A2.k2,.slice A2.a3 ro1.Z2.length A2.k3,.slice B4 l.length l4]):=hid (Qa.out.Zx 1 _);have e6:=ce Q0 6;have f6:=Q0.out.frozen 6;have e1:(W26.setCell ⟨(w.heap.size+1+1),6,none⟩ (.slice B4 l.length l4)).cell? ⟨(w.heap.size+1+1),1,none⟩=some (.int .i64 c.ZU):=Qa.out.cell 1;have f1:=Qa.out.frozen 1;have Xb:Hid (ZP ((W26.setCell ⟨(w.heap.size+1+1),6,none⟩ (.slice B4 l.length l4)).setCell ⟨(w.heap.size+1+1),1,none⟩ (.int .i64 (c.ZU+1))) (w.heap.size+1) 43 [.int .i64 x.ZQ,.string (Z9 x.ZM),.string (Z9 x.Z8),.string (Z9 x.ZY),.string (Z9 x.name),.string (Z9 x.ZT),.slice X x.ZX.length k,.string (Z9 x.ZZ.name),.int .i64 x.ZZ.ZQ,.slice Y x.ZZ.ZX.length n,.int .i64 x.ZZ.low,.int .i64 x.ZZ.ZF,.string (Z9 x.ZZ.Z8),.string (Z9 x.ZZ.ZY),.string (Z9 x.ZZ.key),.int .i64 x.right,.bool x.Zz]):=hid ((X0.out.Wx (by dsimp only;omega) _).Wx (by dsimp only;omega) _)
  have Eb:Hid (ZP ((W26.setCell ⟨(w.heap.size+1+1),6,none⟩ (.slice B4 l.length l4)).setCell ⟨(w.heap.size+1+1),1,none⟩ (.int .i64 (c.ZU+1))) (w.heap.size+1+1+1) 45 [.int .i64 0]):=hid ((E0.out.Wx (by dsimp only;omega) _).Wx (by dsimp only;omega) _);have HBb:Hid (Below w.heap.size w ((W26.setCell ⟨(w.heap.size+1+1),6,none⟩ (.slice B4 l.length l4)).setCell ⟨(w.heap.size+1+1),1,none⟩ (.int .i64 (c.ZU+1)))):=hid ((HB0.out.setCell (by dsimp only;omega) _).setCell (by dsimp only;omega) _)
  have HKb:Hid (ZR [33] W26 ((W26.setCell ⟨(w.heap.size+1+1),6,none⟩ (.slice B4 l.length l4)).setCell ⟨(w.heap.size+1+1),1,none⟩ (.int .i64 (c.ZU+1)))):=hid ((ZR.Zx Q0.out.Xr (by simp) _).trans (ZR.Zx (Q0.out.Xr.setCell _ _) (by simp) _));have HTb:=hid (HT2.out.keeps HKb.out (by decide));have HGb:=hid (HG1.out.keeps HKb.out (by decide));go_wp2_with (first | (refine lO Xb HI17 Tryz.underlying43 ?_) | fail);clear e6 f6 e1 f1 HT2 HG1 HKb Qa Q0 X0 E0 P0 HB0;refine Zm _ fun W27 hW=> ?_
  rw [←hW] at Qb Xb Eb HBb HTb HGb;clear hW;refine(cF.out W27).mono ?_
  rintro e W28 ⟨rfl,hb⟩;have Q0:=bl Qb hb;have E0:=bl Eb hb;have HB0:=bt HBb hb;have HT2:=hid (HTb.out.later hb);have HG2:=hid (HGb.out.Zw hb);clear hb Qb Eb Xb HBb HTb HGb cF;have e0:=ce Q0 0;have f0:=Q0.out.frozen 0;have Qc:Hid (ZP (W28.setCell ⟨(w.heap.size+1+1),0,none⟩ (.int .i64 (c.ZO+1))) (w.heap.size+1+1) 33 [.int .i64 (c.ZO+1),.int .i64 (c.ZU+1),.slice A2.a0 ob1.Z4.length A2.k0,.slice A2.a1 ob1.Z7.length A2.k1,.slice A2.a2 ro1.ZW.length A2.k2,.slice A2.a3 ro1.Z2.length A2.k3,.slice B4 l.length l4]):=hid (Q0.out.Zx 0 _);have Ec:Hid (ZP (W28.setCell ⟨(w.heap.size+1+1),0,none⟩ (.int .i64 (c.ZO+1))) (w.heap.size+1+1+1) 45 [.int .i64 0]):=hid (E0.out.Wx (by dsimp only;omega) _)
  have HBc:Hid (Below w.heap.size w (W28.setCell ⟨(w.heap.size+1+1),0,none⟩ (.int .i64 (c.ZO+1)))):=hid (HB0.out.setCell (by dsimp only;omega) _);have HKc:Hid (ZR [33] W28 (W28.setCell ⟨(w.heap.size+1+1),0,none⟩ (.int .i64 (c.ZO+1)))):=hid (ZR.Zx Q0.out.Xr (by simp) _);have HTc:=hid (HT2.out.keeps HKc.out (by decide));have HGc:=hid (HG2.out.keeps HKc.out (by decide));clear HT2 HG2 HKc Q0 E0 HB0;have HFin:Hid (∀ W,ZR [33,45] (W28.setCell ⟨(w.heap.size+1+1),0,none⟩ (.int .i64 (c.ZO+1))) W→Us W ⟨c.ZO+1,c.ZU+1,ob1,ro1,l⟩ ⟨A2.a0,A2.k0,A2.a1,A2.k1,A2.a2,A2.k2,A2.a3,A2.k3,B4,l4⟩):=hid (fun W hk=>by
   have hT4:=HTc.out.keeps hk (by decide);exact⟨hT4.sc,hT4.tb,hT4.nm,hT4.mb,XL (us:=CT) (HGc.out.keeps hk (by decide))⟩)
  clear HTc HGc;go_wp2_with (first | (refine lO Qc HI7 Tryz.underlying33 ?_) | ((refine sO Qc HI7 ?_);intro W29 U;have Ed:=hid (U.out.other Ec.out (by omega));have g0:W29.cell? ⟨(w.heap.size+1+1+1),0,none⟩=some (.int .i64 0):=Ed.out.cell 0;have g1:W29.frozen? ⟨(w.heap.size+1+1+1),0,none⟩=false:=Ed.out.frozen 0) | fail);have Qd:Hid (ZP (W29.setCell ⟨(w.heap.size+1+1+1),0,none⟩ (.int .i64 0)) (w.heap.size+1+1) 33 [.int .i64 (c.ZO+1),.int .i64 (c.ZU+1),.slice A2.a0 ob1.Z4.length A2.k0,.slice A2.a1 ob1.Z7.length A2.k1,.slice A2.a2 ro1.ZW.length A2.k2,.slice A2.a3 ro1.Z2.length A2.k3,.slice B4 l.length l4]):=hid (U.out.X8.Wx (by dsimp only;omega) _)
  have Ee:Hid (ZP (W29.setCell ⟨(w.heap.size+1+1+1),0,none⟩ (.int .i64 0)) (w.heap.size+1+1+1) 45 [.int .i64 0]):=hid (Ed.out.Zx 0 _);refine leaves_cons (f:=25) (args:= #[.pointer (some ⟨(w.heap.size+1+1),0,none⟩),.pointer (some ⟨(w.heap.size+1+1+1),0,none⟩)]) (by simp) (by simp [go_sem]) ?_
  refine(Sl _ _ _).mono ?_
  rintro e u' w'' ⟨rfl,rfl,rfl⟩;refine⟨_,S5 Tryz.results9 _ _ (w.heap.size+1+1) (w.heap.size+1+1+1) (by simp) (by simp) Qd rfl Tryz.underlying33 rfl HI7 (Ue _ (w.heap.size+1+1+1) 0 (Ee.out.cell 0)),?_⟩
  refine⟨0,⟨(c.ZO+1),c.ZU+1,ob1,ro1,l⟩,⟨A2.a0,A2.k0,A2.a1,A2.k1,A2.a2,A2.k2,A2.a3,A2.k3,B4,l4⟩,rfl,Or.inr (Or.inr (Or.inr ⟨rfl,HPre.out,HFull.out,⟨c.ZO,c.ZU,ob1,ro1,gr1⟩,l,HR.out,HPm.out,?_⟩)),fun _=>HFin.out _ ?_,?_⟩
  ·rw [if_pos HFx.out.symm]
  ·exact(U.out.keeps.Ya (by simp)).trans (ZR.Zx Ed.out.Xr (by simp) _)
  ·exact(U.out.below HBc.out (by omega)).setCell (by dsimp only;omega) _
end Go.Proofs.YtnhmoibjlakhjaaGreat
namespace Go.Proofs.YtnhmoibjlakhjaaGreat
set_option maxRecDepth 100000
set_option maxHeartbeats 16000000
def Xf:Cm:=⟨1,Yd,[115],[],[],[],[],⟨[],0,[],0,0,[],[],[]⟩,0,false⟩
def Pp:Ca:=⟨0,1,⟨[⟨[115],Yd⟩],[]⟩,⟨[Yd],[]⟩,[]⟩
theorem K5:Wo Ca.new Xf=0:=by kernel_rfl
theorem K4:Wo Pp Xf=0:=by kernel_rfl
theorem L3:SN Ca.new Xf=false:=by kernel_rfl
theorem Om:(Zr Xf.Z8 && Zr Xf.ZM)=true:=by kernel_rfl
theorem L4:YT Ca.new.ob=true:=by kernel_rfl
theorem No:YT Pp.ob=true:=by kernel_rfl
theorem K3:WY Pp.ob.Z4 Xf.Z8=some 0:=by kernel_rfl
theorem Ll {α:Type}{a:α}{l:List α}(h:l.Perm [a]):l= [a]:=List.perm_singleton.1 h
theorem LA (c:Ca)(h:c.Z3= []):WE c= []:=by
 have:=Qx (c:=c);rw [h] at this;exact List.eq_nil_of_length_eq_zero (by simpa using this)
theorem LX {er:Int}{c':Ca}(h:JD Ca.new Xf er c'):er=0∧c'=Pp:=by
 rcases h with ⟨h,_⟩ | ⟨_,h,c1,hd⟩ | ⟨_,h,_⟩ | ⟨h,_,_,c1,l,hd,hp,rfl⟩
 ·exact absurd K5 h
 ·exfalso
  have hd':Js Ca.new Xf er c1:=hd;obtain⟨o',ho,_⟩:=hd';unfold Pl at ho;rw [if_pos L4] at ho;obtain⟨o'',hr,_⟩:=ho;have hr':VI Ca.new.ob Xf.Z8 Xf.ZM er o'':=hr;rcases hr' with ⟨_,⟨_,h1⟩ | ⟨_,h1⟩ | ⟨_,h1⟩⟩ | ⟨h1,_⟩
  ·rw [Om] at h1;cases h1
  ·cases h1
  ·exact absurd h1 (by decide)
  ·exact h h1
 ·rw [L3] at h;cases h
 ·refine⟨h,?_⟩
  have hd':Js Ca.new Xf 0 c1:=hd;obtain⟨o',ho,rfl⟩:=hd';obtain⟨_,hr⟩:=PJ ho;have hr':VI Ca.new.ob Xf.Z8 Xf.ZM 0 o':=hr;rcases hr' with ⟨_,⟨h1,_⟩ | ⟨h1,_⟩ | ⟨h1,_⟩⟩ | ⟨_,_,_,_,_,ss',hp1,_,rfl⟩
  ·cases h1
  ·cases h1
  ·cases h1
  ·have e1:ss'= [⟨[115],Yd⟩]:=Ll hp1;have e2:l= []:=by
    rw [LA _ rfl] at hp;exact hp.eq_nil
   rw [e1,e2];rfl
theorem SX {er:Int}{c':Ca}(h:JD Pp Xf er c'):er=60:=by
 have key: ∀ (er:Int) (c1:Ca),Js Pp Xf er c1→er=60:=by
  intro er c1 hd;obtain⟨o',ho,_⟩:=hd;unfold Pl at ho;rw [if_pos No] at ho;obtain⟨o'',hr,_⟩:=ho;have hr':VI Pp.ob Xf.Z8 Xf.ZM er o'':=hr;rcases hr' with ⟨_,⟨_,h1⟩ | ⟨h1,_⟩ | ⟨_,h1⟩⟩ | ⟨_,_,_,h1,_⟩
  ·rw [Om] at h1;cases h1
  ·exact h1
  ·exact absurd h1 (by decide)
  ·rw [K3] at h1;cases h1
 rcases h with ⟨h,_⟩ | ⟨_,h,c1,hd⟩ | ⟨_,h,_⟩ | ⟨h,_,_,c1,l,hd,hp,rfl⟩
 ·exact absurd K4 h
 ·exact key er c1 hd
 ·exact absurd h (by decide)
 ·exact absurd (key 0 c1 hd) (by decide)
theorem M4 {c c':Ca}{x:Cm}(h:JD c x 0 c'):UV x=true∧c'.ZU=c.ZU+1∧c'.ZO=c.ZO+ (if Wq x=true then 1 else 0)∧(∀ M,512≤M→x.Zv M→c'.Zv M):=by
 rcases h with ⟨h,h'⟩ | ⟨_,h,_⟩ | ⟨_,_,h⟩ | ⟨_,h,_,c1,l,hd,hp,rfl⟩
 ·exact absurd h'.symm h
 ·exact absurd rfl h
 ·cases h
 ·obtain⟨h1,h2,_⟩:=Qo h;refine⟨h2,rfl,rfl,fun M hM hx=> ?_⟩
  have ht:=MV hM (SH (Vf (Ws h1).1).1) hx hd;refine⟨ht.1,ht.2.1,?_⟩
  have e1:=hp.length_eq;have e2:=Qx (c:=c1);have e3:=ht.2.2;show l.length≤M
  omega
theorem Lq {c x:Ca}(ho:x.ob=c.ob)(hr:x.ro=c.ro)(hg: ∀ g∈x.Z3,g∈c.Z3)(hw:X6 c=true){ZT s n:List UInt8}{right:Int}(h:Va x ZT s n right=true):Va c ZT s n right=true:=by
 have ht:WA x s n=WA c s n:=by unfold WA;rw [ho]
 unfold Va at h ⊢;rw [ht] at h;split at h
 ·rename_i t he;have hb:XE x (Yw c.ro ZT) t=XE c (Yw c.ro ZT) t:=by unfold XE Tr;rw [ho]
  rw [hr,hb] at h;simp only [Bool.and_eq_true,Bool.or_eq_true] at h ⊢;obtain⟨⟨⟨h1,h2⟩,h3⟩,h4⟩:=h;refine⟨⟨⟨h1,hw⟩,h3⟩,h4.imp id fun h5=> ?_⟩
  unfold Ww at h5 ⊢;rw [List.any_eq_true] at h5 ⊢;obtain⟨g,hgm,h6⟩:=h5;exact⟨g,hg g hgm,h6⟩
 ·cases h
theorem Ot {c x':Ca}{x:Cm}(hk:x.ZQ=15)(h:JD c x 0 x'):(∀ g∈x'.Z3,To x (Xp c x.ZM x.Z8 x.ZY) g=false)∧ ∀ ZT s n right,Va x' ZT s n right=true→Va c ZT s n right=true:=by
 rcases h with ⟨h,h'⟩ | ⟨_,h,_⟩ | ⟨_,_,h⟩ | ⟨_,h,_,c1,l,hd,hp,rfl⟩
 ·exact absurd h'.symm h
 ·exact absurd rfl h
 ·cases h
 ·obtain⟨h1,_⟩:=Qo h;have hd':LS c x 0 c1:=by
   unfold Wd at hd;rw [hk] at hd;exact hd
  rcases hd' with ⟨h2,_⟩ | ⟨_,_,rfl⟩
  ·cases h2
  ·have hs: ∀ g∈l,g∈c.Z3∧To x (Xp c x.ZM x.Z8 x.ZY) g=false:=fun g hg=>by
    have:=Mr g (hp.mem_iff.1 hg);have:=List.mem_filter.1 this;exact⟨this.1,by simpa using this.2⟩
   exact⟨fun g hg=>(hs g hg).2,fun ZT s n right hm=>Lq (c:=c) (x:=⟨c.ZO+ (if Wq x=true then 1 else 0),c.ZU+1,c.ob,c.ro,l⟩) rfl rfl (fun g hg=>(hs g hg).1) (Ws h1).1 hm⟩
end Go.Proofs.YtnhmoibjlakhjaaGreat
