/- Lemmas of the proof. No condition but each theorem's own. -/
import Derived.Test.YtnhmoibjlakhjaaGreatM41
import Derived.Test.YtnhmoibjlakhjaaGreatM18
import Derived.Test.YtnhmoibjlakhjaaGreatM03
import Derived.Test.YtnhmoibjlakhjaaGreatM10
import Derived.Test.YtnhmoibjlakhjaaGreatM35
import Derived.Test.YtnhmoibjlakhjaaGreatM30
set_option linter.unusedVariables false
set_option linter.unusedSimpArgs false
namespace Go.Proofs.YtnhmoibjlakhjaaGreat
open Lib (hid)
set_option maxRecDepth 100000
set_option maxHeartbeats 16000000
open Go.RowKit
def I0 (c:Ca)(x:Cm)(er:Int)(c':Ca):Prop:= ∃ o',Pe c.ob (IZ c.ob x) er o'∧c'=⟨c.ZO,c.ZU,o',c.ro,c.Z3⟩
def VQ (c:Ca)(x:Cm):Int→Ca→Prop:=
 if x.ZQ=4 then Kq c x else if x.ZQ=9 then Ko c x else if x.ZQ=11 then Mu c else if x.ZQ=14 then Iv c else if x.ZQ=15 then Kp c x
 else if x.ZQ=10∨x.ZQ=12∨x.ZQ=13 then Mu c else I0 c x
section
variable {c : Ca} {x : Cm}
theorem VQ.k4 (h:x.ZQ=4):VQ c x=Kq c x:=by unfold VQ;rw [if_pos h]
theorem VQ.k9 (h:x.ZQ=9):VQ c x=Ko c x:=by unfold VQ;rw [if_neg (by omega),if_pos h]
theorem VQ.Hw (h:x.ZQ=11):VQ c x=Mu c:=by unfold VQ;rw [if_neg (by omega),if_neg (by omega),if_pos h]
theorem VQ.Hv (h:x.ZQ=14):VQ c x=Iv c:=by unfold VQ;rw [if_neg (by omega),if_neg (by omega),if_neg (by omega),if_pos h]
theorem VQ.Ip (h:x.ZQ=15):VQ c x=Kp c x:=by unfold VQ;rw [if_neg (by omega),if_neg (by omega),if_neg (by omega),if_neg (by omega),if_pos h]
theorem VQ.ro (h:x.ZQ=10∨x.ZQ=12∨x.ZQ=13):VQ c x=Mu c:=by unfold VQ;rw [if_neg (by omega),if_neg (by omega),if_neg (by omega),if_neg (by omega),if_neg (by omega),if_pos h]
theorem VQ.ob (h4: ¬ x.ZQ=4)(h9: ¬ x.ZQ=9)(h11: ¬ x.ZQ=11)(h14: ¬ x.ZQ=14)(h15: ¬ x.ZQ=15)(h: ¬ (x.ZQ=10∨x.ZQ=12∨x.ZQ=13)):VQ c x=I0 c x:=by unfold VQ;rw [if_neg h4,if_neg h9,if_neg h11,if_neg h14,if_neg h15,if_neg h]
end
theorem Ir (c:Ca)(A:WV)(x:Cm)(X:Option Addr)(k:Nat)(Y:Option Addr)(n:Nat)(g:Nat)(w:World)(hP:ZP w g 33 (c.cs A))(hT:Uw w c A)(ht:c.Zs 1099511627776)
  (hX:ZV w (· < w.heap.size) Zo (x.ZY.map Cl.da) X) (hY:ZV w (· < w.heap.size) [.Z9] (YY x.ZZ.ZY) Y) (hx:x.Zs 1099511627776) (hbd:QZ x.ZZ) (h5:x.ZQ=5→x.ZY.length=1):
  Calls Tryz.prog 35 #[.pointer (some ⟨g,0,none⟩),.agg (x.cs X k Y n).toArray] w (LI g w (VQ c x)):=by
 have HT:=hid hT;have HTm:=hid ht;have HI2:=iN 26 2;have HI2r:=iN 30 2;have HI7:=iN 33 7;have hgl:=hP.lt;have HB0:Hid (Below w.heap.size w (w.alloc (.cells #[.int .i64 x.ZQ,.string (Z9 x.ZK),.string (Z9 x.Z8),.string (Z9 x.ZX),.string (Z9 x.name),.string (Z9 x.ZR),.slice X x.ZY.length k,.string (Z9 x.ZZ.name),.int .i64 x.ZZ.ZQ,.slice Y x.ZZ.ZY.length n,.int .i64 x.ZZ.low,.int .i64 x.ZZ.ZF,.string (Z9 x.ZZ.Z8),.string (Z9 x.ZZ.ZX),.string (Z9 x.ZZ.key),.int .i64 x.right,.bool x.Zy] 43))):=hid (br.alloc lr _);have P0:Hid (ZP (w.alloc (.cells #[.int .i64 x.ZQ,.string (Z9 x.ZK),.string (Z9 x.Z8),.string (Z9 x.ZX),.string (Z9 x.name),.string (Z9 x.ZR),.slice X x.ZY.length k,.string (Z9 x.ZZ.name),.int .i64 x.ZZ.ZQ,.slice Y x.ZZ.ZY.length n,.int .i64 x.ZZ.low,.int .i64 x.ZZ.ZF,.string (Z9 x.ZZ.Z8),.string (Z9 x.ZZ.ZX),.string (Z9 x.ZZ.key),.int .i64 x.right,.bool x.Zy] 43)) g 33 [.int .i64 c.ZO,.int .i64 c.ZU,.slice A.a0 c.ob.Z4.length A.k0,.slice A.a1 c.ob.Z7.length A.k1,.slice A.a2 c.ro.ZW.length A.k2,.slice A.a3 c.ro.Z2.length A.k3,.slice A.a4 c.Z3.length A.k4]):=hid (hP.alloc _);have X0:Hid (ZP (w.alloc (.cells #[.int .i64 x.ZQ,.string (Z9 x.ZK),.string (Z9 x.Z8),.string (Z9 x.ZX),.string (Z9 x.name),.string (Z9 x.ZR),.slice X x.ZY.length k,.string (Z9 x.ZZ.name),.int .i64 x.ZZ.ZQ,.slice Y x.ZZ.ZY.length n,.int .i64 x.ZZ.low,.int .i64 x.ZZ.ZF,.string (Z9 x.ZZ.Z8),.string (Z9 x.ZZ.ZX),.string (Z9 x.ZZ.key),.int .i64 x.right,.bool x.Zy] 43)) w.heap.size 43 [.int .i64 x.ZQ,.string (Z9 x.ZK),.string (Z9 x.Z8),.string (Z9 x.ZX),.string (Z9 x.name),.string (Z9 x.ZR),.slice X x.ZY.length k,.string (Z9 x.ZZ.name),.int .i64 x.ZZ.ZQ,.slice Y x.ZZ.ZY.length n,.int .i64 x.ZZ.low,.int .i64 x.ZZ.ZF,.string (Z9 x.ZZ.Z8),.string (Z9 x.ZZ.ZX),.string (Z9 x.ZZ.key),.int .i64 x.right,.bool x.Zy]):=hid (ZP.new w _ _);have HI17:=iN 43 17;have HX:=hid hX;have HY:=hid hY;have HXt:=hid hx;have HBd:=hid hbd;have H5:=hid h5;have HHn:Hid (∀ (R:Int→Ca→Prop) e w',LI g (w.alloc (.cells #[.int .i64 x.ZQ,.string (Z9 x.ZK),.string (Z9 x.Z8),.string (Z9 x.ZX),.string (Z9 x.name),.string (Z9 x.ZR),.slice X x.ZY.length k,.string (Z9 x.ZZ.name),.int .i64 x.ZZ.ZQ,.slice Y x.ZZ.ZY.length n,.int .i64 x.ZZ.low,.int .i64 x.ZZ.ZF,.string (Z9 x.ZZ.Z8),.string (Z9 x.ZZ.ZX),.string (Z9 x.ZZ.key),.int .i64 x.right,.bool x.Zy] 43)) R e w'→LI g w R e w'):=hid (fun R e w' h=>⟨(Ze.pre (HB0.out) (h.1.mono HB0.out.size)),h.2⟩);have HT0:=hid (HT.out.later HB0.out);clear hT ht hP hX hY hx hbd h5;unfold Cm.cs;go_enter Tryz.func35,Tryz.ntmps35
 go_upto_region 4 with fail
 generalize (w.alloc (.cells #[.int .i64 x.ZQ,.string (Z9 x.ZK),.string (Z9 x.Z8),.string (Z9 x.ZX),.string (Z9 x.name),.string (Z9 x.ZR),.slice X x.ZY.length k,.string (Z9 x.ZZ.name),.int .i64 x.ZZ.ZQ,.slice Y x.ZZ.ZY.length n,.int .i64 x.ZZ.low,.int .i64 x.ZZ.ZF,.string (Z9 x.ZZ.Z8),.string (Z9 x.ZZ.ZX),.string (Z9 x.ZZ.key),.int .i64 x.right,.bool x.Zy] 43))=W0 at*;by_cases h4:x.ZQ=4
 ·have t4:(x.ZQ == 4)=true:=by simpa using h4
  have HK:=hid h4;clear h4;go_wp2_with (first | (refine lO X0 HI17 Tryz.underlying43 ?_) | fail);have cD:=OK c A x X k Y n g W0 P0.out HT0.out HTm.out;unfold Cm.cs at cD;refine cD.mono ?_
  clear cD;rintro e W1 hd;have hd2:=HHn.out _ _ _ hd;clear hd;obtain⟨hbx,⟨c',A',rfl,hR,hB,hC⟩ | ⟨E,c',h0,rfl,hR,hvs⟩⟩:=hd2
  ·have HBX:=hid hbx;have HRR:=hid hR;have HBB:=hid hB;have HCC:=hid hC;clear hbx hR hB hC P0 X0 HT0 HHn HB0;go_wp2_with fail;have cM:=YX 0 W1;rw [if_pos rfl] at cM;refine cM.mono ?_
   rintro e V9 ⟨rfl,rfl⟩;go_wp2;go_end0;exact⟨HBX.out,Or.inl ⟨c',A',rfl,by rw [VQ.k4 HK.out];exact HRR.out,HBB.out,HCC.out⟩⟩
  ·exact⟨rfl,hbx,Or.inr ⟨E,c',h0,rfl,by rw [VQ.k4 HK.out];exact hR,hvs⟩⟩
 have g4:(x.ZQ == 4)=false:=by simpa using h4
 by_cases h9:x.ZQ=9
 ·have t9:(x.ZQ == 9)=true:=by simpa using h9
  have HK:=hid h9;clear h9;go_wp2_with (first | (refine lO X0 HI17 Tryz.underlying43 ?_) | fail);have cD:=Na c A x X k Y n g W0 P0.out HT0.out HTm.out;unfold Cm.cs at cD;refine cD.mono ?_
  clear cD;rintro e W1 hd;have hd2:=HHn.out _ _ _ hd;clear hd;obtain⟨hbx,⟨c',A',rfl,hR,hB,hC⟩ | ⟨E,c',h0,rfl,hR,hvs⟩⟩:=hd2
  ·have HBX:=hid hbx;have HRR:=hid hR;have HBB:=hid hB;have HCC:=hid hC;clear hbx hR hB hC P0 X0 HT0 HHn HB0;go_wp2_with fail;have cM:=YX 0 W1;rw [if_pos rfl] at cM;refine cM.mono ?_
   rintro e V9 ⟨rfl,rfl⟩;go_wp2;go_end0;exact⟨HBX.out,Or.inl ⟨c',A',rfl,by rw [VQ.k9 HK.out];exact HRR.out,HBB.out,HCC.out⟩⟩
  ·exact⟨rfl,hbx,Or.inr ⟨E,c',h0,rfl,by rw [VQ.k9 HK.out];exact hR,hvs⟩⟩
 have g9:(x.ZQ == 9)=false:=by simpa using h9
 by_cases h11:x.ZQ=11
 ·have t11:(x.ZQ == 11)=true:=by simpa using h11
  have HK:=hid h11;clear h11;go_wp2_with (first | (refine lO X0 HI17 Tryz.underlying43 ?_) | fail);have cD:=NM c A x X k Y n g W0 P0.out HT0.out HTm.out;unfold Cm.cs at cD;refine cD.mono ?_
  clear cD;rintro e W1 hd;have hd2:=HHn.out _ _ _ hd;clear hd;obtain⟨hbx,⟨c',A',rfl,hR,hB,hC⟩ | ⟨E,c',h0,rfl,hR,hvs⟩⟩:=hd2
  ·have HBX:=hid hbx;have HRR:=hid hR;have HBB:=hid hB;have HCC:=hid hC;clear hbx hR hB hC P0 X0 HT0 HHn HB0;go_wp2_with fail;have cM:=YX 0 W1;rw [if_pos rfl] at cM;refine cM.mono ?_
   rintro e V9 ⟨rfl,rfl⟩;go_wp2;go_end0;exact⟨HBX.out,Or.inl ⟨c',A',rfl,by rw [VQ.Hw HK.out];exact HRR.out,HBB.out,HCC.out⟩⟩
  ·exact⟨rfl,hbx,Or.inr ⟨E,c',h0,rfl,by rw [VQ.Hw HK.out];exact hR,hvs⟩⟩
 have g11:(x.ZQ == 11)=false:=by simpa using h11
 by_cases h14:x.ZQ=14
 ·have t14:(x.ZQ == 14)=true:=by simpa using h14
  have HK:=hid h14;clear h14;go_wp2_with (first | (refine lO X0 HI17 Tryz.underlying43 ?_) | fail);have cD:=Jw c A x X k Y n g W0 P0.out HT0.out HTm.out;unfold Cm.cs at cD;refine cD.mono ?_
  clear cD;rintro e W1 hd;have hd2:=HHn.out _ _ _ hd;clear hd;obtain⟨hbx,⟨c',A',rfl,hR,hB,hC⟩ | ⟨E,c',h0,rfl,hR,hvs⟩⟩:=hd2
  ·have HBX:=hid hbx;have HRR:=hid hR;have HBB:=hid hB;have HCC:=hid hC;clear hbx hR hB hC P0 X0 HT0 HHn HB0;go_wp2_with fail;have cM:=YX 0 W1;rw [if_pos rfl] at cM;refine cM.mono ?_
   rintro e V9 ⟨rfl,rfl⟩;go_wp2;go_end0;exact⟨HBX.out,Or.inl ⟨c',A',rfl,by rw [VQ.Hv HK.out];exact HRR.out,HBB.out,HCC.out⟩⟩
  ·exact⟨rfl,hbx,Or.inr ⟨E,c',h0,rfl,by rw [VQ.Hv HK.out];exact hR,hvs⟩⟩
 have g14:(x.ZQ == 14)=false:=by simpa using h14
 by_cases h15:x.ZQ=15
 ·have t15:(x.ZQ == 15)=true:=by simpa using h15
  have HK:=hid h15;clear h15;go_wp2_with (first | (refine lO X0 HI17 Tryz.underlying43 ?_) | fail);have cD:=KP c A x X k Y n g W0 P0.out HT0.out HTm.out;unfold Cm.cs at cD;refine cD.mono ?_
  clear cD;rintro e W1 hd;have hd2:=HHn.out _ _ _ hd;clear hd;obtain⟨hbx,⟨c',A',rfl,hR,hB,hC⟩ | ⟨E,c',h0,rfl,hR,hvs⟩⟩:=hd2
  ·have HBX:=hid hbx;have HRR:=hid hR;have HBB:=hid hB;have HCC:=hid hC;clear hbx hR hB hC P0 X0 HT0 HHn HB0;go_wp2_with fail;have cM:=YX 0 W1;rw [if_pos rfl] at cM;refine cM.mono ?_
   rintro e V9 ⟨rfl,rfl⟩;go_wp2;go_end0;exact⟨HBX.out,Or.inl ⟨c',A',rfl,by rw [VQ.Ip HK.out];exact HRR.out,HBB.out,HCC.out⟩⟩
  ·exact⟨rfl,hbx,Or.inr ⟨E,c',h0,rfl,by rw [VQ.Ip HK.out];exact hR,hvs⟩⟩
 have g15:(x.ZQ == 15)=false:=by simpa using h15
 by_cases h10:x.ZQ=10
 ·have t10:(x.ZQ == 10)=true:=by simpa using h10
  have HK:=hid h10;clear h10;go_wp2_with fail;have HBd1:Hid (Below W0.heap.size W0 W0.drew):=hid br.drew;have HCl:=UO c.ro A.a2 A.k2 A.a3 A.k3 x X k Y n W0.drew (HT0.out.later HBd1.out).Vy.nm (HT0.out.later HBd1.out).Vy.mb HTm.out.2.1;unfold Cm.cs at HCl;replace HCl:=hid HCl;have hS0:W0.drew.cell? ⟨g,4,none⟩=some (.slice A.a2 c.ro.ZW.length A.k2)∧W0.drew.cell? ⟨g,5,none⟩=some (.slice A.a3 c.ro.Z2.length A.k3)∧W0.drew.rangeAt w.heap.size 0 [.int .i64 x.ZQ,.string (Z9 x.ZK),.string (Z9 x.Z8),.string (Z9 x.ZX),.string (Z9 x.name),.string (Z9 x.ZR),.slice X x.ZY.length k,.string (Z9 x.ZZ.name),.int .i64 x.ZZ.ZQ,.slice Y x.ZZ.ZY.length n,.int .i64 x.ZZ.low,.int .i64 x.ZZ.ZF,.string (Z9 x.ZZ.Z8),.string (Z9 x.ZZ.ZX),.string (Z9 x.ZZ.key),.int .i64 x.right,.bool x.Zy]:=⟨P0.out.drew.cell 4,P0.out.drew.cell 5,X0.out.drew.YN⟩
  refine Zw 12 (S:=fun w'=>w'.cell? ⟨g,4,none⟩=some (.slice A.a2 c.ro.ZW.length A.k2)∧w'.cell? ⟨g,5,none⟩=some (.slice A.a3 c.ro.Z2.length A.k3)∧w'.rangeAt w.heap.size 0 [.int .i64 x.ZQ,.string (Z9 x.ZK),.string (Z9 x.Z8),.string (Z9 x.ZX),.string (Z9 x.name),.string (Z9 x.ZR),.slice X x.ZY.length k,.string (Z9 x.ZZ.name),.int .i64 x.ZZ.ZQ,.slice Y x.ZZ.ZY.length n,.int .i64 x.ZZ.low,.int .i64 x.ZZ.ZF,.string (Z9 x.ZZ.Z8),.string (Z9 x.ZZ.ZX),.string (Z9 x.ZZ.key),.int .i64 x.right,.bool x.Zy]) (by kernel_rfl) hS0 (fun HD'=> ?_)
  (try simp only [pp]);refine Y8 0 49 HD' ?_;refine Y8 1 50 HD' ?_;refine Y8 2 51 HD' ?_;refine Y8 3 52 HD' ?_;refine Y8 4 53 HD' ?_;refine ZB.take (i:=5) (oi:=⟨some 54,_,_,_,_,_⟩) (v:=_) rfl (by kernel_rfl) (by kernel_rfl) (by kernel_rfl) (by kernel_rfl) (fun _ _ _ h=>h) (yieldsIf_load_mid (by rfl) _ _ rfl (w.heap.size) 0 rfl [.int .i64 x.ZQ,.string (Z9 x.ZK),.string (Z9 x.Z8),.string (Z9 x.ZX),.string (Z9 x.name),.string (Z9 x.ZR),.slice X x.ZY.length k,.string (Z9 x.ZZ.name),.int .i64 x.ZZ.ZQ,.slice Y x.ZZ.ZY.length n,.int .i64 x.ZZ.low,.int .i64 x.ZZ.ZF,.string (Z9 x.ZZ.Z8),.string (Z9 x.ZZ.ZX),.string (Z9 x.ZZ.key),.int .i64 x.right,.bool x.Zy] _ (fun _ h=>h.2.2) Tryz.underlying43 rfl HI17.out) HD' ?_
  (try simp only [pp]);refine SE 6 55 fun K hK=> ?_
  go_simp;refine HCl.out.mono ?_
  rintro e V1 ⟨er,r',B0,l0,B1,l1,rfl,hRo,hb,htm⟩;have HRo:=hid hRo;have HTr:=hid htm;have HV1:Hid (Below W0.heap.size W0 V1):=hid (HBd1.out.trans hb);have PV:=bl P0 HV1.out;have XV:=bl X0 HV1.out;have HDf:V1.cell? ⟨g,4,none⟩=some (.slice A.a2 c.ro.ZW.length A.k2)∧V1.cell? ⟨g,5,none⟩=some (.slice A.a3 c.ro.Z2.length A.k3)∧V1.rangeAt w.heap.size 0 [.int .i64 x.ZQ,.string (Z9 x.ZK),.string (Z9 x.Z8),.string (Z9 x.ZX),.string (Z9 x.name),.string (Z9 x.ZR),.slice X x.ZY.length k,.string (Z9 x.ZZ.name),.int .i64 x.ZZ.ZQ,.slice Y x.ZZ.ZY.length n,.int .i64 x.ZZ.low,.int .i64 x.ZZ.ZF,.string (Z9 x.ZZ.Z8),.string (Z9 x.ZZ.ZX),.string (Z9 x.ZZ.key),.int .i64 x.right,.bool x.Zy]:=⟨PV.out.cell 4,PV.out.cell 5,XV.out.YN⟩
  clear hb hRo htm;refine hK.out _ _ HDf ?_
  clear hK K;(try simp only [pp])
  clear HD' HCl;have HD':=HDf;refine UY 7 48 (fun _=>HD') ?_;refine UY 8 56 (fun _=>HD') ?_;refine UY 9 57 (fun _=>HD') ?_;refine UY 10 58 (fun _=>HD') ?_;refine UY 11 59 (fun _=>HD') ?_;have HTV:=hid (HT0.out.later HV1.out)
  have HBw:=bt HB0 HV1.out;clear HBd1 HV1 P0 X0 XV HB0 HT0 HHn;refine ZB.Xq (i:=12) (o:=⟨none,_,_,_,_,_⟩) (by kernel_rfl) (by kernel_rfl) rfl (fun K hK=> ?_)
  have e0:V1.cell? ⟨g,4,none⟩=some (.slice A.a2 c.ro.ZW.length A.k2):=HDf.1;have e1:V1.cell? ⟨g,5,none⟩=some (.slice A.a3 c.ro.Z2.length A.k3):=HDf.2.1;have q0:=PV.out.frozen 4;have q1:=PV.out.frozen 5;go_simp;refine hK.out _ _ ?_
  clear hK K;(try simp only [pp])
  refine ZB.behind (i:=13) (o:=⟨some 4,_,_,_,_,_⟩) (by kernel_rfl) (by kernel_rfl) rfl (fun K hK=> ?_)
  go_simp;refine hK.out _ _ (ZB.done (by kernel_rfl) ?_ _);clear hK K HD' HDf hS0 e0 e1 q0 q1;refine SA _ fun V2 hV=> ?_
  have HK2:Hid (ZS [33] V1 V2):=hid (by rw [hV];exact(ZS.ZD PV.out.XM (by simp) _).trans (ZS.ZD (PV.out.XM.setCell _ _) (by simp) _));have P2:Hid (ZP V2 g 33 [.int .i64 c.ZO,.int .i64 c.ZU,.slice A.a0 c.ob.Z4.length A.k0,.slice A.a1 c.ob.Z7.length A.k1,.slice B0 r'.ZW.length l0,.slice B1 r'.Z2.length l1,.slice A.a4 c.Z3.length A.k4]):=hid (by rw [hV];exact(PV.out.ZD 4 _).ZD 5 _);have BX2:Hid (Ze w.heap.size (some g) w V2):=hid (by rw [hV];exact((HBw.out.x (some g)).Ut _).Ut _);clear hV;have hT4:=HTV.out.keeps HK2.out (by decide);have hO4:=HRo.out.keeps HK2.out (by decide);have HF:Hid (Uw V2 ⟨c.ZO,c.ZU,c.ob,r',c.Z3⟩ ⟨A.a0,A.k0,A.a1,A.k1,B0,l0,B1,l1,A.a4,A.k4⟩):=hid ⟨hT4.sc,hT4.tb,hO4.nm.TD (by decide),hO4.mb.TD (by decide),hT4.gr⟩;clear hT4 hO4 HTV HRo HK2 PV;by_cases h0:er=0
  case neg=>
   go_wp2_with fail;have cM:=YX er V2;rw [if_neg h0] at cM;refine cM.mono ?_
   rintro e V9 ⟨rfl,rfl⟩;go_wp2;exact⟨rfl,BX2.out,Or.inr ⟨er,⟨c.ZO,c.ZU,c.ob,r',c.Z3⟩,h0,rfl,by rw [VQ.ro (Or.inl HK.out)];exact Or.inl h0,_,P2.out,rfl⟩⟩
  subst h0;go_wp2_with fail;have cM:=YX 0 V2;rw [if_pos rfl] at cM;refine cM.mono ?_
  rintro e V9 ⟨rfl,rfl⟩;go_wp2;go_end0;exact⟨BX2.out,Or.inl ⟨⟨c.ZO,c.ZU,c.ob,r',c.Z3⟩,⟨A.a0,A.k0,A.a1,A.k1,B0,l0,B1,l1,A.a4,A.k4⟩,rfl,by rw [VQ.ro (Or.inl HK.out)];exact Or.inr ⟨rfl,r',HTr.out,rfl⟩,P2.out,HF.out⟩⟩
 have g10:(x.ZQ == 10)=false:=by simpa using h10
 by_cases h12:x.ZQ=12
 ·have t12:(x.ZQ == 12)=true:=by simpa using h12
  have HK:=hid h12;clear h12;go_wp2_with fail;have HBd1:Hid (Below W0.heap.size W0 W0.drew):=hid br.drew;have HCl:=UO c.ro A.a2 A.k2 A.a3 A.k3 x X k Y n W0.drew (HT0.out.later HBd1.out).Vy.nm (HT0.out.later HBd1.out).Vy.mb HTm.out.2.1;unfold Cm.cs at HCl;replace HCl:=hid HCl;have hS0:W0.drew.cell? ⟨g,4,none⟩=some (.slice A.a2 c.ro.ZW.length A.k2)∧W0.drew.cell? ⟨g,5,none⟩=some (.slice A.a3 c.ro.Z2.length A.k3)∧W0.drew.rangeAt w.heap.size 0 [.int .i64 x.ZQ,.string (Z9 x.ZK),.string (Z9 x.Z8),.string (Z9 x.ZX),.string (Z9 x.name),.string (Z9 x.ZR),.slice X x.ZY.length k,.string (Z9 x.ZZ.name),.int .i64 x.ZZ.ZQ,.slice Y x.ZZ.ZY.length n,.int .i64 x.ZZ.low,.int .i64 x.ZZ.ZF,.string (Z9 x.ZZ.Z8),.string (Z9 x.ZZ.ZX),.string (Z9 x.ZZ.key),.int .i64 x.right,.bool x.Zy]:=⟨P0.out.drew.cell 4,P0.out.drew.cell 5,X0.out.drew.YN⟩
  refine Zw 12 (S:=fun w'=>w'.cell? ⟨g,4,none⟩=some (.slice A.a2 c.ro.ZW.length A.k2)∧w'.cell? ⟨g,5,none⟩=some (.slice A.a3 c.ro.Z2.length A.k3)∧w'.rangeAt w.heap.size 0 [.int .i64 x.ZQ,.string (Z9 x.ZK),.string (Z9 x.Z8),.string (Z9 x.ZX),.string (Z9 x.name),.string (Z9 x.ZR),.slice X x.ZY.length k,.string (Z9 x.ZZ.name),.int .i64 x.ZZ.ZQ,.slice Y x.ZZ.ZY.length n,.int .i64 x.ZZ.low,.int .i64 x.ZZ.ZF,.string (Z9 x.ZZ.Z8),.string (Z9 x.ZZ.ZX),.string (Z9 x.ZZ.key),.int .i64 x.right,.bool x.Zy]) (by kernel_rfl) hS0 (fun HD'=> ?_)
  (try simp only [pp]);refine Y8 0 49 HD' ?_;refine Y8 1 50 HD' ?_;refine Y8 2 51 HD' ?_;refine Y8 3 52 HD' ?_;refine Y8 4 53 HD' ?_;refine ZB.take (i:=5) (oi:=⟨some 54,_,_,_,_,_⟩) (v:=_) rfl (by kernel_rfl) (by kernel_rfl) (by kernel_rfl) (by kernel_rfl) (fun _ _ _ h=>h) (yieldsIf_load_mid (by rfl) _ _ rfl (w.heap.size) 0 rfl [.int .i64 x.ZQ,.string (Z9 x.ZK),.string (Z9 x.Z8),.string (Z9 x.ZX),.string (Z9 x.name),.string (Z9 x.ZR),.slice X x.ZY.length k,.string (Z9 x.ZZ.name),.int .i64 x.ZZ.ZQ,.slice Y x.ZZ.ZY.length n,.int .i64 x.ZZ.low,.int .i64 x.ZZ.ZF,.string (Z9 x.ZZ.Z8),.string (Z9 x.ZZ.ZX),.string (Z9 x.ZZ.key),.int .i64 x.right,.bool x.Zy] _ (fun _ h=>h.2.2) Tryz.underlying43 rfl HI17.out) HD' ?_
  (try simp only [pp]);refine SE 6 55 fun K hK=> ?_
  go_simp;refine HCl.out.mono ?_
  rintro e V1 ⟨er,r',B0,l0,B1,l1,rfl,hRo,hb,htm⟩;have HRo:=hid hRo;have HTr:=hid htm;have HV1:Hid (Below W0.heap.size W0 V1):=hid (HBd1.out.trans hb);have PV:=bl P0 HV1.out;have XV:=bl X0 HV1.out;have HDf:V1.cell? ⟨g,4,none⟩=some (.slice A.a2 c.ro.ZW.length A.k2)∧V1.cell? ⟨g,5,none⟩=some (.slice A.a3 c.ro.Z2.length A.k3)∧V1.rangeAt w.heap.size 0 [.int .i64 x.ZQ,.string (Z9 x.ZK),.string (Z9 x.Z8),.string (Z9 x.ZX),.string (Z9 x.name),.string (Z9 x.ZR),.slice X x.ZY.length k,.string (Z9 x.ZZ.name),.int .i64 x.ZZ.ZQ,.slice Y x.ZZ.ZY.length n,.int .i64 x.ZZ.low,.int .i64 x.ZZ.ZF,.string (Z9 x.ZZ.Z8),.string (Z9 x.ZZ.ZX),.string (Z9 x.ZZ.key),.int .i64 x.right,.bool x.Zy]:=⟨PV.out.cell 4,PV.out.cell 5,XV.out.YN⟩
  clear hb hRo htm;refine hK.out _ _ HDf ?_
  clear hK K;(try simp only [pp])
  clear HD' HCl;have HD':=HDf;refine UY 7 48 (fun _=>HD') ?_;refine UY 8 56 (fun _=>HD') ?_;refine UY 9 57 (fun _=>HD') ?_;refine UY 10 58 (fun _=>HD') ?_;refine UY 11 59 (fun _=>HD') ?_;have HTV:=hid (HT0.out.later HV1.out)
  have HBw:=bt HB0 HV1.out;clear HBd1 HV1 P0 X0 XV HB0 HT0 HHn;refine ZB.Xq (i:=12) (o:=⟨none,_,_,_,_,_⟩) (by kernel_rfl) (by kernel_rfl) rfl (fun K hK=> ?_)
  have e0:V1.cell? ⟨g,4,none⟩=some (.slice A.a2 c.ro.ZW.length A.k2):=HDf.1;have e1:V1.cell? ⟨g,5,none⟩=some (.slice A.a3 c.ro.Z2.length A.k3):=HDf.2.1;have q0:=PV.out.frozen 4;have q1:=PV.out.frozen 5;go_simp;refine hK.out _ _ ?_
  clear hK K;(try simp only [pp])
  refine ZB.behind (i:=13) (o:=⟨some 4,_,_,_,_,_⟩) (by kernel_rfl) (by kernel_rfl) rfl (fun K hK=> ?_)
  go_simp;refine hK.out _ _ (ZB.done (by kernel_rfl) ?_ _);clear hK K HD' HDf hS0 e0 e1 q0 q1;refine SA _ fun V2 hV=> ?_
  have HK2:Hid (ZS [33] V1 V2):=hid (by rw [hV];exact(ZS.ZD PV.out.XM (by simp) _).trans (ZS.ZD (PV.out.XM.setCell _ _) (by simp) _));have P2:Hid (ZP V2 g 33 [.int .i64 c.ZO,.int .i64 c.ZU,.slice A.a0 c.ob.Z4.length A.k0,.slice A.a1 c.ob.Z7.length A.k1,.slice B0 r'.ZW.length l0,.slice B1 r'.Z2.length l1,.slice A.a4 c.Z3.length A.k4]):=hid (by rw [hV];exact(PV.out.ZD 4 _).ZD 5 _);have BX2:Hid (Ze w.heap.size (some g) w V2):=hid (by rw [hV];exact((HBw.out.x (some g)).Ut _).Ut _);clear hV;have hT4:=HTV.out.keeps HK2.out (by decide);have hO4:=HRo.out.keeps HK2.out (by decide);have HF:Hid (Uw V2 ⟨c.ZO,c.ZU,c.ob,r',c.Z3⟩ ⟨A.a0,A.k0,A.a1,A.k1,B0,l0,B1,l1,A.a4,A.k4⟩):=hid ⟨hT4.sc,hT4.tb,hO4.nm.TD (by decide),hO4.mb.TD (by decide),hT4.gr⟩;clear hT4 hO4 HTV HRo HK2 PV;by_cases h0:er=0
  case neg=>
   go_wp2_with fail;have cM:=YX er V2;rw [if_neg h0] at cM;refine cM.mono ?_
   rintro e V9 ⟨rfl,rfl⟩;go_wp2;exact⟨rfl,BX2.out,Or.inr ⟨er,⟨c.ZO,c.ZU,c.ob,r',c.Z3⟩,h0,rfl,by rw [VQ.ro (Or.inr (Or.inl HK.out))];exact Or.inl h0,_,P2.out,rfl⟩⟩
  subst h0;go_wp2_with fail;have cM:=YX 0 V2;rw [if_pos rfl] at cM;refine cM.mono ?_
  rintro e V9 ⟨rfl,rfl⟩;go_wp2;go_end0;exact⟨BX2.out,Or.inl ⟨⟨c.ZO,c.ZU,c.ob,r',c.Z3⟩,⟨A.a0,A.k0,A.a1,A.k1,B0,l0,B1,l1,A.a4,A.k4⟩,rfl,by rw [VQ.ro (Or.inr (Or.inl HK.out))];exact Or.inr ⟨rfl,r',HTr.out,rfl⟩,P2.out,HF.out⟩⟩
 have g12:(x.ZQ == 12)=false:=by simpa using h12
 by_cases h13:x.ZQ=13
 ·have t13:(x.ZQ == 13)=true:=by simpa using h13
  have HK:=hid h13;clear h13;go_wp2_with fail;have HBd1:Hid (Below W0.heap.size W0 W0.drew):=hid br.drew;have HCl:=UO c.ro A.a2 A.k2 A.a3 A.k3 x X k Y n W0.drew (HT0.out.later HBd1.out).Vy.nm (HT0.out.later HBd1.out).Vy.mb HTm.out.2.1;unfold Cm.cs at HCl;replace HCl:=hid HCl;have hS0:W0.drew.cell? ⟨g,4,none⟩=some (.slice A.a2 c.ro.ZW.length A.k2)∧W0.drew.cell? ⟨g,5,none⟩=some (.slice A.a3 c.ro.Z2.length A.k3)∧W0.drew.rangeAt w.heap.size 0 [.int .i64 x.ZQ,.string (Z9 x.ZK),.string (Z9 x.Z8),.string (Z9 x.ZX),.string (Z9 x.name),.string (Z9 x.ZR),.slice X x.ZY.length k,.string (Z9 x.ZZ.name),.int .i64 x.ZZ.ZQ,.slice Y x.ZZ.ZY.length n,.int .i64 x.ZZ.low,.int .i64 x.ZZ.ZF,.string (Z9 x.ZZ.Z8),.string (Z9 x.ZZ.ZX),.string (Z9 x.ZZ.key),.int .i64 x.right,.bool x.Zy]:=⟨P0.out.drew.cell 4,P0.out.drew.cell 5,X0.out.drew.YN⟩
  refine Zw 12 (S:=fun w'=>w'.cell? ⟨g,4,none⟩=some (.slice A.a2 c.ro.ZW.length A.k2)∧w'.cell? ⟨g,5,none⟩=some (.slice A.a3 c.ro.Z2.length A.k3)∧w'.rangeAt w.heap.size 0 [.int .i64 x.ZQ,.string (Z9 x.ZK),.string (Z9 x.Z8),.string (Z9 x.ZX),.string (Z9 x.name),.string (Z9 x.ZR),.slice X x.ZY.length k,.string (Z9 x.ZZ.name),.int .i64 x.ZZ.ZQ,.slice Y x.ZZ.ZY.length n,.int .i64 x.ZZ.low,.int .i64 x.ZZ.ZF,.string (Z9 x.ZZ.Z8),.string (Z9 x.ZZ.ZX),.string (Z9 x.ZZ.key),.int .i64 x.right,.bool x.Zy]) (by kernel_rfl) hS0 (fun HD'=> ?_)
  (try simp only [pp]);refine Y8 0 49 HD' ?_;refine Y8 1 50 HD' ?_;refine Y8 2 51 HD' ?_;refine Y8 3 52 HD' ?_;refine Y8 4 53 HD' ?_;refine ZB.take (i:=5) (oi:=⟨some 54,_,_,_,_,_⟩) (v:=_) rfl (by kernel_rfl) (by kernel_rfl) (by kernel_rfl) (by kernel_rfl) (fun _ _ _ h=>h) (yieldsIf_load_mid (by rfl) _ _ rfl (w.heap.size) 0 rfl [.int .i64 x.ZQ,.string (Z9 x.ZK),.string (Z9 x.Z8),.string (Z9 x.ZX),.string (Z9 x.name),.string (Z9 x.ZR),.slice X x.ZY.length k,.string (Z9 x.ZZ.name),.int .i64 x.ZZ.ZQ,.slice Y x.ZZ.ZY.length n,.int .i64 x.ZZ.low,.int .i64 x.ZZ.ZF,.string (Z9 x.ZZ.Z8),.string (Z9 x.ZZ.ZX),.string (Z9 x.ZZ.key),.int .i64 x.right,.bool x.Zy] _ (fun _ h=>h.2.2) Tryz.underlying43 rfl HI17.out) HD' ?_
  (try simp only [pp]);refine SE 6 55 fun K hK=> ?_
  go_simp;refine HCl.out.mono ?_
  rintro e V1 ⟨er,r',B0,l0,B1,l1,rfl,hRo,hb,htm⟩;have HRo:=hid hRo;have HTr:=hid htm;have HV1:Hid (Below W0.heap.size W0 V1):=hid (HBd1.out.trans hb);have PV:=bl P0 HV1.out;have XV:=bl X0 HV1.out;have HDf:V1.cell? ⟨g,4,none⟩=some (.slice A.a2 c.ro.ZW.length A.k2)∧V1.cell? ⟨g,5,none⟩=some (.slice A.a3 c.ro.Z2.length A.k3)∧V1.rangeAt w.heap.size 0 [.int .i64 x.ZQ,.string (Z9 x.ZK),.string (Z9 x.Z8),.string (Z9 x.ZX),.string (Z9 x.name),.string (Z9 x.ZR),.slice X x.ZY.length k,.string (Z9 x.ZZ.name),.int .i64 x.ZZ.ZQ,.slice Y x.ZZ.ZY.length n,.int .i64 x.ZZ.low,.int .i64 x.ZZ.ZF,.string (Z9 x.ZZ.Z8),.string (Z9 x.ZZ.ZX),.string (Z9 x.ZZ.key),.int .i64 x.right,.bool x.Zy]:=⟨PV.out.cell 4,PV.out.cell 5,XV.out.YN⟩
  clear hb hRo htm;refine hK.out _ _ HDf ?_
  clear hK K;(try simp only [pp])
  clear HD' HCl;have HD':=HDf;refine UY 7 48 (fun _=>HD') ?_;refine UY 8 56 (fun _=>HD') ?_;refine UY 9 57 (fun _=>HD') ?_;refine UY 10 58 (fun _=>HD') ?_;refine UY 11 59 (fun _=>HD') ?_;have HTV:=hid (HT0.out.later HV1.out)
  have HBw:=bt HB0 HV1.out;clear HBd1 HV1 P0 X0 XV HB0 HT0 HHn;refine ZB.Xq (i:=12) (o:=⟨none,_,_,_,_,_⟩) (by kernel_rfl) (by kernel_rfl) rfl (fun K hK=> ?_)
  have e0:V1.cell? ⟨g,4,none⟩=some (.slice A.a2 c.ro.ZW.length A.k2):=HDf.1;have e1:V1.cell? ⟨g,5,none⟩=some (.slice A.a3 c.ro.Z2.length A.k3):=HDf.2.1;have q0:=PV.out.frozen 4;have q1:=PV.out.frozen 5;go_simp;refine hK.out _ _ ?_
  clear hK K;(try simp only [pp])
  refine ZB.behind (i:=13) (o:=⟨some 4,_,_,_,_,_⟩) (by kernel_rfl) (by kernel_rfl) rfl (fun K hK=> ?_)
  go_simp;refine hK.out _ _ (ZB.done (by kernel_rfl) ?_ _);clear hK K HD' HDf hS0 e0 e1 q0 q1;refine SA _ fun V2 hV=> ?_
  have HK2:Hid (ZS [33] V1 V2):=hid (by rw [hV];exact(ZS.ZD PV.out.XM (by simp) _).trans (ZS.ZD (PV.out.XM.setCell _ _) (by simp) _));have P2:Hid (ZP V2 g 33 [.int .i64 c.ZO,.int .i64 c.ZU,.slice A.a0 c.ob.Z4.length A.k0,.slice A.a1 c.ob.Z7.length A.k1,.slice B0 r'.ZW.length l0,.slice B1 r'.Z2.length l1,.slice A.a4 c.Z3.length A.k4]):=hid (by rw [hV];exact(PV.out.ZD 4 _).ZD 5 _);have BX2:Hid (Ze w.heap.size (some g) w V2):=hid (by rw [hV];exact((HBw.out.x (some g)).Ut _).Ut _);clear hV;have hT4:=HTV.out.keeps HK2.out (by decide);have hO4:=HRo.out.keeps HK2.out (by decide);have HF:Hid (Uw V2 ⟨c.ZO,c.ZU,c.ob,r',c.Z3⟩ ⟨A.a0,A.k0,A.a1,A.k1,B0,l0,B1,l1,A.a4,A.k4⟩):=hid ⟨hT4.sc,hT4.tb,hO4.nm.TD (by decide),hO4.mb.TD (by decide),hT4.gr⟩;clear hT4 hO4 HTV HRo HK2 PV;by_cases h0:er=0
  case neg=>
   go_wp2_with fail;have cM:=YX er V2;rw [if_neg h0] at cM;refine cM.mono ?_
   rintro e V9 ⟨rfl,rfl⟩;go_wp2;exact⟨rfl,BX2.out,Or.inr ⟨er,⟨c.ZO,c.ZU,c.ob,r',c.Z3⟩,h0,rfl,by rw [VQ.ro (Or.inr (Or.inr HK.out))];exact Or.inl h0,_,P2.out,rfl⟩⟩
  subst h0;go_wp2_with fail;have cM:=YX 0 V2;rw [if_pos rfl] at cM;refine cM.mono ?_
  rintro e V9 ⟨rfl,rfl⟩;go_wp2;go_end0;exact⟨BX2.out,Or.inl ⟨⟨c.ZO,c.ZU,c.ob,r',c.Z3⟩,⟨A.a0,A.k0,A.a1,A.k1,B0,l0,B1,l1,A.a4,A.k4⟩,rfl,by rw [VQ.ro (Or.inr (Or.inr HK.out))];exact Or.inr ⟨rfl,r',HTr.out,rfl⟩,P2.out,HF.out⟩⟩
 have g13:(x.ZQ == 13)=false:=by simpa using h13
 go_wp2_with fail;have HBd1:Hid (Below W0.heap.size W0 W0.drew):=hid br.drew;have HCl:=QL c.ob A.a0 A.k0 A.a1 A.k1 x X k Y n W0.drew ⟨(HT0.out.later HBd1.out).Vy.sc,(HT0.out.later HBd1.out).Vy.tb⟩ HTm.out.1 (HX.out.later (HB0.out.trans (HBd1.out.mono HB0.out.size))) (HY.out.later (HB0.out.trans (HBd1.out.mono HB0.out.size))) HXt.out HBd.out H5.out;unfold Cm.cs at HCl;replace HCl:=hid HCl;have hS0:W0.drew.cell? ⟨g,2,none⟩=some (.slice A.a0 c.ob.Z4.length A.k0)∧W0.drew.cell? ⟨g,3,none⟩=some (.slice A.a1 c.ob.Z7.length A.k1)∧W0.drew.rangeAt w.heap.size 0 [.int .i64 x.ZQ,.string (Z9 x.ZK),.string (Z9 x.Z8),.string (Z9 x.ZX),.string (Z9 x.name),.string (Z9 x.ZR),.slice X x.ZY.length k,.string (Z9 x.ZZ.name),.int .i64 x.ZZ.ZQ,.slice Y x.ZZ.ZY.length n,.int .i64 x.ZZ.low,.int .i64 x.ZZ.ZF,.string (Z9 x.ZZ.Z8),.string (Z9 x.ZZ.ZX),.string (Z9 x.ZZ.key),.int .i64 x.right,.bool x.Zy]:=⟨P0.out.drew.cell 2,P0.out.drew.cell 3,X0.out.drew.YN⟩
 refine Zw 12 (S:=fun w'=>w'.cell? ⟨g,2,none⟩=some (.slice A.a0 c.ob.Z4.length A.k0)∧w'.cell? ⟨g,3,none⟩=some (.slice A.a1 c.ob.Z7.length A.k1)∧w'.rangeAt w.heap.size 0 [.int .i64 x.ZQ,.string (Z9 x.ZK),.string (Z9 x.Z8),.string (Z9 x.ZX),.string (Z9 x.name),.string (Z9 x.ZR),.slice X x.ZY.length k,.string (Z9 x.ZZ.name),.int .i64 x.ZZ.ZQ,.slice Y x.ZZ.ZY.length n,.int .i64 x.ZZ.low,.int .i64 x.ZZ.ZF,.string (Z9 x.ZZ.Z8),.string (Z9 x.ZZ.ZX),.string (Z9 x.ZZ.key),.int .i64 x.right,.bool x.Zy]) (by kernel_rfl) hS0 (fun HD'=> ?_)
 (try simp only [pp]);refine Y8 0 8 HD' ?_;refine Y8 1 9 HD' ?_;refine Y8 2 10 HD' ?_;refine Y8 3 11 HD' ?_;refine Y8 4 12 HD' ?_;refine ZB.take (i:=5) (oi:=⟨some 13,_,_,_,_,_⟩) (v:=_) rfl (by kernel_rfl) (by kernel_rfl) (by kernel_rfl) (by kernel_rfl) (fun _ _ _ h=>h) (yieldsIf_load_mid (by rfl) _ _ rfl (w.heap.size) 0 rfl [.int .i64 x.ZQ,.string (Z9 x.ZK),.string (Z9 x.Z8),.string (Z9 x.ZX),.string (Z9 x.name),.string (Z9 x.ZR),.slice X x.ZY.length k,.string (Z9 x.ZZ.name),.int .i64 x.ZZ.ZQ,.slice Y x.ZZ.ZY.length n,.int .i64 x.ZZ.low,.int .i64 x.ZZ.ZF,.string (Z9 x.ZZ.Z8),.string (Z9 x.ZZ.ZX),.string (Z9 x.ZZ.key),.int .i64 x.right,.bool x.Zy] _ (fun _ h=>h.2.2) Tryz.underlying43 rfl HI17.out) HD' ?_
 (try simp only [pp]);refine SE 6 14 fun K hK=> ?_
 go_simp;refine HCl.out.mono ?_
 rintro e V1 ⟨er,o',B0,l0,B1,l1,rfl,hR,hRo,hb⟩;have HRo:=hid hRo;have HR:=hid hR;have HV1:Hid (Below W0.heap.size W0 V1):=hid (HBd1.out.trans hb);have PV:=bl P0 HV1.out;have XV:=bl X0 HV1.out;have HDf:V1.cell? ⟨g,2,none⟩=some (.slice A.a0 c.ob.Z4.length A.k0)∧V1.cell? ⟨g,3,none⟩=some (.slice A.a1 c.ob.Z7.length A.k1)∧V1.rangeAt w.heap.size 0 [.int .i64 x.ZQ,.string (Z9 x.ZK),.string (Z9 x.Z8),.string (Z9 x.ZX),.string (Z9 x.name),.string (Z9 x.ZR),.slice X x.ZY.length k,.string (Z9 x.ZZ.name),.int .i64 x.ZZ.ZQ,.slice Y x.ZZ.ZY.length n,.int .i64 x.ZZ.low,.int .i64 x.ZZ.ZF,.string (Z9 x.ZZ.Z8),.string (Z9 x.ZZ.ZX),.string (Z9 x.ZZ.key),.int .i64 x.right,.bool x.Zy]:=⟨PV.out.cell 2,PV.out.cell 3,XV.out.YN⟩
 clear hb hRo hR;refine hK.out _ _ HDf ?_
 clear hK K;(try simp only [pp])
 clear HD' HCl;have HD':=HDf;refine UY 7 7 (fun _=>HD') ?_;refine UY 8 15 (fun _=>HD') ?_;refine UY 9 16 (fun _=>HD') ?_;refine UY 10 17 (fun _=>HD') ?_;refine UY 11 18 (fun _=>HD') ?_;have HTV:=hid (HT0.out.later HV1.out)
 have HBw:=bt HB0 HV1.out;clear HBd1 HV1 P0 X0 XV HB0 HT0 HHn;refine ZB.Xq (i:=12) (o:=⟨none,_,_,_,_,_⟩) (by kernel_rfl) (by kernel_rfl) rfl (fun K hK=> ?_)
 have e0:V1.cell? ⟨g,2,none⟩=some (.slice A.a0 c.ob.Z4.length A.k0):=HDf.1;have e1:V1.cell? ⟨g,3,none⟩=some (.slice A.a1 c.ob.Z7.length A.k1):=HDf.2.1;have q0:=PV.out.frozen 2;have q1:=PV.out.frozen 3;go_simp;refine hK.out _ _ ?_
 clear hK K;(try simp only [pp])
 refine ZB.behind (i:=13) (o:=⟨some 4,_,_,_,_,_⟩) (by kernel_rfl) (by kernel_rfl) rfl (fun K hK=> ?_)
 go_simp;refine hK.out _ _ (ZB.done (by kernel_rfl) ?_ _);clear hK K HD' HDf hS0 e0 e1 q0 q1;refine SA _ fun V2 hV=> ?_
 have HK2:Hid (ZS [33] V1 V2):=hid (by rw [hV];exact(ZS.ZD PV.out.XM (by simp) _).trans (ZS.ZD (PV.out.XM.setCell _ _) (by simp) _));have P2:Hid (ZP V2 g 33 [.int .i64 c.ZO,.int .i64 c.ZU,.slice B0 o'.Z4.length l0,.slice B1 o'.Z7.length l1,.slice A.a2 c.ro.ZW.length A.k2,.slice A.a3 c.ro.Z2.length A.k3,.slice A.a4 c.Z3.length A.k4]):=hid (by rw [hV];exact(PV.out.ZD 2 _).ZD 3 _);have BX2:Hid (Ze w.heap.size (some g) w V2):=hid (by rw [hV];exact((HBw.out.x (some g)).Ut _).Ut _);clear hV;have hT4:=HTV.out.keeps HK2.out (by decide);have hO4:=HRo.out.keeps HK2.out (by decide);have HF:Hid (Uw V2 ⟨c.ZO,c.ZU,o',c.ro,c.Z3⟩ ⟨B0,l0,B1,l1,A.a2,A.k2,A.a3,A.k3,A.a4,A.k4⟩):=hid ⟨hO4.Ig,hO4.Ie,hT4.nm,hT4.mb,hT4.gr⟩;clear hT4 hO4 HTV HRo HK2 PV;by_cases h0:er=0
 case neg=>
  go_wp2_with fail;have cM:=YX er V2;rw [if_neg h0] at cM;refine cM.mono ?_
  rintro e V9 ⟨rfl,rfl⟩;go_wp2;exact⟨rfl,BX2.out,Or.inr ⟨er,⟨c.ZO,c.ZU,o',c.ro,c.Z3⟩,h0,rfl,by rw [VQ.ob h4 h9 h11 h14 h15 (by omega)];exact⟨o',HR.out,rfl⟩,_,P2.out,rfl⟩⟩
 subst h0;go_wp2_with fail;have cM:=YX 0 V2;rw [if_pos rfl] at cM;refine cM.mono ?_
 rintro e V9 ⟨rfl,rfl⟩;go_wp2;go_end0;exact⟨BX2.out,Or.inl ⟨⟨c.ZO,c.ZU,o',c.ro,c.Z3⟩,⟨B0,l0,B1,l1,A.a2,A.k2,A.a3,A.k3,A.a4,A.k4⟩,rfl,by rw [VQ.ob h4 h9 h11 h14 h15 (by omega)];exact⟨o',HR.out,rfl⟩,P2.out,HF.out⟩⟩
end Go.Proofs.YtnhmoibjlakhjaaGreat
namespace Go.Proofs.YtnhmoibjlakhjaaGreat
set_option maxRecDepth 100000
set_option maxHeartbeats 16000000
theorem Ru.Zs.up {r:Ru}{M N:Nat}(h:r.Zs M)(hm:M≤N):r.Zs N:=⟨Nat.le_trans h.1 hm,Nat.le_trans h.2.1 hm,Nat.le_trans h.2.2.1 hm,Nat.le_trans h.2.2.2 hm⟩
theorem Tb.Zs.up {t:Tb}{M N:Nat}(h:t.Zs M)(hm:M≤N):t.Zs N:=⟨Nat.le_trans h.1 hm,Nat.le_trans h.2.1 hm,fun r hr=>(h.2.2 r hr).up hm⟩
theorem Ob.Zs.up {o:Ob}{M N:Nat}(h:o.Zs M)(hm:M≤N):o.Zs N:=⟨Nat.le_trans h.1 hm,Nat.le_trans h.2.1 hm,fun t ht=>(h.2.2 t ht).up hm⟩
theorem Ro.Zs.up {r:Ro}{M N:Nat}(h:r.Zs M)(hm:M≤N):r.Zs N:=⟨Nat.le_trans h.1 hm,Nat.le_trans h.2.1 hm,fun n hn=>Nat.le_trans (h.2.2.1 n hn) hm,fun m hm'=>⟨Nat.le_trans (h.2.2.2 m hm').1 hm,Nat.le_trans (h.2.2.2 m hm').2 hm⟩⟩
theorem Ca.Zs.up {c:Ca}{M N:Nat}(h:c.Zs M)(hm:M≤N):c.Zs N:=⟨Ob.Zs.up h.1 hm,Ro.Zs.up h.2.1 hm,Nat.le_trans h.2.2 hm⟩
theorem UG {o:Ob}{i:Nat}{t:Tb}{M:Nat}(ho:o.Zs M)(ht:t.Zs M):(UF o i t).Zs M:=by
 refine⟨ho.1,by simpa [UF] using ho.2.1,fun y hy=> ?_⟩
 rcases List.mem_or_eq_of_mem_set hy with h | h
 ·exact ho.2.2 y h
 ·rw [h];exact ht
theorem WX {o:Ob}{M i:Nat}(ho:o.Zs M)(hi:i<o.Z7.length):(o.Z7[i]).Zs M:=ho.2.2 _ (List.getElem_mem hi)
theorem KO {o o':Ob}{x:Cm}{M:Nat}(ho:o.Zs 64)(hM:65≤M)(hx:x.Zs M)(h:IZ o x 0 o'):o'.Zs M:=by
 have hoM:=ho.up (show 64≤M by omega);unfold IZ at h;split at h
 ·rcases h with ⟨rfl,_⟩ | ⟨_,_,_,_,_,ss',hp,_,rfl⟩
  ·exact hoM
  ·refine⟨?_,hoM.2⟩
   have:=hp.length_eq;have:=ho.1;simp at*;omega
 split at h
 ·rcases h with ⟨_,rfl⟩ | ⟨_,k,_,_,rfl⟩
  ·exact hoM
  ·exact⟨Nat.le_trans (List.length_eraseIdx_le _ _) hoM.1,hoM.2⟩
 split at h
 ·rcases h with ⟨_,rfl⟩ | ⟨_,_,_,_,_,_,_,_,ts',hp,_,rfl⟩
  ·exact hoM
  ·refine⟨hoM.1,?_,fun y hy=> ?_⟩
   ·have:=hp.length_eq;have:=ho.2.1;simp at*;omega
   ·have:=hp.mem_iff.1 hy;rcases List.mem_append.1 this with h1 | h1
    ·exact hoM.2.2 y h1
    ·rw [List.mem_singleton.1 h1];exact⟨hx.2.2.2.2.2.1,by simp,by simp⟩
 split at h
 ·rcases h with ⟨_,h⟩ | ⟨i,_,h⟩
  ·cases h
  ·rcases h with ⟨_,rfl⟩ | ⟨_,hi,_,_,_,_,rfl⟩
   ·exact hoM
   ·refine UG hoM ⟨?_,(WX hoM hi).2⟩
    have:=(WX ho hi).1;simp
    omega
 split at h
 ·rcases h with ⟨_,h⟩ | ⟨i,_,h⟩
  ·cases h
  ·rcases h with ⟨_,rfl⟩ | ⟨_,hi,k,_,_,_,rfl⟩
   ·exact hoM
   ·exact UG hoM ⟨Nat.le_trans (List.length_eraseIdx_le _ _) (WX hoM hi).1,(WX hoM hi).2⟩
 split at h
 ·rcases h with ⟨_,h⟩ | ⟨i,_,h⟩
  ·cases h
  ·rcases h with ⟨_,rfl⟩ | ⟨_,hi,_,_,_,_,rs',hp,_,rfl⟩
   ·exact hoM
   ·refine UG hoM ⟨(WX hoM hi).1,?_,fun y hy=> ?_⟩
    ·have:=hp.length_eq;have:=(WX ho hi).2.1;simp at*;omega
    ·have:=hp.mem_iff.1 hy;rcases List.mem_append.1 this with h1 | h1
     ·exact(WX hoM hi).2.2 y h1
     ·rw [List.mem_singleton.1 h1];exact hx.2.2.2.2.2.2.1
 ·rcases h with ⟨_,h⟩ | ⟨i,_,h⟩
  ·cases h
  ·rcases h with ⟨_,rfl⟩ | ⟨_,hi,k,_,_,rfl⟩
   ·exact hoM
   ·exact UG hoM ⟨(WX hoM hi).1,Nat.le_trans (List.length_eraseIdx_le _ _) (WX hoM hi).2.1,fun y hy=>(WX hoM hi).2.2 y (List.mem_of_mem_eraseIdx hy)⟩
theorem PC {o o':Ob}{R:Int→Ob→Prop}(h:Pe o R 0 o'):YR o=true∧R 0 o':=by
 unfold Pe at h;split at h
 ·rename_i h0;obtain⟨o'',h1,h2⟩:=h;simp only [if_true] at h2;rw [h2];exact⟨h0,h1⟩
 ·cases h.1
theorem MM {c c':Ca}{x:Cm}{M:Nat}(hM:512≤M)(hc:c.Zs 256)(hx:x.Zs M)(h:VQ c x 0 c'):c'.Zs M:=by
 have hcM:=Ca.Zs.up hc (show 256≤M by omega);unfold VQ at h;split at h
 ·obtain⟨o',ho,rfl⟩:=h;obtain⟨hk,hr⟩:=PC ho;refine⟨?_,hcM.2.1,Nat.le_trans (List.length_filter_le _ _) hcM.2.2⟩
  rcases hr with ⟨_,rfl⟩ | ⟨_,i,_,_,rfl⟩
  ·exact hcM.1
  ·exact⟨hcM.1.1,Nat.le_trans (List.length_eraseIdx_le _ _) hcM.1.2.1,fun y hy=>hcM.1.2.2 y (List.mem_of_mem_eraseIdx hy)⟩
 split at h
 ·rcases h with ⟨h,_⟩ | ⟨_,o',ho,rfl⟩
  ·cases h
  ·obtain⟨hk,hr⟩:=PC ho;refine⟨?_,hcM.2⟩
   rcases hr with ⟨h,_⟩ | ⟨h,h2⟩ | ⟨i,_,_,hi,rfl⟩
   ·cases h
   ·cases h2
   ·exact UG hcM.1 (WX hcM.1 hi)
 split at h
 ·rcases h with h | ⟨_,r',hr,rfl⟩
  ·exact absurd rfl h
  ·exact⟨hcM.1,hr.up hM,hcM.2.2⟩
 split at h
 ·rcases h with h | ⟨_,l,hl,rfl⟩
  ·exact absurd rfl h
  ·refine⟨hcM.1,hcM.2.1,?_⟩
   have:=hc.2.2;show l.length≤M
   omega
 split at h
 ·rcases h with ⟨h,_⟩ | ⟨_,_,rfl⟩
  ·cases h
  ·exact⟨hcM.1,hcM.2.1,Nat.le_trans (List.length_filter_le _ _) hcM.2.2⟩
 split at h
 ·rcases h with h | ⟨_,r',hr,rfl⟩
  ·exact absurd rfl h
  ·exact⟨hcM.1,hr.up hM,hcM.2.2⟩
 ·obtain⟨o',ho,rfl⟩:=h;obtain⟨hk,hr⟩:=PC ho;exact⟨KO (SX hk) (by omega) hx hr,hcM.2⟩
end Go.Proofs.YtnhmoibjlakhjaaGreat
namespace Go.Proofs.YtnhmoibjlakhjaaGreat
open Lib (hid)
set_option maxRecDepth 100000
set_option maxHeartbeats 16000000
open Go.RowKit
def I2 (c:Ca)(x:Cm)(er:Int)(c':Ca):Prop:=
 (Wp c x≠0∧er=Wp c x)∨(Wp c x=0∧er≠0∧ ∃ c1,VQ c x er c1)∨(Wp c x=0∧ST c x=true∧er=92)∨
 (er=0∧Wp c x=0∧ST c x=false∧ ∃ c1 l,VQ c x 0 c1∧l.Perm (VX c1)∧c'=⟨c.ZO+ (if Xa x=true then 1 else 0),c.ZU+1,c1.ob,c1.ro,l⟩)
def Jd (c:Ca)(x:Cm)(w:World)(e:Ending)(w':World):Prop:=
 ∃ er c' A',e= .returned (.tuple #[.agg (c'.cs A').toArray,.int .i64 er])∧I2 c x er c'∧(er=0→Uw w' c' A')∧Below w.heap.size w w'
section
variable {c : Ca} {x : Cm}
theorem IR (h:XS c≠0):Wp c x=XS c:=by
 unfold Wp;rw [if_pos h];unfold XS at h ⊢;split at h
 ·exact absurd rfl h
 ·rename_i h';rw [if_neg h']
theorem IQ (h1:XS c=0)(h2:Va x=false):Wp c x=90:=by unfold Wp;rw [if_neg (by simp [h1]),if_pos h2]
theorem IP (h1:XS c=0)(h2:Va x=true)(h3:c.ro.ZW.contains x.ZK=false):Wp c x=71:=by unfold Wp;rw [if_neg (by simp [h1]),if_neg (by simp [h2]),if_pos h3]
theorem IN (h1:XS c=0)(h2:Va x=true)(h3:c.ro.ZW.contains x.ZK=true)(h4:Wu c x=false):Wp c x=61:=by unfold Wp;rw [if_neg (by simp [h1]),if_neg (by simp [h2]),if_neg (by rw [h3];simp),if_pos h4]
theorem IM (h1:XS c=0)(h2:Va x=true)(h3:c.ro.ZW.contains x.ZK=true)(h4:Wu c x=true)(h5:Wt c x≠0):Wp c x=Wt c x:=by unfold Wp;rw [if_neg (by simp [h1]),if_neg (by simp [h2]),if_neg (by rw [h3];simp),if_neg (by simp [h4]),if_pos h5]
theorem pre6 (h1:XS c=0)(h2:Va x=true)(h3:c.ro.ZW.contains x.ZK=true)(h4:Wu c x=true)(h5:Wt c x=0)(h6:WD c x=false):Wp c x=91:=by unfold Wp;rw [if_neg (by simp [h1]),if_neg (by simp [h2]),if_neg (by rw [h3];simp),if_neg (by simp [h4]),if_neg (by simp [h5]),if_pos h6]
theorem Ik (h1:XS c=0)(h2:Va x=true)(h3:c.ro.ZW.contains x.ZK=true)(h4:Wu c x=true)(h5:Wt c x=0)(h6:WD c x=true):Wp c x=0:=by unfold Wp;rw [if_neg (by simp [h1]),if_neg (by simp [h2]),if_neg (by rw [h3];simp),if_neg (by simp [h4]),if_neg (by simp [h5]),if_neg (by simp [h6])]
theorem J8 (h:Va x=true)(h5:x.ZQ=5):x.ZY.length=1:=by
 unfold Va RD at h;rw [if_neg (by omega),if_pos h5] at h;simp only [Bool.and_eq_true,beq_iff_eq] at h;exact h.2.2
theorem Mp (h2:Va x=true)(h4:Wu c x=true)(hb:Sg x.ZQ=1):(c.ob.Z4.any fun s=>s.name == x.Z8)=true:=by
 have hk:x.ZQ=2∨x.ZQ=3:=by
  unfold Sg at hb;split at hb
  ·assumption
  ·split at hb
   ·cases hb
   ·split at hb <;> cases hb
 have hs:x.Z8≠ []:=by
  unfold Va Rh at h2;simp only [Bool.and_eq_true] at h2;have h3:=h2.1.2.1.1.1;have hu:(VR x.ZQ).1=true:=by rcases hk with h | h <;> rw [h] <;> rfl
  rw [hu] at h3;intro e;rw [e] at h3
  cases h3
 have h1:x.ZQ≠1:=by omega
 unfold Wu at h4;simpa [hs,h1] using h4
theorem J5 (h:false=(!(x.Z8 == []) && !(x.ZQ == 1))):Wu c x=true:=by
 unfold Wu
 cases h1:(x.Z8 == []) <;> cases h2:(x.ZQ == 1) <;> rw [h1,h2] at h <;> first | rfl | cases h
theorem J4 (h:true=(!(x.Z8 == []) && !(x.ZQ == 1))):Wu c x=c.ob.Z4.any fun s=>s.name == x.Z8:=by
 unfold Wu
 cases h1:(x.Z8 == []) <;> cases h2:(x.ZQ == 1) <;> rw [h1,h2] at h <;> first | rfl | cases h
theorem J3 (h:false=(!(x.ZX == []) && !(x.ZQ == 3))):Wt c x=0:=by
 unfold Wt
 cases h1:(x.ZX == []) with
 | true=>rw [if_pos (Or.inl (by simpa using h1))]
 | false=>
  cases h2:(x.ZQ == 3) with
  | true=>rw [if_pos (Or.inr (by simpa using h2))]
  | false=>rw [h1,h2] at h;cases h
theorem J2 (h:true=(!(x.ZX == []) && !(x.ZQ == 3))):Wt c x=QP c.ob x.Z8 x.ZX:=by
 unfold Wt
 cases h1:(x.ZX == []) with
 | true=>rw [h1] at h;cases h
 | false=>
  cases h2:(x.ZQ == 3) with
  | true=>rw [h1,h2] at h;cases h
  | false=>rw [if_neg (by rintro(h3 | h3) <;> simp_all)];rfl
theorem Kh {c1:Ca}(h:VQ c x 0 c1):c1.ZO=c.ZO∧c1.ZU=c.ZU:=by
 unfold VQ at h;split at h
 ·obtain⟨_,_,rfl⟩:=h;exact⟨rfl,rfl⟩
 split at h
 ·rcases h with ⟨h,_⟩ | ⟨_,_,_,rfl⟩
  ·cases h
  ·exact⟨rfl,rfl⟩
 split at h
 ·rcases h with h | ⟨_,_,_,rfl⟩
  ·exact absurd rfl h
  ·exact⟨rfl,rfl⟩
 split at h
 ·rcases h with h | ⟨_,_,_,rfl⟩
  ·exact absurd rfl h
  ·exact⟨rfl,rfl⟩
 split at h
 ·rcases h with ⟨h,_⟩ | ⟨_,_,rfl⟩
  ·cases h
  ·exact⟨rfl,rfl⟩
 split at h
 ·rcases h with h | ⟨_,_,_,rfl⟩
  ·exact absurd rfl h
  ·exact⟨rfl,rfl⟩
 ·obtain⟨_,_,rfl⟩:=h;exact⟨rfl,rfl⟩
end
theorem Te {P:Program}{fn:Func}{t u:Tmp}{ty ty2:TypeId}(h:fn.results= #[.cell t ty,.cell u ty2])(tmps:Array Value)(w:World)(b b2:Nat)(hb:tmps.getD t undef= .pointer (some ⟨b,0,none⟩))(hb2:tmps.getD u undef= .pointer (some ⟨b2,0,none⟩))
  {t':TypeId} {cs:List Value} {v:Value} (hB:Hid (ZP w b t' cs)) {n:Nat} (hn:cs.length=n) {d:TypeDesc} (hu:P.underlying ty=some d) (hd:d.isRow=true) (hi:Hid ((P.info? ty).map (·.size)=some n))
  (hl2:(loadVar ty2 ⟨b2,0,none⟩).run P w= .ok v w):(results fn tmps).run P w= .ok (.tuple #[.agg cs.toArray,v]) w:=by
 have hl:=run_loadVar_mid w b 0 ty cs d hB.out.YN hu hd (hn▸hi.out);have hb':tmps[t]?.getD undef= .pointer (some ⟨b,0,none⟩):=by simpa using hb
 have hb2':tmps[u]?.getD undef= .pointer (some ⟨b2,0,none⟩):=by simpa using hb2
 simp [results,h,hb',hl,hb2',hl2,asAddr]
theorem Uf (w:World)(b:Nat)(E:Int)(h:w.cell? ⟨b,0,none⟩=some (.int .i64 E)):(loadVar 45 ⟨b,0,none⟩).run Tryz.prog w= .ok (.int .i64 E) w:=by
 simp [go_sem,h]
theorem Yc (tmps:Array Value)(R:Ending→World→Prop)(base b2 b3:Nat)(E:Int)(vs:List Value)(xv:Int)(W:World){fv:Fn}{cap dargs:Array Value}
  (h4:tmps.getD 4 undef= .pointer (some ⟨b2,0,none⟩)) (h5:tmps.getD 5 undef= .pointer (some ⟨b3,0,none⟩)) (hi:(invoke (.fn fv cap) dargs).run Tryz.prog W= .ok (.enter 25 #[.pointer (some ⟨b2,0,none⟩),.pointer (some ⟨b3,0,none⟩)]) W)
  (hQ:Hid (ZP W b2 33 vs)) (hl:vs.length=7) (hH:Hid (ZP W b3 45 [.int .i64 xv])) (hb2:base≤b2) (hb3:base≤b3) (hne:b2≠b3)
  (hR: ∀ w',Below base W w'→R (.returned (.tuple #[.agg (Ca.zero.cs WV.zero).toArray,.int .i64 E])) w'):
  Leaves Tryz.prog Tryz.f9 tmps R [{ target:= .fn fv cap,args:=dargs}] (.panicking (TK E)) W:=by
 have HI7:=iN 33 7;refine leaves_cons (f:=25) (args:= #[.pointer (some ⟨b2,0,none⟩),.pointer (some ⟨b3,0,none⟩)]) (by simp) hi ?_
 refine(Mr base b2 b3 E vs xv W hQ.out hl hH.out hb2 hb3 hne).mono ?_
 rintro e u' w' ⟨rfl,rfl,hB,hE,hb⟩;refine⟨_,Te Tryz.results9 tmps w' b2 b3 h4 h5 (hid hB) rfl Tryz.underlying33 rfl HI7 (Uf w' b3 E (hE.cell 0)),hR w' hb⟩
theorem Lo (w:World)(a b d e:List Value)(t u v y:TypeId)(W:World)(hW:W=(((w.alloc (.cells a.toArray t)).alloc (.cells b.toArray u)).alloc (.cells d.toArray v)).alloc (.cells e.toArray y)):
  ZP W w.heap.size t a∧ZP W (w.heap.size+1) u b∧ZP W (w.heap.size+1+1) v d∧ZP W (w.heap.size+1+1+1) y e∧Below w.heap.size w W:=by
 subst hW;have s1:(w.alloc (.cells a.toArray t)).heap.size=w.heap.size+1:=by simp
 have s2:((w.alloc (.cells a.toArray t)).alloc (.cells b.toArray u)).heap.size=w.heap.size+1+1:=by simp
 have s3:(((w.alloc (.cells a.toArray t)).alloc (.cells b.toArray u)).alloc (.cells d.toArray v)).heap.size=w.heap.size+1+1+1:=by simp
 refine⟨(((ZP.new w t a).alloc _).alloc _).alloc _,?_,?_,?_,?_⟩
 ·have h:=((ZP.new (w.alloc (.cells a.toArray t)) u b).alloc (.cells d.toArray v)).alloc (.cells e.toArray y);rwa [s1] at h
 ·have h:=(ZP.new ((w.alloc (.cells a.toArray t)).alloc (.cells b.toArray u)) v d).alloc (.cells e.toArray y);rwa [s2] at h
 ·have h:=ZP.new (((w.alloc (.cells a.toArray t)).alloc (.cells b.toArray u)).alloc (.cells d.toArray v)) y e;rwa [s3] at h
 ·exact(((br.alloc lr _).alloc (by omega) _).alloc (by omega) _).alloc (by omega) _
theorem Wi (c:Ca)(A:WV)(x:Cm)(X:Option Addr)(k:Nat)(Y:Option Addr)(n:Nat)(w:World)(hc:Wh w w.heap.size c A)(ht:c.Zs 1099511627776)
  (hX:ZV w (· < w.heap.size) Zo (x.ZY.map Cl.da) X) (hY:ZV w (· < w.heap.size) [.Z9] (YY x.ZZ.ZY) Y) (hx:x.Zs 549755813888) (hbd:QZ x.ZZ):
  Calls Tryz.prog 9 #[.agg (c.cs A).toArray,.agg (x.cs X k Y n).toArray] w (Jd c x w):=by
 have HC:=hid hc;have HTm:=hid ht;have HX:=hid hX;have HY:=hid hY;have HXs:=hid hx;have HXt:Hid (x.Zs 1099511627776):=hid ⟨Nat.le_trans hx.1 (by omega),Nat.le_trans hx.2.1 (by omega),Nat.le_trans hx.2.2.1 (by omega),Nat.le_trans hx.2.2.2.1 (by omega),Nat.le_trans hx.2.2.2.2.1 (by omega),Nat.le_trans hx.2.2.2.2.2.1 (by omega),hx.2.2.2.2.2.2.1.up (by omega),Nat.le_trans hx.2.2.2.2.2.2.2 (by omega)⟩;have HBd:=hid hbd;have HI7:=iN 33 7;have HI17:=iN 43 17;clear hc ht hX hY hx hbd;obtain⟨W4,hW4⟩: ∃ W4,W4=((((w.alloc (.cells #[.int .i64 c.ZO,.int .i64 c.ZU,.slice A.a0 c.ob.Z4.length A.k0,.slice A.a1 c.ob.Z7.length A.k1,.slice A.a2 c.ro.ZW.length A.k2,.slice A.a3 c.ro.Z2.length A.k3,.slice A.a4 c.Z3.length A.k4] 33)).alloc (.cells #[.int .i64 x.ZQ,.string (Z9 x.ZK),.string (Z9 x.Z8),.string (Z9 x.ZX),.string (Z9 x.name),.string (Z9 x.ZR),.slice X x.ZY.length k,.string (Z9 x.ZZ.name),.int .i64 x.ZZ.ZQ,.slice Y x.ZZ.ZY.length n,.int .i64 x.ZZ.low,.int .i64 x.ZZ.ZF,.string (Z9 x.ZZ.Z8),.string (Z9 x.ZZ.ZX),.string (Z9 x.ZZ.key),.int .i64 x.right,.bool x.Zy] 43)).alloc (.cells #[.int .i64 0,.int .i64 0,.slice none 0 0,.slice none 0 0,.slice none 0 0,.slice none 0 0,.slice none 0 0] 33)).alloc (.cells #[.int .i64 0] 45)):=⟨_,rfl⟩
 obtain⟨p0,x0,q0,e0,hb⟩:=Lo w _ _ _ _ _ _ _ _ W4 hW4;have P0:=hid p0;have X0:=hid x0;have Q0:=hid q0;have E0:=hid e0;have HB0:=hid hb;clear p0 x0 q0 e0 hb;unfold Cm.cs Ca.cs;go_enter_defers Tryz.func9,Tryz.ntmps9
 go_wp2_with (first | (refine lO P0 HI7 Tryz.underlying33 ?_) | fail);try (rw [←hW4])
 clear hW4;have HCk:Hid (Wh W4 W4.heap.size c A):=hid (HC.out.later HB0.out);have cC:=NP c A W4 HCk.out HTm.out;unfold Ca.cs at cC;refine cC.mono ?_
 rintro e W5 ⟨rfl,hb⟩;clear cC;have P1:=bl P0 hb;have X1:=bl X0 hb;have Q1:=bl Q0 hb;have E1:=bl E0 hb;have HB1:=bt HB0 hb;clear hb P0 X0 Q0 E0 HB0;have P0:=P1;have X0:=X1;have Q0:=Q1;have E0:=E1;have HB0:=HB1;clear P1 X1 Q1 E1 HB1;clear HCk;by_cases h1:XS c=0
 case neg=>
  go_wp2_with fail;have cM:=YX (XS c) W5;rw [if_neg h1] at cM;refine cM.mono ?_
  rintro e W9 ⟨rfl,rfl⟩;refine Yc _ _ w.heap.size (w.heap.size+1+1) (w.heap.size+1+1+1) (XS c) _ 0 _ (by simp) (by simp) (by simp [go_sem]) Q0 rfl E0 (by omega) (by omega) (by omega) (fun w' hb'=> ?_)
  exact⟨XS c,Ca.zero,WV.zero,rfl,Or.inl ⟨by rw [IR h1];exact h1,(IR h1).symm⟩,fun h=>absurd h h1,HB0.out.trans hb'⟩
 rw [h1];have H1:=hid h1;go_wp2_with fail;have cM:=YX 0 W5;rw [if_pos rfl] at cM;refine cM.mono ?_
 rintro e W6 ⟨rfl,rfl⟩;clear cM h1;go_wp2_with (first | (refine lO X0 HI17 Tryz.underlying43 ?_) | fail);have cY:=NW x X k Y n W6 HXt.out;unfold Cm.cs at cY;refine cY.mono ?_
 rintro e W7 ⟨rfl,hb⟩;clear cY;have P1:=bl P0 hb;have X1:=bl X0 hb;have Q1:=bl Q0 hb;have E1:=bl E0 hb;have HB1:=bt HB0 hb;clear hb P0 X0 Q0 E0 HB0;have P0:=P1;have X0:=X1;have Q0:=Q1;have E0:=E1;have HB0:=HB1;clear P1 X1 Q1 E1 HB1
 cases h2:Va x
 case false=>
  go_wp2_with fail;refine(YD false 90 W7).mono ?_
  rintro e W9 ⟨rfl,rfl⟩;refine Yc _ _ w.heap.size (w.heap.size+1+1) (w.heap.size+1+1+1) 90 _ 0 _ (by simp) (by simp) (by simp [go_sem]) Q0 rfl E0 (by omega) (by omega) (by omega) (fun w' hb'=> ?_)
  exact⟨90,Ca.zero,WV.zero,rfl,Or.inl ⟨by rw [IQ H1.out h2];decide,(IQ H1.out h2).symm⟩,fun h=>absurd h (by decide),HB0.out.trans hb'⟩
 have H2:=hid h2;clear h2;go_wp2_with fail;refine(YD true 90 W7).mono ?_
 rintro e W8 ⟨rfl,rfl⟩;have q4:=ce P0 4;have r1:=ce X0 1;have hnl:=HTm.out.2.1.1;go_wp2_with fail;refine(Zl c.ro.ZW A.a2 A.k2 x.ZK W8 (HC.out.later HB0.out).nm hnl).mono ?_
 rintro e W10 ⟨rfl,rfl⟩;clear q4 r1
 cases h3:c.ro.ZW.contains x.ZK
 case false=>
  go_wp2_with fail;refine(YD false 71 W10).mono ?_
  rintro e W9 ⟨rfl,rfl⟩;refine Yc _ _ w.heap.size (w.heap.size+1+1) (w.heap.size+1+1+1) 71 _ 0 _ (by simp) (by simp) (by simp [go_sem]) Q0 rfl E0 (by omega) (by omega) (by omega) (fun w' hb'=> ?_)
  exact⟨71,Ca.zero,WV.zero,rfl,Or.inl ⟨by rw [IP H1.out H2.out h3];decide,(IP H1.out H2.out h3).symm⟩,fun h=>absurd h (by decide),HB0.out.trans hb'⟩
 have H3:=hid h3;clear h3;go_wp2_with fail;refine(YD true 71 W10).mono ?_
 rintro e W11 ⟨rfl,rfl⟩;have HS:Hid (Wu c x=(x.Z8 == [] || x.ZQ == 1 || c.ob.Z4.any fun s=>s.name == x.Z8)):=hid rfl;have HNT:Hid (Wt c x=if x.ZX= []∨x.ZQ=3 then 0 else QP c.ob x.Z8 x.ZX):=hid rfl;go_upto_region 5 with fail
 have r2:=ce X0 2;have r0:=ce X0 0;go_cut [29] from 6 to 91 (fun v W=> ∃ b,v= .bool b∧Hid (b=(!(x.Z8 == []) && !(x.ZQ == 1)))∧Hid (W=W11))
 case first=>
  cases hs:(x.Z8 == [])
  ·have hs2:x.Z8.isEmpty=false:=by simpa using hs
   have hs3:(x.Z8 != [])=true:=by simpa using hs
   cases hk:(x.ZQ == 1)
   ·have hk2:(x.ZQ != 1)=true:=by simpa using hk
    go_wp2;go_meet
    case rel=>exact⟨true,rfl,hid (by rw [hs,hk];rfl),hid rfl⟩
   ·have hk2:(x.ZQ != 1)=false:=by simpa using hk
    go_wp2;go_meet
    case rel=>exact⟨false,rfl,hid (by rw [hs,hk];rfl),hid rfl⟩
  ·have hs2:x.Z8.isEmpty=true:=by simpa using hs
   have hs3:(x.Z8 != [])=false:=by simpa using hs
   go_wp2;go_meet
   case rel=>exact⟨false,rfl,hid (by rw [hs];rfl),hid rfl⟩
 case rest=>
 clear r2 r0;obtain⟨b,rfl,HCb,HWw⟩:=hcut;have hWw:=HWw.out;subst hWw;clear HWw;go_upto_if 29 with fail
 go_cut [] from 6 to 91 (fun W=>Hid (ZP W w.heap.size 33 [.int .i64 c.ZO,.int .i64 c.ZU,.slice A.a0 c.ob.Z4.length A.k0,.slice A.a1 c.ob.Z7.length A.k1,.slice A.a2 c.ro.ZW.length A.k2,.slice A.a3 c.ro.Z2.length A.k3,.slice A.a4 c.Z3.length A.k4])∧Hid (ZP W (w.heap.size+1) 43 [.int .i64 x.ZQ,.string (Z9 x.ZK),.string (Z9 x.Z8),.string (Z9 x.ZX),.string (Z9 x.name),.string (Z9 x.ZR),.slice X x.ZY.length k,.string (Z9 x.ZZ.name),.int .i64 x.ZZ.ZQ,.slice Y x.ZZ.ZY.length n,.int .i64 x.ZZ.low,.int .i64 x.ZZ.ZF,.string (Z9 x.ZZ.Z8),.string (Z9 x.ZZ.ZX),.string (Z9 x.ZZ.key),.int .i64 x.right,.bool x.Zy])∧Hid (ZP W (w.heap.size+1+1) 33 [.int .i64 0,.int .i64 0,.slice none 0 0,.slice none 0 0,.slice none 0 0,.slice none 0 0,.slice none 0 0])∧Hid (ZP W (w.heap.size+1+1+1) 45 [.int .i64 0])∧Hid (Below w.heap.size w W)∧Hid (Wu c x=true))
 case first=>
  cases b
  ·go_wp2;go_meet
   case rel=>exact⟨P0,X0,Q0,E0,HB0,hid (J5 HCb.out)⟩
  ·have HSx:Hid (Wu c x=c.ob.Z4.any fun s=>s.name == x.Z8):=hid (J4 HCb.out);clear HS HCb;have q2:=ce P0 2;have hsl:=HTm.out.1.1;go_wp2_with fail;have cH:=NF c.ob.Z4 A.a0 A.k0 (w.heap.size+1) x.Z8 wc (HC.out.later HB0.out).sc hsl X0.out rfl;refine cH.mono ?_
   rintro e W12 ⟨rfl,hb⟩;clear cH q2;have P1:=bl P0 hb;have X1:=bl X0 hb;have Q1:=bl Q0 hb;have E1:=bl E0 hb;have HB1:=bt HB0 hb;clear hb P0 X0 Q0 E0 HB0;have P0:=P1;have X0:=X1;have Q0:=Q1;have E0:=E1;have HB0:=HB1;clear P1 X1 Q1 E1 HB1;rw [←HSx.out]
   cases h4:Wu c x
   case false=>
    go_wp2_with fail;refine(YD false 61 W12).mono ?_
    rintro e W9 ⟨rfl,rfl⟩;refine Yc _ _ w.heap.size (w.heap.size+1+1) (w.heap.size+1+1+1) 61 _ 0 _ (by simp) (by simp) (by simp [go_sem]) Q0 rfl E0 (by omega) (by omega) (by omega) (fun w' hb'=> ?_)
    exact⟨61,Ca.zero,WV.zero,rfl,Or.inl ⟨by rw [IN H1.out H2.out H3.out h4];decide,(IN H1.out H2.out H3.out h4).symm⟩,fun h=>absurd h (by decide),HB0.out.trans hb'⟩
   have H4:=hid h4;clear h4;go_wp2_with fail;refine(YD true 61 W12).mono ?_
   rintro e W13 ⟨rfl,rfl⟩;go_wp2;go_meet
   case rel=>exact⟨P0,X0,Q0,E0,HB0,H4⟩
 case rest=>
 clear HS HCb P0 X0 Q0 E0 HB0;obtain⟨P0,X0,Q0,E0,HB0,H4⟩:=hcut;generalize wc=W14 at*;go_upto_region 7 with fail
 have r2:=ce X0 3;have r0:=ce X0 0;go_cut [43] from 6 to 91 (fun v W=> ∃ b,v= .bool b∧Hid (b=(!(x.ZX == []) && !(x.ZQ == 3)))∧Hid (W=W14))
 case first=>
  cases hs:(x.ZX == [])
  ·have hs2:x.ZX.isEmpty=false:=by simpa using hs
   have hs3:(x.ZX != [])=true:=by simpa using hs
   cases hk:(x.ZQ == 3)
   ·have hk2:(x.ZQ != 3)=true:=by simpa using hk
    go_wp2;go_meet
    case rel=>exact⟨true,rfl,hid (by rw [hs,hk];rfl),hid rfl⟩
   ·have hk2:(x.ZQ != 3)=false:=by simpa using hk
    go_wp2;go_meet
    case rel=>exact⟨false,rfl,hid (by rw [hs,hk];rfl),hid rfl⟩
  ·have hs2:x.ZX.isEmpty=true:=by simpa using hs
   have hs3:(x.ZX != [])=false:=by simpa using hs
   go_wp2;go_meet
   case rel=>exact⟨false,rfl,hid (by rw [hs];rfl),hid rfl⟩
 case rest=>
 clear r2 r0;obtain⟨b,rfl,HCb,HWw⟩:=hcut;have hWw:=HWw.out;subst hWw;clear HWw;go_upto_if 43 with fail
 go_cut [] from 6 to 91 (fun W=>Hid (ZP W w.heap.size 33 [.int .i64 c.ZO,.int .i64 c.ZU,.slice A.a0 c.ob.Z4.length A.k0,.slice A.a1 c.ob.Z7.length A.k1,.slice A.a2 c.ro.ZW.length A.k2,.slice A.a3 c.ro.Z2.length A.k3,.slice A.a4 c.Z3.length A.k4])∧Hid (ZP W (w.heap.size+1) 43 [.int .i64 x.ZQ,.string (Z9 x.ZK),.string (Z9 x.Z8),.string (Z9 x.ZX),.string (Z9 x.name),.string (Z9 x.ZR),.slice X x.ZY.length k,.string (Z9 x.ZZ.name),.int .i64 x.ZZ.ZQ,.slice Y x.ZZ.ZY.length n,.int .i64 x.ZZ.low,.int .i64 x.ZZ.ZF,.string (Z9 x.ZZ.Z8),.string (Z9 x.ZZ.ZX),.string (Z9 x.ZZ.key),.int .i64 x.right,.bool x.Zy])∧Hid (ZP W (w.heap.size+1+1) 33 [.int .i64 0,.int .i64 0,.slice none 0 0,.slice none 0 0,.slice none 0 0,.slice none 0 0,.slice none 0 0])∧Hid (ZP W (w.heap.size+1+1+1) 45 [.int .i64 0])∧Hid (Below w.heap.size w W)∧Hid (Wt c x=0))
 case first=>
  cases b
  ·go_wp2;go_meet
   case rel=>exact⟨P0,X0,Q0,E0,HB0,hid (J3 HCb.out)⟩
  ·have HSx:Hid (Wt c x=QP c.ob x.Z8 x.ZX):=hid (J2 HCb.out);clear HNT HCb;have q2:=ce P0 2;have q3:=ce P0 3;have r2:=ce X0 2;have r3:=ce X0 3;go_wp2_with fail;refine(OE c.ob A.a0 A.k0 A.a1 A.k1 x.Z8 x.ZX wc (HC.out.later HB0.out).sc (HC.out.later HB0.out).tb HTm.out.1).mono ?_
   rintro e W15 ⟨t',X',k',Y',n',er,rfl,her,hb,_⟩;clear q2 q3 r2 r3;have HEr:Hid (er=Wt c x):=hid (her.trans HSx.out.symm);clear her;unfold Tb.cs;have P1:=bl P0 hb;have X1:=bl X0 hb;have Q1:=bl Q0 hb;have E1:=bl E0 hb;have HB1:=bt HB0 hb;clear hb P0 X0 Q0 E0 HB0;have P0:=P1;have X0:=X1;have Q0:=Q1;have E0:=E1;have HB0:=HB1;clear P1 X1 Q1 E1 HB1;go_wp2_with fail;refine Zj _ fun W16 hW=> ?_
   have HB16:Hid (Below W15.heap.size W15 W16):=hid (by rw [hW];repeat (first | exact Below.refl _ _ | refine Below.setCell ?_ lr _ | refine Below.alloc ?_ lr _));clear hW;have hb:=HB16.out;clear HB16;have P1:=bl P0 hb;have X1:=bl X0 hb;have Q1:=bl Q0 hb;have E1:=bl E0 hb;have HB1:=bt HB0 hb;clear hb P0 X0 Q0 E0 HB0;have P0:=P1;have X0:=X1;have Q0:=Q1;have E0:=E1;have HB0:=HB1;clear P1 X1 Q1 E1 HB1;by_cases h5:er=0
   case neg=>
    have cM:=YX er W16;rw [if_neg h5] at cM;refine cM.mono ?_
    rintro e W9 ⟨rfl,rfl⟩;have h5':Wt c x≠0:=by rw [←HEr.out];exact h5
    refine Yc _ _ w.heap.size (w.heap.size+1+1) (w.heap.size+1+1+1) er _ 0 _ (by simp) (by simp) (by simp [go_sem]) Q0 rfl E0 (by omega) (by omega) (by omega) (fun w' hb'=> ?_)
    exact⟨er,Ca.zero,WV.zero,rfl,Or.inl ⟨by rw [IM H1.out H2.out H3.out H4.out h5'];exact h5',by rw [IM H1.out H2.out H3.out H4.out h5',HEr.out]⟩,fun h=>absurd h h5,HB0.out.trans hb'⟩
   subst h5;have cM:=YX 0 W16;rw [if_pos rfl] at cM;refine cM.mono ?_
   rintro e W17 ⟨rfl,rfl⟩;clear cM;go_wp2;go_meet
   case rel=>exact⟨P0,X0,Q0,E0,HB0,hid HEr.out.symm⟩
 case rest=>
 clear HNT HCb P0 X0 Q0 E0 HB0;obtain⟨P0,X0,Q0,E0,HB0,H5⟩:=hcut;generalize wc=W18 at*;go_wp2_with (first | (refine lO P0 HI7 Tryz.underlying33 ?_) | (refine lO X0 HI17 Tryz.underlying43 ?_) | fail);have cA:=OX c A x X k Y n W18 (HC.out.later HB0.out) HTm.out (Mp H2.out H4.out);unfold Ca.cs Cm.cs at cA;refine cA.mono ?_
 rintro e W19 ⟨rfl,hb⟩;clear cA;have P1:=bl P0 hb;have X1:=bl X0 hb;have Q1:=bl Q0 hb;have E1:=bl E0 hb;have HB1:=bt HB0 hb;clear hb P0 X0 Q0 E0 HB0;have P0:=P1;have X0:=X1;have Q0:=Q1;have E0:=E1;have HB0:=HB1;clear P1 X1 Q1 E1 HB1
 cases h6:WD c x
 case false=>
  go_wp2_with fail;refine(YD false 91 W19).mono ?_
  rintro e W9 ⟨rfl,rfl⟩;refine Yc _ _ w.heap.size (w.heap.size+1+1) (w.heap.size+1+1+1) 91 _ 0 _ (by simp) (by simp) (by simp [go_sem]) Q0 rfl E0 (by omega) (by omega) (by omega) (fun w' hb'=> ?_)
  exact⟨91,Ca.zero,WV.zero,rfl,Or.inl ⟨by rw [pre6 H1.out H2.out H3.out H4.out H5.out h6];decide,(pre6 H1.out H2.out H3.out H4.out H5.out h6).symm⟩,fun h=>absurd h (by decide),HB0.out.trans hb'⟩
 have HPre:Hid (Wp c x=0):=hid (Ik H1.out H2.out H3.out H4.out H5.out h6);clear h6;go_wp2_with fail;refine(YD true 91 W19).mono ?_
 rintro e W20 ⟨rfl,rfl⟩;go_wp2_with (first | (refine lO P0 HI7 Tryz.underlying33 ?_) | fail);have cO:=Ls c A W20 (HC.out.later HB0.out) HTm.out;unfold Ca.cs at cO;refine cO.mono ?_
 rintro e W21 ⟨A1,rfl,hT,hb⟩;have HT1:=hid hT;clear cO hT;have P1:=bl P0 hb;have X1:=bl X0 hb;have Q1:=bl Q0 hb;have E1:=bl E0 hb;have HB1:=bt HB0 hb;clear hb P0 X0 Q0 E0 HB0;have P0:=P1;have X0:=X1;have Q0:=Q1;have E0:=E1;have HB0:=HB1;clear P1 X1 Q1 E1 HB1;go_wp2_with (first | ((with_reducible refine ZA rfl 33 _ _ rfl (w.heap.size+1+1) (Ca.cs c A1) rfl rfl Q0 (n:=7) rfl rfl HI7 (by simp [Ca.cs,Value.oneCell']) ?_);intro W22 U;have X1:=hid (U.out.other X0.out (by omega))) | (refine lO X1 HI17 Tryz.underlying43 ?_) | fail);have P1:=hid (U.out.other P0.out (by omega));have E1:=hid (U.out.other E0.out (by omega));have HB1:Hid (Below w.heap.size w W22):=hid (U.out.below HB0.out (by omega));have Q1:=hid U.out.Ym;have HT2:=hid (HT1.out.keeps U.out.keeps (by decide));have hqz:=Q1.out.lt;clear U P0 X0 Q0 E0 HB0 HT1;have cD:=Ir c A1 x X k Y n (w.heap.size+1+1) W22 Q1.out HT2.out HTm.out (HX.out.later HB1.out) (HY.out.later HB1.out) HXt.out HBd.out (J8 H2.out);unfold Cm.cs at cD;refine cD.mono ?_
 rintro e W23 ⟨hbx,hd⟩;clear cD;have P0:=hid (hbx.Ym P1.out P1.out.lt (fun q=>by injection q with q;omega))
 have X0:=hid (hbx.Ym X1.out X1.out.lt (fun q=>by injection q with q;omega));have E0:=hid (hbx.Ym E1.out E1.out.lt (fun q=>by injection q with q;omega))
 have HB0:Hid (Below w.heap.size w W23):=hid (HB1.out.trans (hbx.low (by omega) (fun q hq=>by injection hq with hq;omega)));clear hbx P1 X1 E1 HB1 Q1 HT2 hqz;rcases hd with ⟨c1,A2,rfl,hR,hB,hT⟩ | ⟨E,c1,h0,rfl,hR,vs,hB,hvl⟩
 case inr=>
  have QE:=hid hB;refine Yc _ _ w.heap.size (w.heap.size+1+1) (w.heap.size+1+1+1) E vs 0 _ (by simp) (by simp) (by simp [go_sem]) QE hvl E0 (by omega) (by omega) (by omega) (fun w' hb'=> ?_)
  exact⟨E,Ca.zero,WV.zero,rfl,Or.inr (Or.inl ⟨HPre.out,h0,c1,hR⟩),fun h=>absurd h h0,HB0.out.trans hb'⟩
 have HR:=hid hR;have Q0:=hid hB;have HT1:=hid hT;have hkp:=Kh hR;clear hR hB hT;obtain⟨ep1,ver1,ob1,ro1,gr1⟩:=c1;dsimp only at hkp;obtain⟨rfl,rfl⟩:=hkp;have HTm1:Hid ((⟨c.ZO,c.ZU,ob1,ro1,gr1⟩:Ca).Zs 1099511627776):=hid (Ca.Zs.up (MM (M:=549755813888) (by omega) (SM (U6 (Vg H1.out).1).1) HXs.out HR.out) (by omega));obtain⟨_,hep0,hep1,hve0,hve1⟩:=Vg H1.out;have HFu:Hid (ST c x= !(decide (c.ZU<1000000000) && (!Xa x || decide (c.ZO<1000)))):=hid rfl;obtain⟨fx,hfx⟩: ∃ fx,fx=Xa x:=⟨_,rfl⟩
 rw [←hfx] at HFu;have HFx:=hid hfx;have cF:Hid (∀ W,Calls Tryz.prog 36 #[.agg #[.int .i64 x.ZQ,.string (Z9 x.ZK),.string (Z9 x.Z8),.string (Z9 x.ZX),.string (Z9 x.name),.string (Z9 x.ZR),.slice X x.ZY.length k,.string (Z9 x.ZZ.name),.int .i64 x.ZZ.ZQ,.slice Y x.ZZ.ZY.length n,.int .i64 x.ZZ.low,.int .i64 x.ZZ.ZF,.string (Z9 x.ZZ.Z8),.string (Z9 x.ZZ.ZX),.string (Z9 x.ZZ.key),.int .i64 x.right,.bool x.Zy]] W fun e w'=>e= .returned (.bool fx)∧Below W.heap.size W w'):=hid (fun W=>by rw [hfx];exact RU x X k Y n W);clear hfx;have v1:=ce P0 1;have v0:=ce P0 0;by_cases hv:c.ZU<1000000000
 case neg=>
  have HFull:Hid (ST c x=true):=hid (by rw [HFu.out];simp [hv]);clear HFu;go_wp2_with fail;refine(YD false 92 W23).mono ?_
  rintro e W9 ⟨rfl,rfl⟩;refine Yc _ _ w.heap.size (w.heap.size+1+1) (w.heap.size+1+1+1) 92 _ 0 _ (by simp) (by simp) (by simp [go_sem]) Q0 rfl E0 (by omega) (by omega) (by omega) (fun w' hb'=> ?_)
  exact⟨92,Ca.zero,WV.zero,rfl,Or.inr (Or.inr (Or.inl ⟨HPre.out,HFull.out,rfl⟩)),fun h=>absurd h (by decide),HB0.out.trans hb'⟩
 cases fx
 ·have xq0:=ce X0 0;have xq1:=ce X0 1;have xq2:=ce X0 2;have xq3:=ce X0 3;have xq4:=ce X0 4;have xq5:=ce X0 5;have xq6:=ce X0 6;have xq7:=ce X0 7;have xq8:=ce X0 8;have xq9:=ce X0 9;have xq10:=ce X0 10;have xq11:=ce X0 11;have xq12:=ce X0 12;have xq13:=ce X0 13;have xq14:=ce X0 14;have xq15:=ce X0 15;have xq16:=ce X0 16;go_wp2_with fail;clear xq0 xq1 xq2 xq3 xq4 xq5 xq6 xq7 xq8 xq9 xq10 xq11 xq12 xq13 xq14 xq15 xq16;refine(cF.out _).mono ?_
  rintro e W24 ⟨rfl,hb⟩;have HT2:=hid (HT1.out.later hb);clear HT1;have HT1:=HT2;clear HT2 v0 v1;have P1:=bl P0 hb;have X1:=bl X0 hb;have Q1:=bl Q0 hb;have E1:=bl E0 hb;have HB1:=bt HB0 hb;clear hb P0 X0 Q0 E0 HB0;have P0:=P1;have X0:=X1;have Q0:=Q1;have E0:=E1;have HB0:=HB1;clear P1 X1 Q1 E1 HB1;have HFull:Hid (ST c x=false):=hid (by rw [HFu.out];simp [hv]);clear HFu;go_wp2_with fail;refine(YD true 92 W24).mono ?_
  rintro e W25 ⟨rfl,rfl⟩;skip
  go_wp2_with (first | (refine lO Q0 HI7 Tryz.underlying33 ?_) | fail);have cHo:=RJ ⟨c.ZO,c.ZU,ob1,ro1,gr1⟩ A2 W25 HT1.out.Vy HTm1.out;unfold Ca.cs at cHo;refine cHo.mono ?_
  rintro e W26 ⟨l,B4,l4,rfl,hp,ho,hb⟩;clear cHo;have HPm:=hid hp;have HG1:=hid ho;have HT2:=hid (HT1.out.later hb);clear HT1 hp ho;have P1:=bl P0 hb;have X1:=bl X0 hb;have Q1:=bl Q0 hb;have E1:=bl E0 hb;have HB1:=bt HB0 hb;clear hb P0 X0 Q0 E0 HB0;have P0:=P1;have X0:=X1;have Q0:=Q1;have E0:=E1;have HB0:=HB1;clear P1 X1 Q1 E1 HB1;have Qa:Hid (ZP (W26.setCell ⟨(w.heap.size+1+1),6,none⟩ (.slice B4 l.length l4)) (w.heap.size+1+1) 33 [.int .i64 c.ZO,.int .i64 c.ZU,.slice A2.a0 ob1.Z4.length A2.k0,.slice A2.a1 ob1.Z7.length A2.k1,.slice A2.a2 ro1.ZW.length A2.k2,.slice A2.a3 ro1.Z2.length A2.k3,.slice B4 l.length l4]):=hid (Q0.out.ZD 6 _);have Qb:Hid (ZP ((W26.setCell ⟨(w.heap.size+1+1),6,none⟩ (.slice B4 l.length l4)).setCell ⟨(w.heap.size+1+1),1,none⟩ (.int .i64 (c.ZU+1))) (w.heap.size+1+1) 33 [.int .i64 c.ZO,.int .i64 (c.ZU+1),.slice A2.a0 ob1.Z4.length A2.k0,.slice A2.a1 ob1.Z7.length A2.k1,.slice A2.a2 ro1.ZW.length A2.k2,.slice A2.a3 ro1.Z2.length A2.k3,.slice B4 l.length l4]):=hid (Qa.out.ZD 1 _);have e6:=ce Q0 6;have f6:=Q0.out.frozen 6;have e1:(W26.setCell ⟨(w.heap.size+1+1),6,none⟩ (.slice B4 l.length l4)).cell? ⟨(w.heap.size+1+1),1,none⟩=some (.int .i64 c.ZU):=Qa.out.cell 1;have f1:=Qa.out.frozen 1;have Xb:Hid (ZP ((W26.setCell ⟨(w.heap.size+1+1),6,none⟩ (.slice B4 l.length l4)).setCell ⟨(w.heap.size+1+1),1,none⟩ (.int .i64 (c.ZU+1))) (w.heap.size+1) 43 [.int .i64 x.ZQ,.string (Z9 x.ZK),.string (Z9 x.Z8),.string (Z9 x.ZX),.string (Z9 x.name),.string (Z9 x.ZR),.slice X x.ZY.length k,.string (Z9 x.ZZ.name),.int .i64 x.ZZ.ZQ,.slice Y x.ZZ.ZY.length n,.int .i64 x.ZZ.low,.int .i64 x.ZZ.ZF,.string (Z9 x.ZZ.Z8),.string (Z9 x.ZZ.ZX),.string (Z9 x.ZZ.key),.int .i64 x.right,.bool x.Zy]):=hid ((X0.out.Xo (by dsimp only;omega) _).Xo (by dsimp only;omega) _)
  have Eb:Hid (ZP ((W26.setCell ⟨(w.heap.size+1+1),6,none⟩ (.slice B4 l.length l4)).setCell ⟨(w.heap.size+1+1),1,none⟩ (.int .i64 (c.ZU+1))) (w.heap.size+1+1+1) 45 [.int .i64 0]):=hid ((E0.out.Xo (by dsimp only;omega) _).Xo (by dsimp only;omega) _);have HBb:Hid (Below w.heap.size w ((W26.setCell ⟨(w.heap.size+1+1),6,none⟩ (.slice B4 l.length l4)).setCell ⟨(w.heap.size+1+1),1,none⟩ (.int .i64 (c.ZU+1)))):=hid ((HB0.out.setCell (by dsimp only;omega) _).setCell (by dsimp only;omega) _)
  have HKb:Hid (ZS [33] W26 ((W26.setCell ⟨(w.heap.size+1+1),6,none⟩ (.slice B4 l.length l4)).setCell ⟨(w.heap.size+1+1),1,none⟩ (.int .i64 (c.ZU+1)))):=hid ((ZS.ZD Q0.out.XM (by simp) _).trans (ZS.ZD (Q0.out.XM.setCell _ _) (by simp) _));have HTb:=hid (HT2.out.keeps HKb.out (by decide));have HGb:=hid (HG1.out.keeps HKb.out (by decide));go_wp2_with (first | (refine lO Xb HI17 Tryz.underlying43 ?_) | fail);clear e6 f6 e1 f1 HT2 HG1 HKb Qa Q0 X0 E0 P0 HB0;refine Zj _ fun W27 hW=> ?_
  rw [←hW] at Qb Xb Eb HBb HTb HGb;clear hW;refine(cF.out W27).mono ?_
  rintro e W28 ⟨rfl,hb⟩;have Q0:=bl Qb hb;have E0:=bl Eb hb;have HB0:=bt HBb hb;have HT2:=hid (HTb.out.later hb);have HG2:=hid (HGb.out.Zu hb);clear hb Qb Eb Xb HBb HTb HGb cF;have HFin:Hid (∀ W,ZS [33,45] W28 W→Uw W ⟨c.ZO,c.ZU+1,ob1,ro1,l⟩ ⟨A2.a0,A2.k0,A2.a1,A2.k1,A2.a2,A2.k2,A2.a3,A2.k3,B4,l4⟩):=hid (fun W hk=>by
   have hT4:=HT2.out.keeps hk (by decide);exact⟨hT4.sc,hT4.tb,hT4.nm,hT4.mb,XW (us:=CT) (HG2.out.keeps hk (by decide))⟩)
  clear HT2 HG2;go_wp2_with (first | (refine lO Q0 HI7 Tryz.underlying33 ?_) | ((refine sO Q0 HI7 ?_);intro W29 U;have Ed:=hid (U.out.other E0.out (by omega));have g0:W29.cell? ⟨(w.heap.size+1+1+1),0,none⟩=some (.int .i64 0):=Ed.out.cell 0;have g1:W29.frozen? ⟨(w.heap.size+1+1+1),0,none⟩=false:=Ed.out.frozen 0) | fail);have Qd:Hid (ZP (W29.setCell ⟨(w.heap.size+1+1+1),0,none⟩ (.int .i64 0)) (w.heap.size+1+1) 33 [.int .i64 c.ZO,.int .i64 (c.ZU+1),.slice A2.a0 ob1.Z4.length A2.k0,.slice A2.a1 ob1.Z7.length A2.k1,.slice A2.a2 ro1.ZW.length A2.k2,.slice A2.a3 ro1.Z2.length A2.k3,.slice B4 l.length l4]):=hid (U.out.Ym.Xo (by dsimp only;omega) _)
  have Ee:Hid (ZP (W29.setCell ⟨(w.heap.size+1+1+1),0,none⟩ (.int .i64 0)) (w.heap.size+1+1+1) 45 [.int .i64 0]):=hid (Ed.out.ZD 0 _);refine leaves_cons (f:=25) (args:= #[.pointer (some ⟨(w.heap.size+1+1),0,none⟩),.pointer (some ⟨(w.heap.size+1+1+1),0,none⟩)]) (by simp) (by simp [go_sem]) ?_
  refine(Sl _ _ _).mono ?_
  rintro e u' w'' ⟨rfl,rfl,rfl⟩;refine⟨_,Te Tryz.results9 _ _ (w.heap.size+1+1) (w.heap.size+1+1+1) (by simp) (by simp) Qd rfl Tryz.underlying33 rfl HI7 (Uf _ (w.heap.size+1+1+1) 0 (Ee.out.cell 0)),?_⟩
  refine⟨0,⟨c.ZO,c.ZU+1,ob1,ro1,l⟩,⟨A2.a0,A2.k0,A2.a1,A2.k1,A2.a2,A2.k2,A2.a3,A2.k3,B4,l4⟩,rfl,Or.inr (Or.inr (Or.inr ⟨rfl,HPre.out,HFull.out,⟨c.ZO,c.ZU,ob1,ro1,gr1⟩,l,HR.out,HPm.out,?_⟩)),fun _=>HFin.out _ ?_,?_⟩
  ·rw [if_neg (by rw [←HFx.out];simp)];simp
  ·exact(U.out.keeps.Yf (by simp)).trans (ZS.ZD Ed.out.XM (by simp) _)
  ·exact(U.out.below HB0.out (by omega)).setCell (by dsimp only;omega) _
 ·have xq0:=ce X0 0;have xq1:=ce X0 1;have xq2:=ce X0 2;have xq3:=ce X0 3;have xq4:=ce X0 4;have xq5:=ce X0 5;have xq6:=ce X0 6;have xq7:=ce X0 7;have xq8:=ce X0 8;have xq9:=ce X0 9;have xq10:=ce X0 10;have xq11:=ce X0 11;have xq12:=ce X0 12;have xq13:=ce X0 13;have xq14:=ce X0 14;have xq15:=ce X0 15;have xq16:=ce X0 16;go_wp2_with fail;clear xq0 xq1 xq2 xq3 xq4 xq5 xq6 xq7 xq8 xq9 xq10 xq11 xq12 xq13 xq14 xq15 xq16;refine(cF.out _).mono ?_
  rintro e W24 ⟨rfl,hb⟩;have HT2:=hid (HT1.out.later hb);clear HT1;have HT1:=HT2;clear HT2 v0 v1;have P1:=bl P0 hb;have X1:=bl X0 hb;have Q1:=bl Q0 hb;have E1:=bl E0 hb;have HB1:=bt HB0 hb;clear hb P0 X0 Q0 E0 HB0;have P0:=P1;have X0:=X1;have Q0:=Q1;have E0:=E1;have HB0:=HB1;clear P1 X1 Q1 E1 HB1;have v0:=ce P0 0;by_cases he:c.ZO<1000
  case neg=>
   have HFull:Hid (ST c x=true):=hid (by rw [HFu.out];simp [he]);clear HFu;go_wp2_with fail;refine(YD _ 92 W24).mono ?_
   rintro e W9 ⟨he',rfl⟩;obtain rfl:e= .panicked (TK 92):=by rw [he',decide_eq_false (show ¬ c.ZO<1000 by omega)];rfl
   refine Yc _ _ w.heap.size (w.heap.size+1+1) (w.heap.size+1+1+1) 92 _ 0 _ (by simp) (by simp) (by simp [go_sem]) Q0 rfl E0 (by omega) (by omega) (by omega) (fun w' hb'=> ?_)
   exact⟨92,Ca.zero,WV.zero,rfl,Or.inr (Or.inr (Or.inl ⟨HPre.out,HFull.out,rfl⟩)),fun h=>absurd h (by decide),HB0.out.trans hb'⟩
  have HFull:Hid (ST c x=false):=hid (by rw [HFu.out];simp [he,hv]);clear HFu;go_wp2_with fail;refine(YD _ 92 W24).mono ?_
  rintro e W25 ⟨he',rfl⟩;obtain rfl:e= .returned (.tuple #[]):=by rw [he'];first | rfl | (rw [decide_eq_true (show c.ZO<1000 by omega)];rfl)
  go_wp2_with (first | (refine lO Q0 HI7 Tryz.underlying33 ?_) | fail);have cHo:=RJ ⟨c.ZO,c.ZU,ob1,ro1,gr1⟩ A2 W25 HT1.out.Vy HTm1.out;unfold Ca.cs at cHo;refine cHo.mono ?_
  rintro e W26 ⟨l,B4,l4,rfl,hp,ho,hb⟩;clear cHo;have HPm:=hid hp;have HG1:=hid ho;have HT2:=hid (HT1.out.later hb);clear HT1 hp ho;have P1:=bl P0 hb;have X1:=bl X0 hb;have Q1:=bl Q0 hb;have E1:=bl E0 hb;have HB1:=bt HB0 hb;clear hb P0 X0 Q0 E0 HB0;have P0:=P1;have X0:=X1;have Q0:=Q1;have E0:=E1;have HB0:=HB1;clear P1 X1 Q1 E1 HB1;have Qa:Hid (ZP (W26.setCell ⟨(w.heap.size+1+1),6,none⟩ (.slice B4 l.length l4)) (w.heap.size+1+1) 33 [.int .i64 c.ZO,.int .i64 c.ZU,.slice A2.a0 ob1.Z4.length A2.k0,.slice A2.a1 ob1.Z7.length A2.k1,.slice A2.a2 ro1.ZW.length A2.k2,.slice A2.a3 ro1.Z2.length A2.k3,.slice B4 l.length l4]):=hid (Q0.out.ZD 6 _);have Qb:Hid (ZP ((W26.setCell ⟨(w.heap.size+1+1),6,none⟩ (.slice B4 l.length l4)).setCell ⟨(w.heap.size+1+1),1,none⟩ (.int .i64 (c.ZU+1))) (w.heap.size+1+1) 33 [.int .i64 c.ZO,.int .i64 (c.ZU+1),.slice A2.a0 ob1.Z4.length A2.k0,.slice A2.a1 ob1.Z7.length A2.k1,.slice A2.a2 ro1.ZW.length A2.k2,.slice A2.a3 ro1.Z2.length A2.k3,.slice B4 l.length l4]):=hid (Qa.out.ZD 1 _);have e6:=ce Q0 6;have f6:=Q0.out.frozen 6;have e1:(W26.setCell ⟨(w.heap.size+1+1),6,none⟩ (.slice B4 l.length l4)).cell? ⟨(w.heap.size+1+1),1,none⟩=some (.int .i64 c.ZU):=Qa.out.cell 1;have f1:=Qa.out.frozen 1;have Xb:Hid (ZP ((W26.setCell ⟨(w.heap.size+1+1),6,none⟩ (.slice B4 l.length l4)).setCell ⟨(w.heap.size+1+1),1,none⟩ (.int .i64 (c.ZU+1))) (w.heap.size+1) 43 [.int .i64 x.ZQ,.string (Z9 x.ZK),.string (Z9 x.Z8),.string (Z9 x.ZX),.string (Z9 x.name),.string (Z9 x.ZR),.slice X x.ZY.length k,.string (Z9 x.ZZ.name),.int .i64 x.ZZ.ZQ,.slice Y x.ZZ.ZY.length n,.int .i64 x.ZZ.low,.int .i64 x.ZZ.ZF,.string (Z9 x.ZZ.Z8),.string (Z9 x.ZZ.ZX),.string (Z9 x.ZZ.key),.int .i64 x.right,.bool x.Zy]):=hid ((X0.out.Xo (by dsimp only;omega) _).Xo (by dsimp only;omega) _)
  have Eb:Hid (ZP ((W26.setCell ⟨(w.heap.size+1+1),6,none⟩ (.slice B4 l.length l4)).setCell ⟨(w.heap.size+1+1),1,none⟩ (.int .i64 (c.ZU+1))) (w.heap.size+1+1+1) 45 [.int .i64 0]):=hid ((E0.out.Xo (by dsimp only;omega) _).Xo (by dsimp only;omega) _);have HBb:Hid (Below w.heap.size w ((W26.setCell ⟨(w.heap.size+1+1),6,none⟩ (.slice B4 l.length l4)).setCell ⟨(w.heap.size+1+1),1,none⟩ (.int .i64 (c.ZU+1)))):=hid ((HB0.out.setCell (by dsimp only;omega) _).setCell (by dsimp only;omega) _)
  have HKb:Hid (ZS [33] W26 ((W26.setCell ⟨(w.heap.size+1+1),6,none⟩ (.slice B4 l.length l4)).setCell ⟨(w.heap.size+1+1),1,none⟩ (.int .i64 (c.ZU+1)))):=hid ((ZS.ZD Q0.out.XM (by simp) _).trans (ZS.ZD (Q0.out.XM.setCell _ _) (by simp) _));have HTb:=hid (HT2.out.keeps HKb.out (by decide));have HGb:=hid (HG1.out.keeps HKb.out (by decide));go_wp2_with (first | (refine lO Xb HI17 Tryz.underlying43 ?_) | fail);clear e6 f6 e1 f1 HT2 HG1 HKb Qa Q0 X0 E0 P0 HB0;refine Zj _ fun W27 hW=> ?_
  rw [←hW] at Qb Xb Eb HBb HTb HGb;clear hW;refine(cF.out W27).mono ?_
  rintro e W28 ⟨rfl,hb⟩;have Q0:=bl Qb hb;have E0:=bl Eb hb;have HB0:=bt HBb hb;have HT2:=hid (HTb.out.later hb);have HG2:=hid (HGb.out.Zu hb);clear hb Qb Eb Xb HBb HTb HGb cF;have e0:=ce Q0 0;have f0:=Q0.out.frozen 0;have Qc:Hid (ZP (W28.setCell ⟨(w.heap.size+1+1),0,none⟩ (.int .i64 (c.ZO+1))) (w.heap.size+1+1) 33 [.int .i64 (c.ZO+1),.int .i64 (c.ZU+1),.slice A2.a0 ob1.Z4.length A2.k0,.slice A2.a1 ob1.Z7.length A2.k1,.slice A2.a2 ro1.ZW.length A2.k2,.slice A2.a3 ro1.Z2.length A2.k3,.slice B4 l.length l4]):=hid (Q0.out.ZD 0 _);have Ec:Hid (ZP (W28.setCell ⟨(w.heap.size+1+1),0,none⟩ (.int .i64 (c.ZO+1))) (w.heap.size+1+1+1) 45 [.int .i64 0]):=hid (E0.out.Xo (by dsimp only;omega) _)
  have HBc:Hid (Below w.heap.size w (W28.setCell ⟨(w.heap.size+1+1),0,none⟩ (.int .i64 (c.ZO+1)))):=hid (HB0.out.setCell (by dsimp only;omega) _);have HKc:Hid (ZS [33] W28 (W28.setCell ⟨(w.heap.size+1+1),0,none⟩ (.int .i64 (c.ZO+1)))):=hid (ZS.ZD Q0.out.XM (by simp) _);have HTc:=hid (HT2.out.keeps HKc.out (by decide));have HGc:=hid (HG2.out.keeps HKc.out (by decide));clear HT2 HG2 HKc Q0 E0 HB0;have HFin:Hid (∀ W,ZS [33,45] (W28.setCell ⟨(w.heap.size+1+1),0,none⟩ (.int .i64 (c.ZO+1))) W→Uw W ⟨c.ZO+1,c.ZU+1,ob1,ro1,l⟩ ⟨A2.a0,A2.k0,A2.a1,A2.k1,A2.a2,A2.k2,A2.a3,A2.k3,B4,l4⟩):=hid (fun W hk=>by
   have hT4:=HTc.out.keeps hk (by decide);exact⟨hT4.sc,hT4.tb,hT4.nm,hT4.mb,XW (us:=CT) (HGc.out.keeps hk (by decide))⟩)
  clear HTc HGc;go_wp2_with (first | (refine lO Qc HI7 Tryz.underlying33 ?_) | ((refine sO Qc HI7 ?_);intro W29 U;have Ed:=hid (U.out.other Ec.out (by omega));have g0:W29.cell? ⟨(w.heap.size+1+1+1),0,none⟩=some (.int .i64 0):=Ed.out.cell 0;have g1:W29.frozen? ⟨(w.heap.size+1+1+1),0,none⟩=false:=Ed.out.frozen 0) | fail);have Qd:Hid (ZP (W29.setCell ⟨(w.heap.size+1+1+1),0,none⟩ (.int .i64 0)) (w.heap.size+1+1) 33 [.int .i64 (c.ZO+1),.int .i64 (c.ZU+1),.slice A2.a0 ob1.Z4.length A2.k0,.slice A2.a1 ob1.Z7.length A2.k1,.slice A2.a2 ro1.ZW.length A2.k2,.slice A2.a3 ro1.Z2.length A2.k3,.slice B4 l.length l4]):=hid (U.out.Ym.Xo (by dsimp only;omega) _)
  have Ee:Hid (ZP (W29.setCell ⟨(w.heap.size+1+1+1),0,none⟩ (.int .i64 0)) (w.heap.size+1+1+1) 45 [.int .i64 0]):=hid (Ed.out.ZD 0 _);refine leaves_cons (f:=25) (args:= #[.pointer (some ⟨(w.heap.size+1+1),0,none⟩),.pointer (some ⟨(w.heap.size+1+1+1),0,none⟩)]) (by simp) (by simp [go_sem]) ?_
  refine(Sl _ _ _).mono ?_
  rintro e u' w'' ⟨rfl,rfl,rfl⟩;refine⟨_,Te Tryz.results9 _ _ (w.heap.size+1+1) (w.heap.size+1+1+1) (by simp) (by simp) Qd rfl Tryz.underlying33 rfl HI7 (Uf _ (w.heap.size+1+1+1) 0 (Ee.out.cell 0)),?_⟩
  refine⟨0,⟨(c.ZO+1),c.ZU+1,ob1,ro1,l⟩,⟨A2.a0,A2.k0,A2.a1,A2.k1,A2.a2,A2.k2,A2.a3,A2.k3,B4,l4⟩,rfl,Or.inr (Or.inr (Or.inr ⟨rfl,HPre.out,HFull.out,⟨c.ZO,c.ZU,ob1,ro1,gr1⟩,l,HR.out,HPm.out,?_⟩)),fun _=>HFin.out _ ?_,?_⟩
  ·rw [if_pos HFx.out.symm]
  ·exact(U.out.keeps.Yf (by simp)).trans (ZS.ZD Ed.out.XM (by simp) _)
  ·exact(U.out.below HBc.out (by omega)).setCell (by dsimp only;omega) _
end Go.Proofs.YtnhmoibjlakhjaaGreat
namespace Go.Proofs.YtnhmoibjlakhjaaGreat
set_option maxRecDepth 100000
set_option maxHeartbeats 16000000
def Xf:Cm:=⟨1,Yd,[115],[],[],[],[],⟨[],0,[],0,0,[],[],[]⟩,0,false⟩
def Pi:Ca:=⟨0,1,⟨[⟨[115],Yd⟩],[]⟩,⟨[Yd],[]⟩,[]⟩
theorem KM:Wp Ca.new Xf=0:=by kernel_rfl
theorem KK:Wp Pi Xf=0:=by kernel_rfl
theorem LP:ST Ca.new Xf=false:=by kernel_rfl
theorem Od:(Zq Xf.Z8 && Zq Xf.ZK)=true:=by kernel_rfl
theorem LQ:YR Ca.new.ob=true:=by kernel_rfl
theorem Nb:YR Pi.ob=true:=by kernel_rfl
theorem KJ:WU Pi.ob.Z4 Xf.Z8=some 0:=by kernel_rfl
theorem KZ {α:Type}{a:α}{l:List α}(h:l.Perm [a]):l= [a]:=List.perm_singleton.1 h
theorem Lk (c:Ca)(h:c.Z3= []):VX c= []:=by
 have:=Qp (c:=c);rw [h] at this;exact List.eq_nil_of_length_eq_zero (by simpa using this)
theorem LJ {er:Int}{c':Ca}(h:I2 Ca.new Xf er c'):er=0∧c'=Pi:=by
 rcases h with ⟨h,_⟩ | ⟨_,h,c1,hd⟩ | ⟨_,h,_⟩ | ⟨h,_,_,c1,l,hd,hp,rfl⟩
 ·exact absurd KM h
 ·exfalso
  have hd':I0 Ca.new Xf er c1:=hd;obtain⟨o',ho,_⟩:=hd';unfold Pe at ho;rw [if_pos LQ] at ho;obtain⟨o'',hr,_⟩:=ho;have hr':VD Ca.new.ob Xf.Z8 Xf.ZK er o'':=hr;rcases hr' with ⟨_,⟨_,h1⟩ | ⟨_,h1⟩ | ⟨_,h1⟩⟩ | ⟨h1,_⟩
  ·rw [Od] at h1;cases h1
  ·cases h1
  ·exact absurd h1 (by decide)
  ·exact h h1
 ·rw [LP] at h;cases h
 ·refine⟨h,?_⟩
  have hd':I0 Ca.new Xf 0 c1:=hd;obtain⟨o',ho,rfl⟩:=hd';obtain⟨_,hr⟩:=PC ho;have hr':VD Ca.new.ob Xf.Z8 Xf.ZK 0 o':=hr;rcases hr' with ⟨_,⟨h1,_⟩ | ⟨h1,_⟩ | ⟨h1,_⟩⟩ | ⟨_,_,_,_,_,ss',hp1,_,rfl⟩
  ·cases h1
  ·cases h1
  ·cases h1
  ·have e1:ss'= [⟨[115],Yd⟩]:=KZ hp1;have e2:l= []:=by
    rw [Lk _ rfl] at hp;exact hp.eq_nil
   rw [e1,e2];rfl
theorem S6 {er:Int}{c':Ca}(h:I2 Pi Xf er c'):er=60:=by
 have key: ∀ (er:Int) (c1:Ca),I0 Pi Xf er c1→er=60:=by
  intro er c1 hd;obtain⟨o',ho,_⟩:=hd;unfold Pe at ho;rw [if_pos Nb] at ho;obtain⟨o'',hr,_⟩:=ho;have hr':VD Pi.ob Xf.Z8 Xf.ZK er o'':=hr;rcases hr' with ⟨_,⟨_,h1⟩ | ⟨h1,_⟩ | ⟨_,h1⟩⟩ | ⟨_,_,_,h1,_⟩
  ·rw [Od] at h1;cases h1
  ·exact h1
  ·exact absurd h1 (by decide)
  ·rw [KJ] at h1;cases h1
 rcases h with ⟨h,_⟩ | ⟨_,h,c1,hd⟩ | ⟨_,h,_⟩ | ⟨h,_,_,c1,l,hd,hp,rfl⟩
 ·exact absurd KK h
 ·exact key er c1 hd
 ·exact absurd h (by decide)
 ·exact absurd (key 0 c1 hd) (by decide)
theorem Km {c c':Ca}{x:Cm}(h:I2 c x 0 c'):Va x=true∧c'.ZU=c.ZU+1∧c'.ZO=c.ZO+ (if Xa x=true then 1 else 0)∧(∀ M,512≤M→x.Zs M→c'.Zs M):=by
 rcases h with ⟨h,h'⟩ | ⟨_,h,_⟩ | ⟨_,_,h⟩ | ⟨_,h,_,c1,l,hd,hp,rfl⟩
 ·exact absurd h'.symm h
 ·exact absurd rfl h
 ·cases h
 ·obtain⟨h1,h2,_⟩:=L3 h;refine⟨h2,rfl,rfl,fun M hM hx=> ?_⟩
  have ht:=MM hM (SM (U6 (Vg h1).1).1) hx hd;refine⟨ht.1,ht.2.1,?_⟩
  have e1:=hp.length_eq;have e2:=Qp (c:=c1);have e3:=ht.2.2;show l.length≤M
  omega
end Go.Proofs.YtnhmoibjlakhjaaGreat
