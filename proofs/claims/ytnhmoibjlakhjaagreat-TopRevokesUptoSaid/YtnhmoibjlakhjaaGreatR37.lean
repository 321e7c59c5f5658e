/- Lemmas of the proof. No condition but each theorem's own. -/
import Derived.Test.YtnhmoibjlakhjaaGreatR35
import Derived.Test.YtnhmoibjlakhjaaGreatR36
import Derived.Test.YtnhmoibjlakhjaaGreatR18
import Derived.Test.YtnhmoibjlakhjaaGreatR03
import Derived.Test.YtnhmoibjlakhjaaGreatR10
set_option linter.unusedVariables false
set_option linter.unusedSimpArgs false
namespace Go.Proofs.YtnhmoibjlakhjaaGreat
open Lib (hid)
set_option maxRecDepth 100000
set_option maxHeartbeats 16000000
open Go.RowKit
theorem Ti (a:Addr):a.add (0*Zl.length)=a:=by
 cases a
 simp [Addr.add]
def Jr (o:Ob)(x:Cm):Int→Ob→Prop:=
 if x.ZQ=1 then VI o x.Z8 x.ZM
 else if x.ZQ=2 then Vp o x.Z8
 else if x.ZQ=3 then Ug o ⟨x.Z8,x.ZY,x.ZM,x.ZX,[]⟩
 else if x.ZQ=5 then RT o x.Z8 x.ZY (Vr o x.ZX[0]!)
 else if x.ZQ=6 then RT o x.Z8 x.ZY (Wc o x.name)
 else if x.ZQ=7 then RT o x.Z8 x.ZY (Xc o x.ZZ)
 else RT o x.Z8 x.ZY (Vq o x.Z8 x.ZY x.name)
theorem QQ (o:Ob)(A0:Option Addr)(k0:Nat)(A1:Option Addr)(k1:Nat)(x:Cm)(X:Option Addr)(k:Nat)(Y:Option Addr)(n:Nat)(w:World)(hO:Pg w o A0 A1)(ho:o.Zv 1099511627776)
  (hX:ZV w (· < w.heap.size) Zl (x.ZX.map Cl.da) X) (hY:ZV w (· < w.heap.size) [.Z9] (YU x.ZZ.ZX) Y) (hx:x.Zv 1099511627776) (hb:QJ x.ZZ) (h5:x.ZQ=5→x.ZX.length=1):
  Calls Tryz.prog 86 #[.agg #[.slice A0 o.Z4.length k0,.slice A1 o.Z7.length k1],.agg (x.cs X k Y n).toArray] w (KP o (Jr o x) w):=by
 obtain⟨ZQ,ZM,Z8,ZY,name,ZT,ZX,ZZ,right,Zz⟩:=x;dsimp only at hX hY h5 hb;have HOb:=hid hO;have HO:=hid ho;have HX:=hid hX;have HY:=hid hY;have HBd:=hid hb;have hcl:ZX.length≤1099511627776:=hx.2.2.2.2.2.1;have HRt:Hid (ZZ.Zv 1099511627776):=hid hx.2.2.2.2.2.2.1;have H5:=hid h5;have HI2:=iN 26 2;clear hO ho hX hY hx hb h5;unfold Cm.cs;dsimp only;obtain⟨b0,b1,hb⟩:=Sj w (.cells #[.slice A0 o.Z4.length k0,.slice A1 o.Z7.length k1] 26) [.int .i64 ZQ,.string (Z9 ZM),.string (Z9 Z8),.string (Z9 ZY),.string (Z9 name),.string (Z9 ZT),.slice X ZX.length k,.string (Z9 ZZ.name),.int .i64 ZZ.ZQ,.slice Y ZZ.ZX.length n,.int .i64 ZZ.low,.int .i64 ZZ.ZF,.string (Z9 ZZ.Z8),.string (Z9 ZZ.ZY),.string (Z9 ZZ.key),.int .i64 right,.bool Zz] [.slice none 0 0,.slice none 0 0] 43 26;have b00:ZP (((w.alloc (.cells #[.slice A0 o.Z4.length k0,.slice A1 o.Z7.length k1] 26)).alloc (.cells #[.int .i64 ZQ,.string (Z9 ZM),.string (Z9 Z8),.string (Z9 ZY),.string (Z9 name),.string (Z9 ZT),.slice X ZX.length k,.string (Z9 ZZ.name),.int .i64 ZZ.ZQ,.slice Y ZZ.ZX.length n,.int .i64 ZZ.low,.int .i64 ZZ.ZF,.string (Z9 ZZ.Z8),.string (Z9 ZZ.ZY),.string (Z9 ZZ.key),.int .i64 right,.bool Zz] 43)).alloc (.cells #[.slice none 0 0,.slice none 0 0] 26)) w.heap.size 26 [.slice A0 o.Z4.length k0,.slice A1 o.Z7.length k1]:=((ZP.new w _ _).alloc _).alloc _;have P0:=hid b00;have X0:=hid b0;have R0:=hid b1;have HB0:=hid hb;clear b0 b1 b00 hb;go_enter Tryz.func86,Tryz.ntmps86
 by_cases h1:ZQ=1
 ·subst h1;go_wp2_with fail;generalize (((w.alloc (.cells #[.slice A0 o.Z4.length k0,.slice A1 o.Z7.length k1] 26)).alloc (.cells #[.int .i64 1,.string (Z9 ZM),.string (Z9 Z8),.string (Z9 ZY),.string (Z9 name),.string (Z9 ZT),.slice X ZX.length k,.string (Z9 ZZ.name),.int .i64 ZZ.ZQ,.slice Y ZZ.ZX.length n,.int .i64 ZZ.low,.int .i64 ZZ.ZF,.string (Z9 ZZ.Z8),.string (Z9 ZZ.ZY),.string (Z9 ZZ.key),.int .i64 right,.bool Zz] 43)).alloc (.cells #[.slice none 0 0,.slice none 0 0] 26))=W0 at*;refine(Q9 o A0 k0 A1 k1 Z8 ZM W0 (HOb.out.later HB0.out) HO.out).mono ?_
  rintro e W1 ⟨er,o',B0,l0,B1,l1,rfl,hR,hOb,hb⟩;have HB1:=bt HB0 hb;have R1:=bl R0 hb;have HR:=hid hR;have HOb2:=hid hOb;clear hb hR hOb HB0 R0;go_wp2_with (first | (refine sO R1 HI2 ?_;intro w9 U) | fail);refine bodyPost_ret (YM rfl _ _ (w.heap.size+1+1) rfl (hid U.out.X8) rfl Tryz.underlying26 rfl HI2) rfl ?_
  exact⟨er,o',B0,l0,B1,l1,rfl,HR.out,HOb2.out.keeps U.out.keeps (by decide),U.out.below HB1.out (by omega)⟩
 have g1:(ZQ == 1)=false:=by simpa using h1
 by_cases h2:ZQ=2
 ·subst h2;go_wp2_with fail;generalize (((w.alloc (.cells #[.slice A0 o.Z4.length k0,.slice A1 o.Z7.length k1] 26)).alloc (.cells #[.int .i64 2,.string (Z9 ZM),.string (Z9 Z8),.string (Z9 ZY),.string (Z9 name),.string (Z9 ZT),.slice X ZX.length k,.string (Z9 ZZ.name),.int .i64 ZZ.ZQ,.slice Y ZZ.ZX.length n,.int .i64 ZZ.low,.int .i64 ZZ.ZF,.string (Z9 ZZ.Z8),.string (Z9 ZZ.ZY),.string (Z9 ZZ.key),.int .i64 right,.bool Zz] 43)).alloc (.cells #[.slice none 0 0,.slice none 0 0] 26))=W0 at*;refine(RW o A0 k0 A1 k1 Z8 W0 (HOb.out.later HB0.out) HO.out).mono ?_
  rintro e W1 ⟨er,o',B0,l0,B1,l1,rfl,hR,hOb,hb⟩;have HB1:=bt HB0 hb;have R1:=bl R0 hb;have HR:=hid hR;have HOb2:=hid hOb;clear hb hR hOb HB0 R0;go_wp2_with (first | (refine sO R1 HI2 ?_;intro w9 U) | fail);refine bodyPost_ret (YM rfl _ _ (w.heap.size+1+1) rfl (hid U.out.X8) rfl Tryz.underlying26 rfl HI2) rfl ?_
  exact⟨er,o',B0,l0,B1,l1,rfl,HR.out,HOb2.out.keeps U.out.keeps (by decide),U.out.below HB1.out (by omega)⟩
 have g2:(ZQ == 2)=false:=by simpa using h2
 by_cases h3:ZQ=3
 ·subst h3;go_wp2_with fail;generalize (((w.alloc (.cells #[.slice A0 o.Z4.length k0,.slice A1 o.Z7.length k1] 26)).alloc (.cells #[.int .i64 3,.string (Z9 ZM),.string (Z9 Z8),.string (Z9 ZY),.string (Z9 name),.string (Z9 ZT),.slice X ZX.length k,.string (Z9 ZZ.name),.int .i64 ZZ.ZQ,.slice Y ZZ.ZX.length n,.int .i64 ZZ.low,.int .i64 ZZ.ZF,.string (Z9 ZZ.Z8),.string (Z9 ZZ.ZY),.string (Z9 ZZ.key),.int .i64 right,.bool Zz] 43)).alloc (.cells #[.slice none 0 0,.slice none 0 0] 26))=W0 at*;refine(PQ o A0 k0 A1 k1 ⟨Z8,ZY,ZM,ZX,[]⟩ X k none 0 W0 (HOb.out.later HB0.out) HO.out ⟨hcl,by simp,by simp⟩ (HX.out.later HB0.out) ZV.nil).mono ?_
  rintro e W1 ⟨er,o',B0,l0,B1,l1,rfl,hR,hOb,hb⟩;have HB1:=bt HB0 hb;have R1:=bl R0 hb;have HR:=hid hR;have HOb2:=hid hOb;clear hb hR hOb HB0 R0;go_wp2_with (first | (refine sO R1 HI2 ?_;intro w9 U) | fail);refine bodyPost_ret (YM rfl _ _ (w.heap.size+1+1) rfl (hid U.out.X8) rfl Tryz.underlying26 rfl HI2) rfl ?_
  exact⟨er,o',B0,l0,B1,l1,rfl,HR.out,HOb2.out.keeps U.out.keeps (by decide),U.out.below HB1.out (by omega)⟩
 have g3:(ZQ == 3)=false:=by simpa using h3
 by_cases h5:ZQ=5
 ·subst h5;obtain⟨c,rfl⟩: ∃ c,ZX= [c]:=List.length_eq_one_iff.1 (H5.out rfl);obtain⟨ad,vs,rfl,hv,hr⟩:=(HX.out.later HB0.out).at_ (j:=0) (by simp);have hcs:vs=Cl.cs c:=Cl.YO hv;subst hcs;have HBx:=HB0;have P0x:=P0;have X0x:=X0;have R0x:=R0;clear HB0 P0 X0 R0;go_wp2_with fail;refine Uv _ fun W0 hW=> ?_
  have HB0:Hid (Below w.heap.size w W0):=hid (by rw [hW];exact HBx.out);have P0:=rB hW P0x.out;have X0:=rB hW X0x.out;have R0:=rB hW R0x.out;replace hr: ∀ i u,(Cl.cs c)[i]?=some u→W0.cell? (ad.add (0*Zl.length+i))=some u:=by rw [hW];exact hr
  clear hW HBx P0x X0x R0x;have c0:W0.cell? ad=some (.string (Z9 c.name)):=by have h:=hr 0 _ rfl;rw [Nat.add_zero,Ti] at h;exact h
  have c1:W0.cell? ⟨ad.block,ad.off+1,none⟩=some (.int .i64 c.ZQ):=by have h:=hr 1 _ rfl;rw [YH ad (0*Zl.length) 1 (by omega),Ti] at h;exact h
  have c2:W0.cell? ⟨ad.block,ad.off+2,none⟩=some (.bool c.null):=by have h:=hr 2 _ rfl;rw [YH ad (0*Zl.length) 2 (by omega),Ti] at h;exact h
  have hal:ad.block<W0.heap.size:=World.block_lt_of_cell? _ _ c0;have hal1:ad.block<W0.heap.size:=hal;have hal2:ad.block<W0.heap.size:=hal;clear hr hv;have hS0:W0.drew.cell? ⟨w.heap.size,0,none⟩=some (.slice A0 o.Z4.length k0)∧W0.drew.cell? ⟨w.heap.size,1,none⟩=some (.slice A1 o.Z7.length k1)∧W0.drew.cell? ⟨w.heap.size+1,2,none⟩=some (.string (Z9 Z8))∧W0.drew.cell? ⟨w.heap.size+1,3,none⟩=some (.string (Z9 ZY))∧W0.drew.cell? ⟨w.heap.size+1,6,none⟩=some (.slice (some ad) 1 k)∧W0.drew.cell? ad=some (.string (Z9 c.name))∧W0.drew.cell? ⟨ad.block,ad.off+1,none⟩=some (.int .i64 c.ZQ)∧W0.drew.cell? ⟨ad.block,ad.off+2,none⟩=some (.bool c.null):=⟨P0.out.drew.cell 0,P0.out.drew.cell 1,X0.out.drew.cell 2,X0.out.drew.cell 3,X0.out.drew.cell 6,c0,c1,c2⟩
  refine Zy 12 (S:=fun w'=>w'.cell? ⟨w.heap.size,0,none⟩=some (.slice A0 o.Z4.length k0)∧w'.cell? ⟨w.heap.size,1,none⟩=some (.slice A1 o.Z7.length k1)∧w'.cell? ⟨w.heap.size+1,2,none⟩=some (.string (Z9 Z8))∧w'.cell? ⟨w.heap.size+1,3,none⟩=some (.string (Z9 ZY))∧w'.cell? ⟨w.heap.size+1,6,none⟩=some (.slice (some ad) 1 k)∧w'.cell? ad=some (.string (Z9 c.name))∧w'.cell? ⟨ad.block,ad.off+1,none⟩=some (.int .i64 c.ZQ)∧w'.cell? ⟨ad.block,ad.off+2,none⟩=some (.bool c.null)) (by kernel_rfl) hS0 (fun HD'=> ?_)
  (try simp only [pp]);refine Y9 0 43 HD' ?_;refine Y9 1 44 HD' ?_;refine Y9 2 45 HD' ?_;refine Y9 3 46 HD' ?_;refine Y9 4 47 HD' ?_;refine Y9 5 48 HD' ?_;refine Y9 6 49 HD' ?_;refine Y9 7 50 HD' ?_;refine Y9 8 51 HD' ?_;refine Re 9 52 fun K hK=> ?_
  go_simp;refine(Ra o A0 k0 A1 k1 Z8 ZY c W0.drew (HOb.out.later HB0.out.drew) HO.out).mono ?_
  rintro e W1 ⟨er,o',B0,l0,B1,l1,rfl,hR,hOb,hb⟩;have hbw:Below W0.heap.size W0 W1:=br.drew.trans hb;have HB1:=bt HB0 hbw;have R1:=bl R0 hbw;have HR:=hid hR;have HOb2:=hid hOb;have hS1:W1.cell? ⟨w.heap.size,0,none⟩=some (.slice A0 o.Z4.length k0)∧W1.cell? ⟨w.heap.size,1,none⟩=some (.slice A1 o.Z7.length k1)∧W1.cell? ⟨w.heap.size+1,2,none⟩=some (.string (Z9 Z8))∧W1.cell? ⟨w.heap.size+1,3,none⟩=some (.string (Z9 ZY))∧W1.cell? ⟨w.heap.size+1,6,none⟩=some (.slice (some ad) 1 k)∧W1.cell? ad=some (.string (Z9 c.name))∧W1.cell? ⟨ad.block,ad.off+1,none⟩=some (.int .i64 c.ZQ)∧W1.cell? ⟨ad.block,ad.off+2,none⟩=some (.bool c.null):=⟨cb P0 (hbw) 0,cb P0 (hbw) 1,cb X0 (hbw) 2,cb X0 (hbw) 3,cb X0 (hbw) 6,((hbw).cell hal).trans c0,((hbw).cell (p:=⟨ad.block,ad.off+1,none⟩) hal).trans c1,((hbw).cell (p:=⟨ad.block,ad.off+2,none⟩) hal).trans c2⟩
  clear hb hR hOb hbw;refine hK.out _ _ hS1 ?_
  clear hK K;(try simp only [pp])
  clear HD';have HD':=hS1;refine Y9 10 53 HD' ?_;refine Y9 11 54 HD' ?_;refine ZC.Xo (i:=12) (o:=⟨none,_,_,_,_,_⟩) (by kernel_rfl) (by kernel_rfl) rfl (fun K hK=> ?_)
  refine Zk rfl 26 _ _ rfl (w.heap.size+1+1) [.slice B0 o'.Z4.length l0,.slice B1 o'.Z7.length l1] rfl rfl R1 rfl rfl HI2 (by simp [Value.oneCell']) ?_
  intro w9 U;refine hK.out _ _ ?_
  clear hK K;(try simp only [pp])
  refine ZC.behind (i:=13) (o:=⟨some 5,_,_,_,_,_⟩) (by kernel_rfl) (by kernel_rfl) rfl (fun K hK=> ?_)
  go_simp;refine hK.out _ _ (ZC.done (by kernel_rfl) ?_ _);clear hK K HD' hS1 hS0 c0 c1 c2;go_wp2;refine bodyPost_ret (YM rfl _ _ (w.heap.size+1+1) rfl (hid U.out.X8) rfl Tryz.underlying26 rfl HI2) rfl ?_
  exact⟨er,o',B0,l0,B1,l1,rfl,HR.out,HOb2.out.keeps U.out.keeps (by decide),U.out.below HB1.out (by omega)⟩
 have g5:(ZQ == 5)=false:=by simpa using h5
 by_cases h6:ZQ=6
 ·subst h6;go_wp2_with fail;generalize (((w.alloc (.cells #[.slice A0 o.Z4.length k0,.slice A1 o.Z7.length k1] 26)).alloc (.cells #[.int .i64 6,.string (Z9 ZM),.string (Z9 Z8),.string (Z9 ZY),.string (Z9 name),.string (Z9 ZT),.slice X ZX.length k,.string (Z9 ZZ.name),.int .i64 ZZ.ZQ,.slice Y ZZ.ZX.length n,.int .i64 ZZ.low,.int .i64 ZZ.ZF,.string (Z9 ZZ.Z8),.string (Z9 ZZ.ZY),.string (Z9 ZZ.key),.int .i64 right,.bool Zz] 43)).alloc (.cells #[.slice none 0 0,.slice none 0 0] 26))=W0 at*;refine(RX o A0 k0 A1 k1 Z8 ZY name W0 (HOb.out.later HB0.out) HO.out).mono ?_
  rintro e W1 ⟨er,o',B0,l0,B1,l1,rfl,hR,hOb,hb⟩;have HB1:=bt HB0 hb;have R1:=bl R0 hb;have HR:=hid hR;have HOb2:=hid hOb;clear hb hR hOb HB0 R0;go_wp2_with (first | (refine sO R1 HI2 ?_;intro w9 U) | fail);refine bodyPost_ret (YM rfl _ _ (w.heap.size+1+1) rfl (hid U.out.X8) rfl Tryz.underlying26 rfl HI2) rfl ?_
  exact⟨er,o',B0,l0,B1,l1,rfl,HR.out,HOb2.out.keeps U.out.keeps (by decide),U.out.below HB1.out (by omega)⟩
 have g6:(ZQ == 6)=false:=by simpa using h6
 by_cases h7:ZQ=7
 ·subst h7;go_wp2_with fail;generalize (((w.alloc (.cells #[.slice A0 o.Z4.length k0,.slice A1 o.Z7.length k1] 26)).alloc (.cells #[.int .i64 7,.string (Z9 ZM),.string (Z9 Z8),.string (Z9 ZY),.string (Z9 name),.string (Z9 ZT),.slice X ZX.length k,.string (Z9 ZZ.name),.int .i64 ZZ.ZQ,.slice Y ZZ.ZX.length n,.int .i64 ZZ.low,.int .i64 ZZ.ZF,.string (Z9 ZZ.Z8),.string (Z9 ZZ.ZY),.string (Z9 ZZ.key),.int .i64 right,.bool Zz] 43)).alloc (.cells #[.slice none 0 0,.slice none 0 0] 26))=W0 at*;refine(Pd o A0 k0 A1 k1 Z8 ZY ZZ Y n W0 (HOb.out.later HB0.out) HO.out HRt.out HBd.out (HY.out.later HB0.out)).mono ?_
  rintro e W1 ⟨er,o',B0,l0,B1,l1,rfl,hR,hOb,hb⟩;have HB1:=bt HB0 hb;have R1:=bl R0 hb;have HR:=hid hR;have HOb2:=hid hOb;clear hb hR hOb HB0 R0;go_wp2_with (first | (refine sO R1 HI2 ?_;intro w9 U) | fail);refine bodyPost_ret (YM rfl _ _ (w.heap.size+1+1) rfl (hid U.out.X8) rfl Tryz.underlying26 rfl HI2) rfl ?_
  exact⟨er,o',B0,l0,B1,l1,rfl,HR.out,HOb2.out.keeps U.out.keeps (by decide),U.out.below HB1.out (by omega)⟩
 have g7:(ZQ == 7)=false:=by simpa using h7
 go_wp2_with fail;generalize (((w.alloc (.cells #[.slice A0 o.Z4.length k0,.slice A1 o.Z7.length k1] 26)).alloc (.cells #[.int .i64 ZQ,.string (Z9 ZM),.string (Z9 Z8),.string (Z9 ZY),.string (Z9 name),.string (Z9 ZT),.slice X ZX.length k,.string (Z9 ZZ.name),.int .i64 ZZ.ZQ,.slice Y ZZ.ZX.length n,.int .i64 ZZ.low,.int .i64 ZZ.ZF,.string (Z9 ZZ.Z8),.string (Z9 ZZ.ZY),.string (Z9 ZZ.key),.int .i64 right,.bool Zz] 43)).alloc (.cells #[.slice none 0 0,.slice none 0 0] 26))=W0 at*;refine(PF o A0 k0 A1 k1 Z8 ZY name W0 (HOb.out.later HB0.out) HO.out).mono ?_
 rintro e W1 ⟨er,o',B0,l0,B1,l1,rfl,hR,hOb,hb⟩;have HB1:=bt HB0 hb;have R1:=bl R0 hb;have HR:=hid hR;have HOb2:=hid hOb;clear hb hR hOb HB0 R0;go_wp2_with (first | (refine sO R1 HI2 ?_;intro w9 U) | fail);refine bodyPost_ret (YM rfl _ _ (w.heap.size+1+1) rfl (hid U.out.X8) rfl Tryz.underlying26 rfl HI2) rfl ?_
 exact⟨er,o',B0,l0,B1,l1,rfl,by unfold Jr;dsimp only;rw [if_neg h1,if_neg h2,if_neg h3,if_neg h5,if_neg h6,if_neg h7];exact HR.out,HOb2.out.keeps U.out.keeps (by decide),U.out.below HB1.out (by omega)⟩
end Go.Proofs.YtnhmoibjlakhjaaGreat
