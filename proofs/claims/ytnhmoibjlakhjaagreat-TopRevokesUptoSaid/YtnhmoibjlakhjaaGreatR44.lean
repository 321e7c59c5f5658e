/- Lemmas of the proof. No condition but each theorem's own. -/
import Derived.Test.YtnhmoibjlakhjaaGreatR42
import Derived.Test.YtnhmoibjlakhjaaGreatR43
import Derived.Test.YtnhmoibjlakhjaaGreatR03
import Derived.Test.YtnhmoibjlakhjaaGreatR10
import Derived.Test.YtnhmoibjlakhjaaGreatR18
set_option linter.unusedVariables false
set_option linter.unusedSimpArgs false
namespace Go.Proofs.YtnhmoibjlakhjaaGreat
open Lib (hid)
set_option maxRecDepth 100000
set_option maxHeartbeats 16000000
open Go.RowKit
section
variable {w : World} {S : Nat → Prop}
theorem Cm.YN {ds:List Da}{vs:List Value}(h:ZH w S Xt ds vs): ∃ (x:Cm)(X:Option Addr)(k:Nat)(Y:Option Addr)(n:Nat),ds=x.da∧vs=x.cs X k Y n∧ZV w S Zl (x.ZX.map Cl.da) X∧ZV w S [.Z9] (YU x.ZZ.ZX) Y∧QJ x.ZZ:=by
 obtain⟨d0,ds0,v0,vs0,rfl,rfl,h0,r0⟩:=h.cons;obtain⟨d1,ds1,v1,vs1,rfl,rfl,h1,r1⟩:=r0.cons;obtain⟨d2,ds2,v2,vs2,rfl,rfl,h2,r2⟩:=r1.cons;obtain⟨d3,ds3,v3,vs3,rfl,rfl,h3,r3⟩:=r2.cons;obtain⟨d4,ds4,v4,vs4,rfl,rfl,h4,r4⟩:=r3.cons;obtain⟨d5,ds5,v5,vs5,rfl,rfl,h5,r5⟩:=r4.cons;obtain⟨d6,ds6,v6,vs6,rfl,rfl,h6,r6⟩:=r5.cons;obtain⟨d7,ds7,v7,vs7,rfl,rfl,h7,r7⟩:=r6.cons;obtain⟨d8,ds8,v8,vs8,rfl,rfl,h8,r8⟩:=r7.cons;obtain⟨d9,ds9,v9,vs9,rfl,rfl,h9,r9⟩:=r8.cons;obtain⟨d10,ds10,v10,vs10,rfl,rfl,h10,r10⟩:=r9.cons;obtain⟨d11,ds11,v11,vs11,rfl,rfl,h11,r11⟩:=r10.cons;obtain⟨d12,ds12,v12,vs12,rfl,rfl,h12,r12⟩:=r11.cons;obtain⟨d13,ds13,v13,vs13,rfl,rfl,h13,r13⟩:=r12.cons;obtain⟨d14,ds14,v14,vs14,rfl,rfl,h14,r14⟩:=r13.cons;obtain⟨d15,ds15,v15,vs15,rfl,rfl,h15,r15⟩:=r14.cons;obtain⟨d16,ds16,v16,vs16,rfl,rfl,h16,r16⟩:=r15.cons;obtain⟨rfl,rfl⟩:=r16.nil;obtain⟨z0,rfl,rfl⟩:=h0.num;obtain⟨z1,rfl,rfl⟩:=h1.T0;obtain⟨z2,rfl,rfl⟩:=h2.T0;obtain⟨z3,rfl,rfl⟩:=h3.T0;obtain⟨z4,rfl,rfl⟩:=h4.T0;obtain⟨z5,rfl,rfl⟩:=h5.T0;obtain⟨e6,X,k,rfl,rfl,hX⟩:=h6.rows;obtain⟨z6,rfl⟩:=Cl.rows hX;obtain⟨z7,rfl,rfl⟩:=h7.T0;obtain⟨z8,rfl,rfl⟩:=h8.num;obtain⟨e9,Y,n,rfl,rfl,hY⟩:=h9.rows;obtain⟨z9,rfl⟩:=MH hY;obtain⟨z10,rfl,rfl,b10⟩:=h10.YF;obtain⟨z11,rfl,rfl,b11⟩:=h11.YF;obtain⟨z12,rfl,rfl⟩:=h12.T0;obtain⟨z13,rfl,rfl⟩:=h13.T0;obtain⟨z14,rfl,rfl⟩:=h14.T0;obtain⟨z15,rfl,rfl⟩:=h15.num;obtain⟨z16,rfl,rfl⟩:=h16.YY;exact⟨⟨z0,z1,z2,z3,z4,z5,z6,⟨z7,z8,z9,z10,z11,z12,z13,z14⟩,z15,z16⟩,X,k,Y,n,rfl,by simp [Cm.cs,YU],hX,hY,b10,b11⟩
theorem Cm.rows {ds:List (List Da)}{A:Option Addr}(h:ZV w S Xt ds A): ∃ l:List Cm,ds=l.map Cm.da:=
 Wk fun j d hd=>by
  obtain⟨vs,h1⟩:=h.UT hd;obtain⟨x,X,k,Y,n,hx,_⟩:=Cm.YN h1;exact⟨x,hx⟩
theorem Cm.Vm {a b:Cm}(h:a.da=b.da):a=b:=by
 obtain⟨a1,a2,a3,a4,a5,a6,a7,⟨r1,r2,r3,r4,r5,r6,r7,r8⟩,a9,a10⟩:=a;obtain⟨b1,b2,b3,b4,b5,b6,b7,⟨q1,q2,q3,q4,q5,q6,q7,q8⟩,b9,b10⟩:=b;simp only [Cm.da,List.cons.injEq,Da.Z9.injEq,Da.int.injEq,Da.rows.injEq,Da.YY.injEq,and_true] at h;obtain⟨rfl,rfl,rfl,rfl,rfl,rfl,h7,rfl,rfl,h10,rfl,rfl,rfl,rfl,rfl,rfl,rfl⟩:=h;rw [(List.map_inj_right fun _ _=>Cl.Vm).1 h7,Of h10]
theorem Cm.YO {x:Cm}{vs:List Value}(h:ZH w S Xt x.da vs): ∃ X k Y n,vs=x.cs X k Y n∧ZV w S Zl (x.ZX.map Cl.da) X∧ZV w S [.Z9] (YU x.ZZ.ZX) Y∧QJ x.ZZ:=by
 obtain⟨y,X,k,Y,n,h1,h2,h3⟩:=Cm.YN h;obtain rfl:=Cm.Vm h1;exact⟨X,k,Y,n,h2,h3⟩
end
def Ju (e:Ending):Prop:= ∃ b,e= .returned (.bool b)
theorem KH (x:Cm)(X:Option Addr)(k:Nat)(Y:Option Addr)(n:Nat)(w:World):
  Calls Tryz.prog 7 #[.agg (x.cs X k Y n).toArray] w fun e w'=>Ju e∧Below w.heap.size w w':=by
 have HB0:Hid (Below w.heap.size w (w.alloc (.cells #[.int .i64 x.ZQ,.string (Z9 x.ZM),.string (Z9 x.Z8),.string (Z9 x.ZY),.string (Z9 x.name),.string (Z9 x.ZT),.slice X x.ZX.length k,.string (Z9 x.ZZ.name),.int .i64 x.ZZ.ZQ,.slice Y x.ZZ.ZX.length n,.int .i64 x.ZZ.low,.int .i64 x.ZZ.ZF,.string (Z9 x.ZZ.Z8),.string (Z9 x.ZZ.ZY),.string (Z9 x.ZZ.key),.int .i64 x.right,.bool x.Zz] 43))):=hid (br.alloc lr _);have P0:Hid (ZP (w.alloc (.cells #[.int .i64 x.ZQ,.string (Z9 x.ZM),.string (Z9 x.Z8),.string (Z9 x.ZY),.string (Z9 x.name),.string (Z9 x.ZT),.slice X x.ZX.length k,.string (Z9 x.ZZ.name),.int .i64 x.ZZ.ZQ,.slice Y x.ZZ.ZX.length n,.int .i64 x.ZZ.low,.int .i64 x.ZZ.ZF,.string (Z9 x.ZZ.Z8),.string (Z9 x.ZZ.ZY),.string (Z9 x.ZZ.key),.int .i64 x.right,.bool x.Zz] 43)) w.heap.size 43 [.int .i64 x.ZQ,.string (Z9 x.ZM),.string (Z9 x.Z8),.string (Z9 x.ZY),.string (Z9 x.name),.string (Z9 x.ZT),.slice X x.ZX.length k,.string (Z9 x.ZZ.name),.int .i64 x.ZZ.ZQ,.slice Y x.ZZ.ZX.length n,.int .i64 x.ZZ.low,.int .i64 x.ZZ.ZF,.string (Z9 x.ZZ.Z8),.string (Z9 x.ZZ.ZY),.string (Z9 x.ZZ.key),.int .i64 x.right,.bool x.Zz]):=hid (ZP.new w _ _);unfold Cm.cs;go_enter Tryz.func7,Tryz.ntmps7
 go_upto_region 1 with fail
 generalize (w.alloc (.cells #[.int .i64 x.ZQ,.string (Z9 x.ZM),.string (Z9 x.Z8),.string (Z9 x.ZY),.string (Z9 x.name),.string (Z9 x.ZT),.slice X x.ZX.length k,.string (Z9 x.ZZ.name),.int .i64 x.ZZ.ZQ,.slice Y x.ZZ.ZX.length n,.int .i64 x.ZZ.low,.int .i64 x.ZZ.ZF,.string (Z9 x.ZZ.Z8),.string (Z9 x.ZZ.ZY),.string (Z9 x.ZZ.key),.int .i64 x.right,.bool x.Zz] 43))=W0 at*;have p6:=ce P0 6;have p9:=ce P0 9;by_cases h1:(x.ZX.length:Int) > 1000
 ·go_wp2;go_ret;exact⟨⟨_,rfl⟩,HB0.out⟩
 ·by_cases h2:(x.ZZ.ZX.length:Int) > 1000
  ·go_wp2;go_ret;exact⟨⟨_,rfl⟩,HB0.out⟩
  ·go_wp2;go_ret;exact⟨⟨_,rfl⟩,HB0.out⟩
theorem Ua (w:World):Calls Tryz.prog 41 #[] w fun e w'=>e= .returned (.agg (Xf.cs none 0 none 0).toArray)∧Below w.heap.size w w':=by
 have HI17:=iN 43 17;go_enter Tryz.func41,Tryz.ntmps41
 go_wp2;refine bodyPost_ret (rS (hid (ZP.new w 43 [.int .i64 1,.string (Z9 Yd),.string (Z9 [115]),.string (Z9 []),.string (Z9 []),.string (Z9 []),.slice none 0 0,.string (Z9 []),.int .i64 0,.slice none 0 0,.int .i64 0,.int .i64 0,.string (Z9 []),.string (Z9 []),.string (Z9 []),.int .i64 0,.bool false])) Tryz.underlying43 HI17) rfl ?_
 exact⟨rfl,br.alloc lr _⟩
theorem UC:Xf.Zv 549755813888:=by
 refine⟨?_,?_,?_,?_,?_,?_,⟨?_,?_,?_,?_⟩,?_⟩ <;> simp [Xf,Yd]
theorem OA:Ca.new.Zv 1099511627776:=by
 refine⟨⟨?_,?_,?_⟩,⟨?_,?_,?_,?_⟩,?_⟩ <;> simp [Ca.new,Yd]
theorem SZ:Pp.Zv 1099511627776:=by
 refine⟨⟨?_,?_,?_⟩,⟨?_,?_,?_,?_⟩,?_⟩ <;> simp [Pp,Yd]
theorem PZ (w:World):Calls Tryz.prog 12 #[] w fun e w'=>e= .returned (.bool true)∧Below w.heap.size w w':=by
 have HI7:=iN 33 7;go_enter Tryz.func12,Tryz.ntmps12
 go_wp2_with fail;refine(MJ w).mono ?_
 rintro e W1 ⟨A,rfl,hT,hb⟩;have HT0:=hid hT;have HB1:=hid hb;clear hT hb;go_wp2_with fail;refine(Ua W1).mono ?_
 rintro e W2 ⟨rfl,hb⟩;have HT1:=hid (HT0.out.later hb);have HB2:=bt HB1 hb;clear hb HT0 HB1;go_wp2_with fail;refine(WS Ca.new A Xf none 0 none 0 W2 HT1.out.VF OA ZV.nil ZV.nil UC ⟨⟨by decide,by decide⟩,⟨by decide,by decide⟩⟩).mono ?_
 rintro e W3 ⟨er,c1,A1,rfl,hR,hT,hb⟩;obtain⟨h0,hc1⟩:=LX hR;subst h0;have HT2:=hid (hT rfl);have HB3:=bt HB2 hb;have HC1:=hid hc1;clear hR hT hb hc1 HT1 HB2;unfold Ca.cs;go_upto_region 2 with fail
 refine Uv _ fun W4 hW=> ?_
 have HBx:=bP hW;have G4:=nC hW;clear hW;have HT4:=hid (HT2.out.later HBx.out);have HB4:=bt HB3 HBx.out;clear HT2 HB3 HBx;generalize W3.heap.size=g at*;have hgl:=G4.out.lt;refine' JU (F:=fun p er c2 A2 V=>Hid (ZP V g 33 [.int .i64 c1.ZO,.int .i64 c1.ZU,.slice A1.a0 c1.ob.Z4.length A1.k0,.slice A1.a1 c1.ob.Z7.length A1.k1,.slice A1.a2 c1.ro.ZW.length A1.k2,.slice A1.a3 c1.ro.Z2.length A1.k3,.slice A1.a4 c1.Z3.length A1.k4])∧Hid (Below W4.heap.size W4 V)∧Hid (er=60)) (fun key=>_) _
 rotate_left
 ·have HBv:Hid (Below W4.heap.size W4 W4.drew):=hid br.drew;refine wp_region_held_drew (S:=fun w'=>w'.rangeAt g 0 [.int .i64 c1.ZO,.int .i64 c1.ZU,.slice A1.a0 c1.ob.Z4.length A1.k0,.slice A1.a1 c1.ob.Z7.length A1.k1,.slice A1.a2 c1.ro.ZW.length A1.k2,.slice A1.a3 c1.ro.Z2.length A1.k3,.slice A1.a4 c1.Z3.length A1.k4]) (by kernel_rfl) ((G4.out.below HBv.out hgl).YQ) (fun HD=> ?_)
  (try simp only [pp]);refine wpAnyH_take (i:=0) (oi:=⟨some 12,_,_,_,_,_⟩) (v:=_) rfl (by kernel_rfl) (by kernel_rfl) (by kernel_rfl) (fun _ _ _ h=>h) (yieldsIf_load_mid (by rfl) _ _ rfl (g) 0 rfl [.int .i64 c1.ZO,.int .i64 c1.ZU,.slice A1.a0 c1.ob.Z4.length A1.k0,.slice A1.a1 c1.ob.Z7.length A1.k1,.slice A1.a2 c1.ro.ZW.length A1.k2,.slice A1.a3 c1.ro.Z2.length A1.k3,.slice A1.a4 c1.Z3.length A1.k4] _ (fun _ h=>h) Tryz.underlying33 rfl HI7.out) HD ?_
  (try simp only [pp]);refine wpAnyH_ready (rs:= [1,6]) (by kernel_rfl) (by simp) ?_
  refine AllReadyH.cons (o:=⟨some 13,_,_,_,_,_⟩) rfl (fun K hK=> ?_) (AllReadyH.cons (o:=⟨some 3,_,_,_,_,_⟩) rfl (fun K hK=> ?_) AllReadyH.nil)
  ·go_simp;refine(Ua W4.drew).mono ?_
   rintro e V1 ⟨rfl,hb⟩;have HBn:=bt HBv hb;clear hb HBv;have HBv:=HBn;clear HBn;refine hK.out _ _ ((G4.out.below (HBv.out) hgl).YQ) (fun HD=> ?_);clear hK K;(try simp only [pp])
   refine wpAnyH_ready (rs:= [2,6]) (by kernel_rfl) (by simp) ?_
   refine AllReadyH.cons (o:=⟨some 14,_,_,_,_,_⟩) rfl (fun K hK=> ?_) (AllReadyH.cons (o:=⟨some 3,_,_,_,_,_⟩) rfl (fun K hK=> ?_) AllReadyH.nil)
   ·go_simp;refine((by have h:=WS c1 A1 Xf none 0 none 0 V1 (HT4.out.later (show Below W4.heap.size W4 V1 from HBv.out)).VF (by rw [HC1.out];exact SZ) ZV.nil ZV.nil UC ⟨⟨by decide,by decide⟩,⟨by decide,by decide⟩⟩;unfold Ca.cs at h;exact h:Calls Tryz.prog 9 #[.agg #[.int .i64 c1.ZO,.int .i64 c1.ZU,.slice A1.a0 c1.ob.Z4.length A1.k0,.slice A1.a1 c1.ob.Z7.length A1.k1,.slice A1.a2 c1.ro.ZW.length A1.k2,.slice A1.a3 c1.ro.Z2.length A1.k3,.slice A1.a4 c1.Z3.length A1.k4],.agg (Xf.cs none 0 none 0).toArray] V1 (JY c1 Xf V1))).mono ?_
    rintro e V2 ⟨er,c2,A2,rfl,hR,hT,hb⟩;have HBn:=bt HBv hb;have HE:Hid (er=60):=hid (SX (by rw [←HC1.out];exact hR));clear hR hT;unfold Ca.cs;clear hb HBv;have HBv:=HBn;clear HBn;refine hK.out _ _ ((G4.out.below (HBv.out) hgl).YQ) (fun HD=> ?_);clear hK K;(try simp only [pp])
    refine tk 3 11 HD ?_;refine tk 4 15 HD ?_;refine tk 5 16 HD ?_;refine on 6 3 fun K hK=> ?_
    go_simp;have HB2:Hid (Below W4.heap.size W4 (V2.alloc (.cells #[.int .i64 0,.int .i64 0,.slice none 0 0,.slice none 0 0,.slice none 0 0,.slice none 0 0,.slice none 0 0] 33))):=hid (HBv.out.alloc HBv.out.size _);have HG:Hid (ZP (V2.alloc (.cells #[.int .i64 0,.int .i64 0,.slice none 0 0,.slice none 0 0,.slice none 0 0,.slice none 0 0,.slice none 0 0] 33)) V2.heap.size 33 [.int .i64 0,.int .i64 0,.slice none 0 0,.slice none 0 0,.slice none 0 0,.slice none 0 0,.slice none 0 0]):=hid (ZP.new V2 _ _);have HGZ:Hid (W4.heap.size≤V2.heap.size):=hid HBv.out.size;have hbA:Below V2.heap.size V2 (V2.alloc (.cells #[.int .i64 0,.int .i64 0,.slice none 0 0,.slice none 0 0,.slice none 0 0,.slice none 0 0,.slice none 0 0] 33)):=br.alloc lr _;clear hbA HBv;generalize V2.alloc (.cells #[.int .i64 0,.int .i64 0,.slice none 0 0,.slice none 0 0,.slice none 0 0,.slice none 0 0,.slice none 0 0] 33)=VA at*;generalize V2.heap.size=p at*;have HBv:=HB2;clear HB2;refine hK.out _ _ ((G4.out.below (HBv.out) hgl).YQ) (fun HD=> ?_);clear hK K;(try simp only [pp])
    refine Rc 7 fun K hK=> ?_
    refine Zk rfl 33 _ _ rfl p [.int .i64 c2.ZO,.int .i64 c2.ZU,.slice A2.a0 c2.ob.Z4.length A2.k0,.slice A2.a1 c2.ob.Z7.length A2.k1,.slice A2.a2 c2.ro.ZW.length A2.k2,.slice A2.a3 c2.ro.Z2.length A2.k3,.slice A2.a4 c2.Z3.length A2.k4] rfl rfl HG rfl rfl HI7 (by simp [Value.oneCell']) ?_
    intro w9 U;have HB9:Hid (Below W4.heap.size W4 w9):=hid (U.out.below HBv.out HGZ.out);refine hK.out _ _ ((G4.out.below (HB9.out) hgl).YQ) (fun HD=> ?_);clear hK K;(try simp only [pp])
    refine tk 8 4 HD ?_;refine wpAnyH_done (by kernel_rfl) ?_ _
    exact key p er c2 A2 w9 ⟨hid (G4.out.below HB9.out hgl),HB9,HE⟩
   ·go_simp;have HB2:Hid (Below W4.heap.size W4 (V1.alloc (.cells #[.int .i64 0,.int .i64 0,.slice none 0 0,.slice none 0 0,.slice none 0 0,.slice none 0 0,.slice none 0 0] 33))):=hid (HBv.out.alloc HBv.out.size _);have HG:Hid (ZP (V1.alloc (.cells #[.int .i64 0,.int .i64 0,.slice none 0 0,.slice none 0 0,.slice none 0 0,.slice none 0 0,.slice none 0 0] 33)) V1.heap.size 33 [.int .i64 0,.int .i64 0,.slice none 0 0,.slice none 0 0,.slice none 0 0,.slice none 0 0,.slice none 0 0]):=hid (ZP.new V1 _ _);have HGZ:Hid (W4.heap.size≤V1.heap.size):=hid HBv.out.size;have hbA:Below V1.heap.size V1 (V1.alloc (.cells #[.int .i64 0,.int .i64 0,.slice none 0 0,.slice none 0 0,.slice none 0 0,.slice none 0 0,.slice none 0 0] 33)):=br.alloc lr _;clear hbA HBv;generalize V1.alloc (.cells #[.int .i64 0,.int .i64 0,.slice none 0 0,.slice none 0 0,.slice none 0 0,.slice none 0 0,.slice none 0 0] 33)=VA at*;generalize V1.heap.size=p at*;have HBv:=HB2;clear HB2;refine hK.out _ _ ((G4.out.below (HBv.out) hgl).YQ) (fun HD=> ?_);clear hK K;(try simp only [pp])
    refine on 2 14 fun K hK=> ?_
    go_simp;refine((by have h:=WS c1 A1 Xf none 0 none 0 VA (HT4.out.later (show Below W4.heap.size W4 VA from HBv.out)).VF (by rw [HC1.out];exact SZ) ZV.nil ZV.nil UC ⟨⟨by decide,by decide⟩,⟨by decide,by decide⟩⟩;unfold Ca.cs at h;exact h:Calls Tryz.prog 9 #[.agg #[.int .i64 c1.ZO,.int .i64 c1.ZU,.slice A1.a0 c1.ob.Z4.length A1.k0,.slice A1.a1 c1.ob.Z7.length A1.k1,.slice A1.a2 c1.ro.ZW.length A1.k2,.slice A1.a3 c1.ro.Z2.length A1.k3,.slice A1.a4 c1.Z3.length A1.k4],.agg (Xf.cs none 0 none 0).toArray] VA (JY c1 Xf VA))).mono ?_
    rintro e V2 ⟨er,c2,A2,rfl,hR,hT,hb⟩;have HG':=bl HG hb;clear HG;have HG:=HG';clear HG';have HBn:=bt HBv hb;have HE:Hid (er=60):=hid (SX (by rw [←HC1.out];exact hR));clear hR hT;unfold Ca.cs;clear hb HBv;have HBv:=HBn;clear HBn;refine hK.out _ _ ((G4.out.below (HBv.out) hgl).YQ) (fun HD=> ?_);clear hK K;(try simp only [pp])
    refine tk 3 11 HD ?_;refine tk 4 15 HD ?_;refine tk 5 16 HD ?_;refine Rc 7 fun K hK=> ?_
    refine Zk rfl 33 _ _ rfl p [.int .i64 c2.ZO,.int .i64 c2.ZU,.slice A2.a0 c2.ob.Z4.length A2.k0,.slice A2.a1 c2.ob.Z7.length A2.k1,.slice A2.a2 c2.ro.ZW.length A2.k2,.slice A2.a3 c2.ro.Z2.length A2.k3,.slice A2.a4 c2.Z3.length A2.k4] rfl rfl HG rfl rfl HI7 (by simp [Value.oneCell']) ?_
    intro w9 U;have HB9:Hid (Below W4.heap.size W4 w9):=hid (U.out.below HBv.out HGZ.out);refine hK.out _ _ ((G4.out.below (HB9.out) hgl).YQ) (fun HD=> ?_);clear hK K;(try simp only [pp])
    refine tk 8 4 HD ?_;refine wpAnyH_done (by kernel_rfl) ?_ _
    exact key p er c2 A2 w9 ⟨hid (G4.out.below HB9.out hgl),HB9,HE⟩
  ·go_simp;have HB2:Hid (Below W4.heap.size W4 (W4.alloc (.cells #[.int .i64 0,.int .i64 0,.slice none 0 0,.slice none 0 0,.slice none 0 0,.slice none 0 0,.slice none 0 0] 33)).drew):=hid (br.alloc lr _).drew;have HG0:Hid (ZP (W4.alloc (.cells #[.int .i64 0,.int .i64 0,.slice none 0 0,.slice none 0 0,.slice none 0 0,.slice none 0 0,.slice none 0 0] 33)).drew W4.heap.size 33 [.int .i64 0,.int .i64 0,.slice none 0 0,.slice none 0 0,.slice none 0 0,.slice none 0 0,.slice none 0 0]):=hid (ZP.new W4 _ _).drew;obtain⟨p,hp⟩: ∃ p,p=W4.heap.size:=⟨_,rfl⟩
   have HGZ:Hid (W4.heap.size≤p):=hid (by rw [hp];exact Nat.le_refl _);have HG:Hid (ZP (W4.alloc (.cells #[.int .i64 0,.int .i64 0,.slice none 0 0,.slice none 0 0,.slice none 0 0,.slice none 0 0,.slice none 0 0] 33)).drew p 33 [.int .i64 0,.int .i64 0,.slice none 0 0,.slice none 0 0,.slice none 0 0,.slice none 0 0,.slice none 0 0]):=hid (by rw [hp];exact HG0.out);generalize hVA:(W4.alloc (.cells #[.int .i64 0,.int .i64 0,.slice none 0 0,.slice none 0 0,.slice none 0 0,.slice none 0 0,.slice none 0 0] 33)).drew=VA at*;rw [←hp];clear HG0 hp hVA HBv;have HBv:=HB2;clear HB2;refine hK.out _ _ ((G4.out.below (HBv.out) hgl).YQ) (fun HD=> ?_);clear hK K;(try simp only [pp])
   refine on 1 13 fun K hK=> ?_
   go_simp;refine(Ua VA).mono ?_
   rintro e V1 ⟨rfl,hb⟩;have HG':=bl HG hb;clear HG;have HG:=HG';clear HG';have HBn:=bt HBv hb;clear hb HBv;have HBv:=HBn;clear HBn;refine hK.out _ _ ((G4.out.below (HBv.out) hgl).YQ) (fun HD=> ?_);clear hK K;(try simp only [pp])
   refine on 2 14 fun K hK=> ?_
   go_simp;refine((by have h:=WS c1 A1 Xf none 0 none 0 V1 (HT4.out.later (show Below W4.heap.size W4 V1 from HBv.out)).VF (by rw [HC1.out];exact SZ) ZV.nil ZV.nil UC ⟨⟨by decide,by decide⟩,⟨by decide,by decide⟩⟩;unfold Ca.cs at h;exact h:Calls Tryz.prog 9 #[.agg #[.int .i64 c1.ZO,.int .i64 c1.ZU,.slice A1.a0 c1.ob.Z4.length A1.k0,.slice A1.a1 c1.ob.Z7.length A1.k1,.slice A1.a2 c1.ro.ZW.length A1.k2,.slice A1.a3 c1.ro.Z2.length A1.k3,.slice A1.a4 c1.Z3.length A1.k4],.agg (Xf.cs none 0 none 0).toArray] V1 (JY c1 Xf V1))).mono ?_
   rintro e V2 ⟨er,c2,A2,rfl,hR,hT,hb⟩;have HG':=bl HG hb;clear HG;have HG:=HG';clear HG';have HBn:=bt HBv hb;have HE:Hid (er=60):=hid (SX (by rw [←HC1.out];exact hR));clear hR hT;unfold Ca.cs;clear hb HBv;have HBv:=HBn;clear HBn;refine hK.out _ _ ((G4.out.below (HBv.out) hgl).YQ) (fun HD=> ?_);clear hK K;(try simp only [pp])
   refine tk 3 11 HD ?_;refine tk 4 15 HD ?_;refine tk 5 16 HD ?_;refine Rc 7 fun K hK=> ?_
   refine Zk rfl 33 _ _ rfl p [.int .i64 c2.ZO,.int .i64 c2.ZU,.slice A2.a0 c2.ob.Z4.length A2.k0,.slice A2.a1 c2.ob.Z7.length A2.k1,.slice A2.a2 c2.ro.ZW.length A2.k2,.slice A2.a3 c2.ro.Z2.length A2.k3,.slice A2.a4 c2.Z3.length A2.k4] rfl rfl HG rfl rfl HI7 (by simp [Value.oneCell']) ?_
   intro w9 U;have HB9:Hid (Below W4.heap.size W4 w9):=hid (U.out.below HBv.out HGZ.out);refine hK.out _ _ ((G4.out.below (HB9.out) hgl).YQ) (fun HD=> ?_);clear hK K;(try simp only [pp])
   refine tk 8 4 HD ?_;refine wpAnyH_done (by kernel_rfl) ?_ _
   exact key p er c2 A2 w9 ⟨hid (G4.out.below HB9.out hgl),HB9,HE⟩
 ·rintro p er c2 A2 V ⟨GV,HBV,HE⟩;have he:=HE.out;subst he;have v1:=ce GV 1;have hver:c1.ZU=1:=by rw [HC1.out];rfl
  rw [hver] at v1;have HBf:=bt HB4 HBV.out;clear hver HC1 HT4 G4 HB4 GV HBV HE;go_wp2;go_ret;exact⟨rfl,HBf.out⟩
theorem Cm.Zv.up {x:Cm}{M N:Nat}(h:x.Zv M)(hm:M≤N):x.Zv N:=⟨Nat.le_trans h.1 hm,Nat.le_trans h.2.1 hm,Nat.le_trans h.2.2.1 hm,Nat.le_trans h.2.2.2.1 hm,Nat.le_trans h.2.2.2.2.1 hm,Nat.le_trans h.2.2.2.2.2.1 hm,Ru.Zv.up h.2.2.2.2.2.2.1 hm,Nat.le_trans h.2.2.2.2.2.2.2 hm⟩
def KQ (er:Int)(w:World)(c:Ca)(A:WV):Prop:=er=0→Us w c A
theorem KQ.later {er:Int}{w w':World}{c:Ca}{A:WV}(h:KQ er w c A)(hb:Below w.heap.size w w'):KQ er w' c A:=fun e=>(h e).later hb
theorem KQ.keeps {us:List TypeId}{er:Int}{w w':World}{c:Ca}{A:WV}(h:KQ er w c A)(hk:ZR us w w')(hd: ∀ t,t∈CT→t∉us):KQ er w' c A:=fun e=>(h e).keeps hk hd
theorem Uh {P:Program}{ops:Array Oper}{rest:List Oper}{op:Oper}{a:Act}{w:World}{Q:Exit→Act→World→Prop}(hw:Region.wanted op (yielded ops a.tmps)=true)(ty:TypeId)(x:Operand)(ho:op.op= .load ty x)
  (b:Nat) (hx:a.eval x= .pointer (some ⟨b,0,none⟩)) {t:TypeId} {cs:List Value} (hB:Hid (ZP w b t cs)) {n:Nat} (hn:cs.length=n) {d:TypeDesc} (hu:P.underlying ty=some d) (hd:d.isRow=true) (hi:Hid ((P.info? ty).map (·.size)=some n))
  (h:wpList P ops Q rest (a.put op.dst (.agg cs.toArray)) w):wpList P ops Q (op ::rest) a w:=
 wpList_step fun K hK=>by
  rw [if_pos hw];exact wp_load_mid ty x ho b 0 hx cs d hB.out.YQ hu hd (hn▸hi.out) (hK _ _ h)
def Lc (ZM Z8 ZY ZT:List UInt8)(right:Int):Cm:=⟨15,ZM,Z8,ZY,[],ZT,[],⟨[],0,[],0,0,[],[],[]⟩,right,false⟩
theorem Mf {ZM Z8 ZY ZT:List UInt8}{right:Int}(h1:ZM.length≤549755813888)(h2:Z8.length≤549755813888)(h3:ZY.length≤549755813888)(h4:ZT.length≤549755813888):(Lc ZM Z8 ZY ZT right).Zv 549755813888:=by
 refine⟨?_,?_,?_,?_,?_,?_,⟨?_,?_,?_,?_⟩,?_⟩ <;> first | assumption | simp [Lc]
theorem Rj (l:List Cm)(L:Option Addr)(k:Nat)(ZM Z8 ZY ZT other:List UInt8)(right:Int)(w:World)(hL:ZV w (· < w.heap.size) Xt (l.map Cm.da) L)(hxm: ∀ x∈l,x.Zv 549755813888)
  (h1:ZM.length≤549755813888) (h2:Z8.length≤549755813888) (h3:ZY.length≤549755813888) (h4:ZT.length≤549755813888):
  Calls Tryz.prog 4 #[.slice L l.length k,.string (Z9 ZM),.string (Z9 Z8),.string (Z9 ZY),.int .i64 right,.string (Z9 ZT),.string (Z9 other)] w fun e w'=>e= .returned (.bool true)∧Below w.heap.size w w':=by
 have HL:=hid hL;have HXm:=hid hxm;have HRt:=hid (Mf (right:=right) h1 h2 h3 h4);have HI7:=iN 33 7;have HI17:=iN 43 17;have HI6:=iN 53 6;clear hL hxm h1 h2 h3 h4;by_cases h60:(l.length:Int) > 60
 ·go_enter Tryz.func4,Tryz.ntmps4
  go_wp2;go_ret;exact⟨rfl,Below.refl _ _⟩
 have hl60:l.length≤60:=by omega
 go_enter Tryz.func4,Tryz.ntmps4
 go_wp2_with fail;refine(MJ w).mono ?_
 rintro e W1 ⟨A0,rfl,hT,hb⟩;have HT0:=hid hT;have HB1:=hid hb;clear hT hb;unfold Ca.cs;go_upto_region 4 with fail
 refine Uv _ fun W2 hW=> ?_
 have HBx:=bP hW;have G2:=nC hW;clear hW;have HT2:=hid (HT0.out.later HBx.out);have HB2:=bt HB1 HBx.out;have hgw:=HB1.out.size;clear HT0 HB1 HBx;generalize W1.heap.size=g at*;go_wp2;go_loopw [16] (fun v16 wr=> ∃ (j:Nat) (c:Ca) (A:WV),j≤l.length∧v16= .int .i64 j∧Hid (Us wr c A)∧Hid (c.Zv 1099511627776)∧Hid (ZP wr g 33 [.int .i64 c.ZO,.int .i64 c.ZU,.slice A.a0 c.ob.Z4.length A.k0,.slice A.a1 c.ob.Z7.length A.k1,.slice A.a2 c.ro.ZW.length A.k2,.slice A.a3 c.ro.Z2.length A.k3,.slice A.a4 c.Z3.length A.k4])∧Hid (Below w.heap.size w wr)) (fun i _=>l.length - (intOf i).toNat)
 case atStart=>exact⟨0,Ca.new,A0,Nat.zero_le _,rfl,HT2,hid OA,G2,HB2⟩
 case round=>
  clear HT2 G2 HB2;obtain⟨j,c,A,hj,rfl,HTc,HTm,G0,HBw⟩:=hrel;by_cases hlt:j<l.length
  ·have hjl:=hlt;have hb1:(j:Int)< (l.length:Int):=by omega
   have hb0:(0:Int)≤(j:Int):=by omega
   obtain⟨ad,vs,eA,hv,hr⟩:=(HL.out.later HBw.out).at_ (j:=j) (by simpa using hlt);have hxt:=HXm.out l[j] (List.getElem_mem hlt);rw [List.getElem_map] at hv;generalize l[j]=x at*;obtain⟨X,k',Y,n,rfl,hX,hY,hbd⟩:=Cm.YO hv;have HX:=hid hX;have HY:=hid hY;have HBd:=hid hbd;have HXt:=hid hxt;have hadl:(ad.add (j*17)).block<wr.heap.size:=by
    have:=World.block_lt_of_cell? wr _ (hr 0 _ rfl);simpa [Zs] using this
   have HGx:Hid (∀ V,Below wr.heap.size wr V→ ∀ i u,([.int .i64 x.ZQ,.string (Z9 x.ZM),.string (Z9 x.Z8),.string (Z9 x.ZY),.string (Z9 x.name),.string (Z9 x.ZT),.slice X x.ZX.length k',.string (Z9 x.ZZ.name),.int .i64 x.ZZ.ZQ,.slice Y x.ZZ.ZX.length n,.int .i64 x.ZZ.low,.int .i64 x.ZZ.ZF,.string (Z9 x.ZZ.Z8),.string (Z9 x.ZZ.ZY),.string (Z9 x.ZZ.key),.int .i64 x.right,.bool x.Zz]:List Value)[i]?=some u→V.cell? ((ad.add (j*17)).add i)=some u):=hid fun V h i u hu=>(h.cell (by rw [Zs];exact hadl)).trans (by rw [ZG];exact hr i u hu)
   clear hv hr hX hY hbd hxt;subst eA;have HL17:Hid ((Tryz.prog.info? 43).map (·.size)=some ([.int .i64 x.ZQ,.string (Z9 x.ZM),.string (Z9 x.Z8),.string (Z9 x.ZY),.string (Z9 x.name),.string (Z9 x.ZT),.slice X x.ZX.length k',.string (Z9 x.ZZ.name),.int .i64 x.ZZ.ZQ,.slice Y x.ZZ.ZX.length n,.int .i64 x.ZZ.low,.int .i64 x.ZZ.ZF,.string (Z9 x.ZZ.Z8),.string (Z9 x.ZZ.ZY),.string (Z9 x.ZZ.key),.int .i64 x.right,.bool x.Zz]:List Value).length):=HI17;go_wp2_with (first | (with_reducible refine ZI rfl 43 _ rfl (ad.add (j*17)) rfl [.int .i64 x.ZQ,.string (Z9 x.ZM),.string (Z9 x.Z8),.string (Z9 x.ZY),.string (Z9 x.name),.string (Z9 x.ZT),.slice X x.ZX.length k',.string (Z9 x.ZZ.name),.int .i64 x.ZZ.ZQ,.slice Y x.ZZ.ZX.length n,.int .i64 x.ZZ.low,.int .i64 x.ZZ.ZF,.string (Z9 x.ZZ.Z8),.string (Z9 x.ZZ.ZY),.string (Z9 x.ZZ.key),.int .i64 x.right,.bool x.Zz] _ (HGx.out wr br) Tryz.underlying43 rfl HL17.out ?_) | fail);have cB:=KH x X k' Y n wr;unfold Cm.cs at cB;refine cB.mono ?_
   rintro e W3 ⟨⟨b,rfl⟩,hb⟩;have HB3:Hid (Below wr.heap.size wr W3):=hid hb;clear cB hb
   cases b
   case true=>
    have HBf:=bt HBw HB3.out;go_wp2;go_ret;exact⟨rfl,HBf.out⟩
   have G3:=bl G0 HB3.out;have HBr:=HB3;have HTc3:=hid (HTc.out.later HB3.out);have HBw3:=bt HBw HB3.out;clear G0 HTc HB3 HBw;have HTc:=HTc3;clear HTc3;go_upto_region 9 with fail
   have HGW:Hid (∀ V,Below W3.heap.size W3 V→ ∀ i u,([.int .i64 x.ZQ,.string (Z9 x.ZM),.string (Z9 x.Z8),.string (Z9 x.ZY),.string (Z9 x.name),.string (Z9 x.ZT),.slice X x.ZX.length k',.string (Z9 x.ZZ.name),.int .i64 x.ZZ.ZQ,.slice Y x.ZZ.ZX.length n,.int .i64 x.ZZ.low,.int .i64 x.ZZ.ZF,.string (Z9 x.ZZ.Z8),.string (Z9 x.ZZ.ZY),.string (Z9 x.ZZ.key),.int .i64 x.right,.bool x.Zz]:List Value)[i]?=some u→V.cell? ((ad.add (j*17)).add i)=some u):=hid fun V h=>HGx.out V (HBr.out.trans (h.mono HBr.out.size))
   have HXW:=hid (HX.out.later HBr.out);have HYW:=hid (HY.out.later HBr.out);have G0:=G3;refine' JU (F:=fun p er c2 A2 V=>Hid (ZP V p 33 [.int .i64 c2.ZO,.int .i64 c2.ZU,.slice A2.a0 c2.ob.Z4.length A2.k0,.slice A2.a1 c2.ob.Z7.length A2.k1,.slice A2.a2 c2.ro.ZW.length A2.k2,.slice A2.a3 c2.ro.Z2.length A2.k3,.slice A2.a4 c2.Z3.length A2.k4])∧Hid (ZP V (g) 33 [.int .i64 c.ZO,.int .i64 c.ZU,.slice A.a0 c.ob.Z4.length A.k0,.slice A.a1 c.ob.Z7.length A.k1,.slice A.a2 c.ro.ZW.length A.k2,.slice A.a3 c.ro.Z2.length A.k3,.slice A.a4 c.Z3.length A.k4])∧Hid (Below W3.heap.size W3 V)∧Hid (JD c x er c2)∧Hid (KQ er V c2 A2)) (fun key=>_) _
   rotate_left
   ·have HBv:Hid (Below W3.heap.size W3 W3.drew):=hid br.drew;refine wp_region_held_drew (S:=fun w'=>w'.rangeAt g 0 [.int .i64 c.ZO,.int .i64 c.ZU,.slice A.a0 c.ob.Z4.length A.k0,.slice A.a1 c.ob.Z7.length A.k1,.slice A.a2 c.ro.ZW.length A.k2,.slice A.a3 c.ro.Z2.length A.k3,.slice A.a4 c.Z3.length A.k4]∧ ∀ i u,([.int .i64 x.ZQ,.string (Z9 x.ZM),.string (Z9 x.Z8),.string (Z9 x.ZY),.string (Z9 x.name),.string (Z9 x.ZT),.slice X x.ZX.length k',.string (Z9 x.ZZ.name),.int .i64 x.ZZ.ZQ,.slice Y x.ZZ.ZX.length n,.int .i64 x.ZZ.low,.int .i64 x.ZZ.ZF,.string (Z9 x.ZZ.Z8),.string (Z9 x.ZZ.ZY),.string (Z9 x.ZZ.key),.int .i64 x.right,.bool x.Zz]:List Value)[i]?=some u→w'.cell? ((ad.add (j*17)).add i)=some u) (by kernel_rfl) (⟨(G0.out.below (HBv.out) G0.out.lt).YQ,HGW.out _ (HBv.out)⟩) (fun HD=> ?_)
    (try simp only [pp]);refine wpAnyH_take (i:=0) (oi:=⟨some 40,_,_,_,_,_⟩) (v:=_) rfl (by kernel_rfl) (by kernel_rfl) (by kernel_rfl) (fun _ _ _ h=>h) (yieldsIf_load_mid (by rfl) _ _ rfl (g) 0 rfl [.int .i64 c.ZO,.int .i64 c.ZU,.slice A.a0 c.ob.Z4.length A.k0,.slice A.a1 c.ob.Z7.length A.k1,.slice A.a2 c.ro.ZW.length A.k2,.slice A.a3 c.ro.Z2.length A.k3,.slice A.a4 c.Z3.length A.k4] _ (fun _ h=>h.1) Tryz.underlying33 rfl HI7.out) HD ?_
    (try simp only [pp]);refine tk 1 41 HD ?_;refine tk 2 42 HD ?_;refine tk 3 43 HD ?_;refine wpAnyH_take (i:=4) (oi:=⟨some 44,_,_,_,_,_⟩) (v:=_) rfl (by kernel_rfl) (by kernel_rfl) (by kernel_rfl) (fun _ _ _ h=>h) (SV (by rfl) _ _ rfl (ad.add (j*17)) rfl [.int .i64 x.ZQ,.string (Z9 x.ZM),.string (Z9 x.Z8),.string (Z9 x.ZY),.string (Z9 x.name),.string (Z9 x.ZT),.slice X x.ZX.length k',.string (Z9 x.ZZ.name),.int .i64 x.ZZ.ZQ,.slice Y x.ZZ.ZX.length n,.int .i64 x.ZZ.low,.int .i64 x.ZZ.ZF,.string (Z9 x.ZZ.Z8),.string (Z9 x.ZZ.ZY),.string (Z9 x.ZZ.key),.int .i64 x.right,.bool x.Zz] _ (fun _ h=>h.2) Tryz.underlying43 rfl HL17.out) HD ?_
    (try simp only [pp]);refine wpAnyH_ready (rs:= [5,9]) (by kernel_rfl) (by simp) ?_
    refine AllReadyH.cons (o:=⟨some 45,_,_,_,_,_⟩) rfl (fun K hK=> ?_) (AllReadyH.cons (o:=⟨some 17,_,_,_,_,_⟩) rfl (fun K hK=> ?_) AllReadyH.nil)
    ·go_simp;refine((by have h:=WS c A x X k' Y n W3.drew (HTc.out.later (show Below W3.heap.size W3 W3.drew from HBv.out)).VF HTm.out (HXW.out.later HBv.out) (HYW.out.later HBv.out) HXt.out HBd.out;unfold Ca.cs Cm.cs at h;exact h:Calls Tryz.prog 9 #[.agg #[.int .i64 c.ZO,.int .i64 c.ZU,.slice A.a0 c.ob.Z4.length A.k0,.slice A.a1 c.ob.Z7.length A.k1,.slice A.a2 c.ro.ZW.length A.k2,.slice A.a3 c.ro.Z2.length A.k3,.slice A.a4 c.Z3.length A.k4],.agg #[.int .i64 x.ZQ,.string (Z9 x.ZM),.string (Z9 x.Z8),.string (Z9 x.ZY),.string (Z9 x.name),.string (Z9 x.ZT),.slice X x.ZX.length k',.string (Z9 x.ZZ.name),.int .i64 x.ZZ.ZQ,.slice Y x.ZZ.ZX.length n,.int .i64 x.ZZ.low,.int .i64 x.ZZ.ZF,.string (Z9 x.ZZ.Z8),.string (Z9 x.ZZ.ZY),.string (Z9 x.ZZ.key),.int .i64 x.right,.bool x.Zz]] W3.drew (JY c x W3.drew))).mono ?_
     rintro e V1 ⟨er,c2,A2,rfl,hR,hT,hb⟩;have HBn:=bt HBv hb;have HR:=hid hR;have HI:=hid (show KQ er _ c2 A2 from hT);clear hR hT;unfold Ca.cs;clear hb HBv;have HBv:=HBn;clear HBn;refine hK.out _ _ ⟨(G0.out.below (HBv.out) G0.out.lt).YQ,HGW.out _ (HBv.out)⟩ (fun HD=> ?_);clear hK K;(try simp only [pp])
     refine tk 6 39 HD ?_;refine tk 7 46 HD ?_;refine tk 8 47 HD ?_;refine on 9 17 fun K hK=> ?_
     go_simp;have HB2:Hid (Below W3.heap.size W3 (V1.alloc (.cells #[.int .i64 0,.int .i64 0,.slice none 0 0,.slice none 0 0,.slice none 0 0,.slice none 0 0,.slice none 0 0] 33))):=hid (HBv.out.alloc HBv.out.size _);have HG:Hid (ZP (V1.alloc (.cells #[.int .i64 0,.int .i64 0,.slice none 0 0,.slice none 0 0,.slice none 0 0,.slice none 0 0,.slice none 0 0] 33)) V1.heap.size 33 [.int .i64 0,.int .i64 0,.slice none 0 0,.slice none 0 0,.slice none 0 0,.slice none 0 0,.slice none 0 0]):=hid (ZP.new V1 _ _);have HGZ:Hid (W3.heap.size≤V1.heap.size):=hid HBv.out.size;have hbA:Below V1.heap.size V1 (V1.alloc (.cells #[.int .i64 0,.int .i64 0,.slice none 0 0,.slice none 0 0,.slice none 0 0,.slice none 0 0,.slice none 0 0] 33)):=br.alloc lr _;have HI':=hid (HI.out.later hbA);clear HI;have HI:=HI';clear HI';clear hbA HBv;generalize V1.alloc (.cells #[.int .i64 0,.int .i64 0,.slice none 0 0,.slice none 0 0,.slice none 0 0,.slice none 0 0,.slice none 0 0] 33)=VA at*;generalize V1.heap.size=p at*;have HBv:=HB2;clear HB2;refine hK.out _ _ ⟨(G0.out.below (HBv.out) G0.out.lt).YQ,HGW.out _ (HBv.out)⟩ (fun HD=> ?_);clear hK K;(try simp only [pp])
     refine Rc 10 fun K hK=> ?_
     refine Zk rfl 33 _ _ rfl p [.int .i64 c2.ZO,.int .i64 c2.ZU,.slice A2.a0 c2.ob.Z4.length A2.k0,.slice A2.a1 c2.ob.Z7.length A2.k1,.slice A2.a2 c2.ro.ZW.length A2.k2,.slice A2.a3 c2.ro.Z2.length A2.k3,.slice A2.a4 c2.Z3.length A2.k4] rfl rfl HG rfl rfl HI7 (by simp [Value.oneCell']) ?_
     intro w9 U;have HB9:Hid (Below W3.heap.size W3 w9):=hid (U.out.below HBv.out HGZ.out);have HI9:=hid (HI.out.keeps U.out.keeps (by decide));refine hK.out _ _ ⟨(G0.out.below (HB9.out) G0.out.lt).YQ,HGW.out _ (HB9.out)⟩ (fun HD=> ?_);clear hK K;(try simp only [pp])
     refine tk 11 18 HD ?_;refine wpAnyH_done (by kernel_rfl) ?_ _
     exact key p er c2 A2 w9 ⟨hid U.out.X8,bl G3 HB9.out,HB9,HR,HI9⟩
    ·go_simp;have HB2:Hid (Below W3.heap.size W3 (W3.alloc (.cells #[.int .i64 0,.int .i64 0,.slice none 0 0,.slice none 0 0,.slice none 0 0,.slice none 0 0,.slice none 0 0] 33)).drew):=hid (br.alloc lr _).drew;have HG0:Hid (ZP (W3.alloc (.cells #[.int .i64 0,.int .i64 0,.slice none 0 0,.slice none 0 0,.slice none 0 0,.slice none 0 0,.slice none 0 0] 33)).drew W3.heap.size 33 [.int .i64 0,.int .i64 0,.slice none 0 0,.slice none 0 0,.slice none 0 0,.slice none 0 0,.slice none 0 0]):=hid (ZP.new W3 _ _).drew;obtain⟨p,hp⟩: ∃ p,p=W3.heap.size:=⟨_,rfl⟩
     have HGZ:Hid (W3.heap.size≤p):=hid (by rw [hp];exact Nat.le_refl _);have HG:Hid (ZP (W3.alloc (.cells #[.int .i64 0,.int .i64 0,.slice none 0 0,.slice none 0 0,.slice none 0 0,.slice none 0 0,.slice none 0 0] 33)).drew p 33 [.int .i64 0,.int .i64 0,.slice none 0 0,.slice none 0 0,.slice none 0 0,.slice none 0 0,.slice none 0 0]):=hid (by rw [hp];exact HG0.out);generalize hVA:(W3.alloc (.cells #[.int .i64 0,.int .i64 0,.slice none 0 0,.slice none 0 0,.slice none 0 0,.slice none 0 0,.slice none 0 0] 33)).drew=VA at*;rw [←hp];clear HG0 hp hVA HBv;have HBv:=HB2;clear HB2;refine hK.out _ _ ⟨(G0.out.below (HBv.out) G0.out.lt).YQ,HGW.out _ (HBv.out)⟩ (fun HD=> ?_);clear hK K;(try simp only [pp])
     refine on 5 45 fun K hK=> ?_
     go_simp;refine((by have h:=WS c A x X k' Y n VA (HTc.out.later (show Below W3.heap.size W3 VA from HBv.out)).VF HTm.out (HXW.out.later HBv.out) (HYW.out.later HBv.out) HXt.out HBd.out;unfold Ca.cs Cm.cs at h;exact h:Calls Tryz.prog 9 #[.agg #[.int .i64 c.ZO,.int .i64 c.ZU,.slice A.a0 c.ob.Z4.length A.k0,.slice A.a1 c.ob.Z7.length A.k1,.slice A.a2 c.ro.ZW.length A.k2,.slice A.a3 c.ro.Z2.length A.k3,.slice A.a4 c.Z3.length A.k4],.agg #[.int .i64 x.ZQ,.string (Z9 x.ZM),.string (Z9 x.Z8),.string (Z9 x.ZY),.string (Z9 x.name),.string (Z9 x.ZT),.slice X x.ZX.length k',.string (Z9 x.ZZ.name),.int .i64 x.ZZ.ZQ,.slice Y x.ZZ.ZX.length n,.int .i64 x.ZZ.low,.int .i64 x.ZZ.ZF,.string (Z9 x.ZZ.Z8),.string (Z9 x.ZZ.ZY),.string (Z9 x.ZZ.key),.int .i64 x.right,.bool x.Zz]] VA (JY c x VA))).mono ?_
     rintro e V1 ⟨er,c2,A2,rfl,hR,hT,hb⟩;have HG':=bl HG hb;clear HG;have HG:=HG';clear HG';have HBn:=bt HBv hb;have HR:=hid hR;have HI:=hid (show KQ er _ c2 A2 from hT);clear hR hT;unfold Ca.cs;clear hb HBv;have HBv:=HBn;clear HBn;refine hK.out _ _ ⟨(G0.out.below (HBv.out) G0.out.lt).YQ,HGW.out _ (HBv.out)⟩ (fun HD=> ?_);clear hK K;(try simp only [pp])
     refine tk 6 39 HD ?_;refine tk 7 46 HD ?_;refine tk 8 47 HD ?_;refine Rc 10 fun K hK=> ?_
     refine Zk rfl 33 _ _ rfl p [.int .i64 c2.ZO,.int .i64 c2.ZU,.slice A2.a0 c2.ob.Z4.length A2.k0,.slice A2.a1 c2.ob.Z7.length A2.k1,.slice A2.a2 c2.ro.ZW.length A2.k2,.slice A2.a3 c2.ro.Z2.length A2.k3,.slice A2.a4 c2.Z3.length A2.k4] rfl rfl HG rfl rfl HI7 (by simp [Value.oneCell']) ?_
     intro w9 U;have HB9:Hid (Below W3.heap.size W3 w9):=hid (U.out.below HBv.out HGZ.out);have HI9:=hid (HI.out.keeps U.out.keeps (by decide));refine hK.out _ _ ⟨(G0.out.below (HB9.out) G0.out.lt).YQ,HGW.out _ (HB9.out)⟩ (fun HD=> ?_);clear hK K;(try simp only [pp])
     refine tk 11 18 HD ?_;refine wpAnyH_done (by kernel_rfl) ?_ _
     exact key p er c2 A2 w9 ⟨hid U.out.X8,bl G3 HB9.out,HB9,HR,HI9⟩
   ·rintro p er c2 A2 V ⟨N6,G6,HB6,HR,HI⟩;have HTcV:=hid (HTc.out.later HB6.out);have HBwV:=bt HBw3 HB6.out;clear HGW HXW HYW G0 G3 HTc HBr HBw3 HB6 HGx;by_cases h0:er=0
    case neg=>
     have t0:(er == 0)=false:=by simpa using h0
     clear HR HI;go_wp2;go_roundw
     case rel=>exact⟨j+1,c,A,by omega,by go_num,HTcV,HTm,G6,HBwV⟩
     case measure=>simp [intOf];omega
    subst h0;obtain⟨hmx,hver,hep,htm2⟩:=M4 HR.out;have HT2:=hid (HI.out rfl);have HTm2:=hid (Ca.Zv.up (htm2 549755813888 (by omega) HXt.out) (by omega:549755813888≤1099511627776));clear HR HI htm2 hver hep hmx;have hgq:w.heap.size≤g:=hgw;go_wp2_with (first | (refine lO N6 HI7 Tryz.underlying33 ?_) | ((refine sO G6 HI7 ?_);intro W9 U) | fail);go_wp2;go_roundw
    case rel=>exact⟨j+1,c2,A2,by omega,by go_num,hid (HT2.out.keeps U.out.keeps (by decide)),HTm2,hid U.out.X8,hid (U.out.below HBwV.out hgq)⟩
    case measure=>simp [intOf];omega
  ·obtain rfl:j=l.length:=by omega
   clear hj hlt HL HXm;go_wp2_with (first | (refine lO G0 HI7 Tryz.underlying33 ?_) | fail);have cB:=Th c A ZM Z8 ZY wr HTc.out.VF HTm.out;unfold Ca.cs at cB;refine cB.mono ?_
   rintro e W3 ⟨rfl,hb⟩;have HB3:=bt HBw hb;have G3:=bl G0 hb;have HT3:=hid (HTc.out.later hb);clear cB hb HBw G0 HTc;go_wp2_with (first | (refine lO G3 HI7 Tryz.underlying33 ?_) | fail);have cA:Calls Tryz.prog 9 #[.agg #[.int .i64 c.ZO,.int .i64 c.ZU,.slice A.a0 c.ob.Z4.length A.k0,.slice A.a1 c.ob.Z7.length A.k1,.slice A.a2 c.ro.ZW.length A.k2,.slice A.a3 c.ro.Z2.length A.k3,.slice A.a4 c.Z3.length A.k4],.agg #[.int .i64 15,.string (Z9 ZM),.string (Z9 Z8),.string (Z9 ZY),.string (Z9 []),.string (Z9 ZT),.slice none 0 0,.string (Z9 []),.int .i64 0,.slice none 0 0,.int .i64 0,.int .i64 0,.string (Z9 []),.string (Z9 []),.string (Z9 []),.int .i64 right,.bool false]] W3 (JY c (Lc ZM Z8 ZY ZT right) W3):=by
    have h:=WS c A (Lc ZM Z8 ZY ZT right) none 0 none 0 W3 HT3.out.VF HTm.out ZV.nil ZV.nil HRt.out ⟨⟨show (-9223372036854775808:Int)≤0 by decide,show (0:Int)≤9223372036854775807 by decide⟩,⟨show (-9223372036854775808:Int)≤0 by decide,show (0:Int)≤9223372036854775807 by decide⟩⟩;unfold Ca.cs at h;exact h
   refine cA.mono ?_
   rintro e W4 ⟨er,c2,A2,rfl,hR,hT,hb⟩;have HR:=hid hR;have HI:=hid (show KQ er W4 c2 A2 from hT);have HB4:=bt HB3 hb;have G4:=bl G3 hb;have HT4:=hid (HT3.out.later hb);clear cA hR hT hb HB3 G3 HT3;unfold Ca.cs;go_upto_region 14 with fail
   refine Uv _ fun W5 hW=> ?_
   have HBx:=bP hW;have N5:=nC hW;clear hW;have HI5:=hid (HI.out.later HBx.out);have HB5:=bt HB4 HBx.out;have G5:=bl G4 HBx.out;have HT5:=hid (HT4.out.later HBx.out);clear HI HB4 G4 HT4 HBx;generalize W4.heap.size=p at*;by_cases h0:er=0
   case neg=>
    have t0:(er == 0)=false:=by simpa using h0
    have t1:(er != 0)=true:=by simpa using h0
    clear HR HI5;go_wp2_with fail;refine(PZ W5).mono ?_
    rintro e W6 ⟨rfl,hb⟩;have HBf:=bt HB5 hb;clear hb;go_wp2;go_ret;exact⟨rfl,HBf.out⟩
   subst h0;obtain⟨hng,hmy⟩:=Ot (x:=(Lc ZM Z8 ZY ZT right)) rfl HR.out;have htm2:=(M4 HR.out).2.2.2;have HTx:=hid (HI5.out rfl);have HTm2:=hid (Ca.Zv.up (htm2 549755813888 (by omega) HRt.out) (by omega:549755813888≤1099511627776));have HNg:Hid (∀ g∈c2.Z3,(g.Z8 == Z8 && g.ZY == ZY && g.right == right && g.to == ZT && (Xp c ZM Z8 ZY || g.ZN == ZM))=false):=hid hng;have HMy:=hid hmy;have hg2:c2.Z3.length≤1099511627776:=HTm2.out.2.2;clear HR HI5 hng hmy htm2 HRt;generalize Xp c ZM Z8 ZY=bo at*;go_wp2;go_loopw [22] (fun v22 wr=> ∃ (j:Nat),j≤c2.Z3.length∧v22= .int .i64 j∧Hid (Below W5.heap.size W5 wr)) (fun i _=>c2.Z3.length - (intOf i).toNat)
   case atStart=>exact⟨0,Nat.zero_le _,rfl,hid br⟩
   case round=>
    obtain⟨j,hj,rfl,HBq⟩:=hrel;have p4:=cd (N5.out.below HBq.out N5.out.lt) 6;by_cases hlt:j<c2.Z3.length
    ·have hb1:(j:Int)< (c2.Z3.length:Int):=by omega
     have hb0:(0:Int)≤(j:Int):=by omega
     obtain⟨ad,vs,eA,hv,hr⟩:=(HTx.out.later HBq.out).gr.at_ (j:=j) (by simpa using hlt);have hng:=HNg.out c2.Z3[j] (List.getElem_mem hlt);rw [List.getElem_map] at hv;generalize c2.Z3[j]=gr at*;obtain rfl:=Gr.YO hv;have HG:Hid (∀ i u,([.string (Z9 gr.Z8),.string (Z9 gr.ZY),.int .i64 gr.right,.string (Z9 gr.ZN),.string (Z9 gr.to),.bool gr.Zz]:List Value)[i]?=some u→wr.cell? ((ad.add (j*6)).add i)=some u):=hid fun i u hu=>by rw [ZG];exact hr i u hu
     have HL6:Hid ((Tryz.prog.info? 53).map (·.size)=some ([.string (Z9 gr.Z8),.string (Z9 gr.ZY),.int .i64 gr.right,.string (Z9 gr.ZN),.string (Z9 gr.to),.bool gr.Zz]:List Value).length):=HI6;have HNG:=hid hng;clear hv hr hng;rw [eA] at p4;clear eA;have HBz:Hid (Below W5.heap.size W5 (wr.alloc (.cells #[.string (Z9 gr.Z8),.string (Z9 gr.ZY),.int .i64 gr.right,.string (Z9 gr.ZN),.string (Z9 gr.to),.bool gr.Zz] 53))):=hid (HBq.out.alloc HBq.out.size _);generalize eb1:(gr.Z8 == Z8)=b1 at*;generalize eb2:(gr.ZY == ZY)=b2 at*;generalize eb3:(gr.right == right)=b3 at*;generalize eb4:(gr.to == ZT)=b4 at*;generalize eb5:(gr.ZN == ZM)=b5 at*;go_upto_region 20 with (first | (with_reducible refine ZI rfl 53 _ rfl (ad.add (j*6)) rfl [.string (Z9 gr.Z8),.string (Z9 gr.ZY),.int .i64 gr.right,.string (Z9 gr.ZN),.string (Z9 gr.to),.bool gr.Zz] _ HG.out Tryz.underlying53 rfl HL6.out ?_) | fail)
     cases b1
     ·go_wp2;go_roundw
      case rel=>exact⟨j+1,by omega,by go_num,HBz⟩
      case measure=>simp [intOf];omega
     cases b2
     ·go_wp2;go_roundw
      case rel=>exact⟨j+1,by omega,by go_num,HBz⟩
      case measure=>simp [intOf];omega
     cases b3
     ·go_wp2;go_roundw
      case rel=>exact⟨j+1,by omega,by go_num,HBz⟩
      case measure=>simp [intOf];omega
     cases b4
     ·go_wp2;go_roundw
      case rel=>exact⟨j+1,by omega,by go_num,HBz⟩
      case measure=>simp [intOf];omega
     cases bo
     case true=>exact absurd HNG.out (by simp)
     cases b5
     case true=>exact absurd HNG.out (by simp)
     go_wp2;go_roundw
     case rel=>exact⟨j+1,by omega,by go_num,HBz⟩
     case measure=>simp [intOf];omega
    ·obtain rfl:j=c2.Z3.length:=by omega
     clear hj hlt HNg;have HBw6:=bt HB5 HBq.out;have G6:=bl G5 HBq.out;have N6:=bl N5 HBq.out;have HT6:=hid (HT5.out.later HBq.out);have HX6:=hid (HTx.out.later HBq.out);clear HB5 G5 N5 HT5 HTx HBq;go_wp2_with fail;refine(PZ wr).mono ?_
     rintro e W7 ⟨rfl,hb⟩;have HBw7:=bt HBw6 hb;have G7:=bl G6 hb;have N7:=bl N6 hb;have HT7:=hid (HT6.out.later hb);have HX7:=hid (HX6.out.later hb);clear hb HBw6 G6 N6 HT6 HX6 p4;go_wp2_with (first | (refine Uh (by rfl) 33 _ rfl (g) rfl G7 (n:=7) rfl Tryz.underlying33 rfl HI7 ?_) | fail);have cM:=OC c A other Z8 ZY right W7 HT7.out.VF HTm.out;unfold Ca.cs at cM;refine cM.mono ?_
     rintro e W8 ⟨rfl,hb⟩;have HBw8:=bt HBw7 hb;have N8:=bl N7 hb;have HX8:=hid (HX7.out.later hb);clear cM hb HBw7 G7 N7 HT7 HX7
     cases hm:Va c other Z8 ZY right
     case true=>
      go_wp2;go_ret;exact⟨rfl,HBw8.out⟩
     have hm2:Va c2 other Z8 ZY right=false:=by
      cases h:Va c2 other Z8 ZY right
      ·rfl
      ·rw [HMy.out _ _ _ _ h] at hm;cases hm
     have HM2:=hid hm2;clear hm hm2 HMy;go_wp2_with (first | (refine Uh (by rfl) 33 _ rfl (p) rfl N8 (n:=7) rfl Tryz.underlying33 rfl HI7 ?_) | fail);have cM:=OC c2 A2 other Z8 ZY right W8 HX8.out.VF HTm2.out;unfold Ca.cs at cM;refine cM.mono ?_
     rintro e W9 ⟨rfl,hb⟩;have HBw9:=bt HBw8 hb;clear cM hb HBw8 N8 HX8;rw [HM2.out];go_wp2;go_ret;exact⟨rfl,HBw9.out⟩
end Go.Proofs.YtnhmoibjlakhjaaGreat
