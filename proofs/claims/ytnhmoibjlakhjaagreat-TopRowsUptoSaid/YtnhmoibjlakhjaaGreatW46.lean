/- Lemmas, each under its own conditions. -/
import Derived.Test.YtnhmoibjlakhjaaGreatW35
import Derived.Test.YtnhmoibjlakhjaaGreatW36
set_option linter.all false
namespace Go.Proofs.YtnhmoibjlakhjaaGreat
open Go.Proofs.Tryz
open Lib (hid)
set_option maxRecDepth 100000
set_option maxHeartbeats 16000000
open Go.RowKit
def Ca.zero:Ca:=⟨0,0,⟨[],[]⟩,⟨[],[]⟩,[]⟩
def Wd.zero:Wd:=⟨none,0,none,0,none,0,none,0,none,0⟩
theorem Ta.zero (w:World):Ta w Ca.zero Wd.zero:=⟨ZT.nil,ZT.nil,ZT.nil,ZT.nil,ZT.nil⟩
def Fv (c:Ca)(w:World)(e:Ending)(w':World):Prop:=
 ∃ (c':Ca) (A':Wd) (er:Int),e= .returned (.tuple #[.agg (c'.cs A').toArray,i6 er])/\Ta w' c' A'/\Bw w w'/\(er=0->c'.ZO=c.ZO/\c'.ZR=c.ZR/\c'.ob=c.ob/\c'.ro=c.ro/\c'.Z4.length<=c.Z4.length+1)
theorem LT (c:Ca)(A:Wd)(x:Gr)(w:World)(hc:UH w w.heap.size c A)(ht:c.Zo 1099511627776):
  cQ 133 #[.agg (c.cs A).toArray,.agg (x.cs).toArray] w (Fv c w):=by
 have HC:=hid hc;have HT:=hid ht;have bC:=ht.2.1.1;have bi:=ht.2.2;have E:=iN 33 7;have bo:=iN 53 6;have bG:=iN 73 5;have HZ:Hid (∀ (er:Int) (W:World),er≠0->Bw w W->Fv c w (.returned (.tuple #[.agg #[i6 0,i6 0,.slice none 0 0,.slice none 0 0,.slice none 0 0,.slice none 0 0,.slice none 0 0],i6 er])) W):=hid fun er W h hb=>⟨Ca.zero,Wd.zero,er,rfl,Ta.zero W,hb,fun h0=>absurd h0 h⟩
 clear hc ht;unfold Ca.cs Gr.cs;have P0:Hid (ZP (((w.alloc (.cells #[.int .i64 c.ZO,.int .i64 c.ZR,.slice A.a0 c.ob.Z7.length A.k0,.slice A.a1 c.ob.Z8.length A.k1,.slice A.a2 c.ro.ZU.length A.k2,.slice A.a3 c.ro.ZY.length A.k3,.slice A.a4 c.Z4.length A.k4] 33)).alloc (.cells #[sT x.Z9,sT x.ZZ,i6 x.right,sT x.ZM,sT x.to,.bool x.Zq] 53)).alloc (.cells #[i6 0,i6 0,.slice none 0 0,.slice none 0 0,.slice none 0 0,.slice none 0 0,.slice none 0 0] 33)) w.heap.size 33 [.int .i64 c.ZO,.int .i64 c.ZR,.slice A.a0 c.ob.Z7.length A.k0,.slice A.a1 c.ob.Z8.length A.k1,.slice A.a2 c.ro.ZU.length A.k2,.slice A.a3 c.ro.ZY.length A.k3,.slice A.a4 c.Z4.length A.k4]):=hid (((ZP.new w _ _).alloc _).alloc _);go_enter func133,ntmps133
 go_wp2_with (first | (with_reducible refine Zs rfl 33 _ rfl (w.heap.size) rfl P0 (n:=7) rfl underlying33 rfl E ?_) | fail);refine Zi _ fun W1 s=> ?_
 have bk:=bR s;have P1:=rB s P0.o;have G1:=nG s;have Q1:=nH s;clear s P0;have cW:=Q9 c A W1 (HC.o.later bk.o) HT.o;unfold Ca.cs at cW;refine cW.mono ?_
 rintro e W2 ⟨rfl,hb⟩;have bc:=bt bk hb;have P2:=bl P1 hb;have G2:=bl G1 hb;have Q2:=bl Q1 hb;clear hb bk P1 G1 Q1;clear cW
 cases hwh:Xf c
 ·clear hwh;go_wp2_with (first | ((with_reducible refine Zv rfl 33 _ _ rfl (w.heap.size+2) [i6 0,i6 0,.slice none 0 0,.slice none 0 0,.slice none 0 0,.slice none 0 0,.slice none 0 0] rfl rfl Q2 (n:=7) rfl rfl E (by simp [Value.oneCell']) ?_);intro wS D) | fail);refine bodyPost_ret (Zr rfl _ _ (w.heap.size+2) rfl (hid D.out.YK) (n:=7) rfl underlying33 rfl E) rfl ?_
  exact HZ.o 1 wS (by decide) (D.out.below bc.o (by omega))
 obtain⟨bE,_⟩:=TY hwh;have av:=hid bE;clear hwh bE;have g2:=ce G2 2;have g3:=ce G2 3;have g4:=ce G2 4;go_wp2_with fail;refine(Oc x.right W2).mono ?_
 rintro e w3 ⟨rfl,rfl⟩
 cases hkr:RR x.right
 ·clear hkr;go_wp2_with (first | ((with_reducible refine Zv rfl 33 _ _ rfl (w.heap.size+2) [i6 0,i6 0,.slice none 0 0,.slice none 0 0,.slice none 0 0,.slice none 0 0,.slice none 0 0] rfl rfl Q2 (n:=7) rfl rfl E (by simp [Value.oneCell']) ?_);intro wS D) | fail);refine bodyPost_ret (Zr rfl _ _ (w.heap.size+2) rfl (hid D.out.YK) (n:=7) rfl underlying33 rfl E) rfl ?_
  exact HZ.o 1 wS (by decide) (D.out.below bc.o (by omega))
 clear hkr
 cases hgt:(x.ZM == x.to)
 case true=>
  go_wp2_with (first | ((with_reducible refine Zv rfl 33 _ _ rfl (w.heap.size+2) [i6 0,i6 0,.slice none 0 0,.slice none 0 0,.slice none 0 0,.slice none 0 0,.slice none 0 0] rfl rfl Q2 (n:=7) rfl rfl E (by simp [Value.oneCell']) ?_);intro wS D) | fail);refine bodyPost_ret (Zr rfl _ _ (w.heap.size+2) rfl (hid D.out.YK) (n:=7) rfl underlying33 rfl E) rfl ?_
  exact HZ.o 1 wS (by decide) (D.out.below bc.o (by omega))
 have g0:=ce G2 0;have g1:=ce G2 1;go_wp2_with (first | (with_reducible refine Zs rfl 33 _ rfl (w.heap.size) rfl P2 (n:=7) rfl underlying33 rfl E ?_) | fail);have cT:=Tc c A x.Z9 x.ZZ w3 (HC.o.later bc.o) HT.o.1.2.1;unfold Ca.cs at cT;refine cT.mono ?_
 rintro e W4 ⟨t,X,xk,Y,y,rfl,hb,ht⟩;have bm:=bt bc hb;have P4:=bl P2 hb;have G4:=bl G2 hb;have Q4:=bl Q2 hb;clear hb bc P2 G2 Q2;have bq:=hid ht;clear cT ht g0 g1 g2 g3 g4;unfold Tb.cs;have bs:Hid (ZP (W4.alloc (.cells #[sT t.Z9,sT t.name,sT t.ZN,.slice X t.Z3.length xk,.slice Y t.ZW.length y] 73)) w.heap.size 33 [.int .i64 c.ZO,.int .i64 c.ZR,.slice A.a0 c.ob.Z7.length A.k0,.slice A.a1 c.ob.Z8.length A.k1,.slice A.a2 c.ro.ZU.length A.k2,.slice A.a3 c.ro.ZY.length A.k3,.slice A.a4 c.Z4.length A.k4]):=hid (P4.o.alloc _);have bj:Hid (ZP (W4.alloc (.cells #[sT t.Z9,sT t.name,sT t.ZN,.slice X t.Z3.length xk,.slice Y t.ZW.length y] 73)) (w.heap.size+1) 53 [sT x.Z9,sT x.ZZ,i6 x.right,sT x.ZM,sT x.to,.bool x.Zq]):=hid (G4.o.alloc _);have p6:(W4.alloc (.cells #[sT t.Z9,sT t.name,sT t.ZN,.slice X t.Z3.length xk,.slice Y t.ZW.length y] 73)).cell? (aD w.heap.size 6)=some (.slice A.a4 c.Z4.length A.k4):=bs.o.cell 6;have bI:=P4.o.lt;go_wp2_with (first | (with_reducible refine Zs rfl 53 _ rfl (w.heap.size+1) rfl bj (n:=6) rfl underlying53 rfl bo ?_) | fail);refine Zi _ fun W5 s=> ?_
 have bn:=rL s (bm.o.alloc bm.o.size _);have P5:=rB s bs.o;have G5:=rB s bj.o;have Q5:=rB s (Q4.o.alloc _);have T5:=nC s;clear s bm P4 G4 Q4 bs bj p6;have bv:=I9 c.Z4 A.a4 A.k4 x W5 (Gr.Yn (HC.o.later bn.o).gr) bi;unfold Gr.cs at bv;refine bv.mono ?_
 rintro e W6 ⟨at_,laid,rfl,bf,halt,hb⟩;have aO:=hid halt;clear halt;have bh:=bt bn hb;have P6:=bl P5 hb;have G6:=bl G5 hb;have Q6:=bl Q5 hb;have T6:=bl T5 hb;clear hb bn P5 G5 Q5 T5;clear bv;have p4:=ce P6 4;have p5:=ce P6 5;have g3:=ce G6 3;go_wp2_with fail;refine(Qw c.ro A.a2 A.k2 A.a3 A.k3 x.ZM W6 (HC.o.later bh.o).nm (HC.o.later bh.o).mb HT.o.2.1).mono ?_
 rintro e W7 ⟨I,ic,rfl,bD,hb⟩;have aQ:=bt bh hb;have P7:=bl P6 hb;have G7:=bl G6 hb;have Q7:=bl Q6 hb;have T7:=bl T6 hb;clear hb bh P6 G6 Q6 T6;have aT:=hid bD;have bA:(XN c.ro x.ZM).length<=1099511627776:=Nat.le_trans (Qg _ _) HT.o.2.1.1;clear bD p4 p5 g3
 cases htp:Uu c x.Z9 x.ZZ with
 | none=>
  clear htp bq;go_wp2_with (first | ((with_reducible refine Zv rfl 33 _ _ rfl (w.heap.size+2) [i6 0,i6 0,.slice none 0 0,.slice none 0 0,.slice none 0 0,.slice none 0 0,.slice none 0 0] rfl rfl Q7 (n:=7) rfl rfl E (by simp [Value.oneCell']) ?_);intro wS D) | fail);refine bodyPost_ret (Zr rfl _ _ (w.heap.size+2) rfl (hid D.out.YK) (n:=7) rfl underlying33 rfl E) rfl ?_
  exact HZ.o 61 wS (by decide) (D.out.below aQ.o (by omega))
 | some t0=>
  obtain rfl:=bq.o t0 htp;obtain⟨it,bB⟩:=Option.isSome_iff_exists.1 (S4 (Yl av.o).2.1 (Rc htp).1);have bF:=hid bB;clear htp bq bB;have p4:=ce P7 4;have g3:=ce G7 3;have g4:=ce G7 4;go_wp2_with fail;refine(Zf c.ro.ZU A.a2 A.k2 x.ZM W7 (HC.o.later aQ.o).nm bC).mono ?_
  rintro e w8 ⟨rfl,rfl⟩;generalize c.ro.ZU.contains x.ZM=b1 at*
  cases b1
  ·clear p4 g3 g4;go_wp2_with (first | ((with_reducible refine Zv rfl 33 _ _ rfl (w.heap.size+2) [i6 0,i6 0,.slice none 0 0,.slice none 0 0,.slice none 0 0,.slice none 0 0,.slice none 0 0] rfl rfl Q7 (n:=7) rfl rfl E (by simp [Value.oneCell']) ?_);intro wS D) | fail);refine bodyPost_ret (Zr rfl _ _ (w.heap.size+2) rfl (hid D.out.YK) (n:=7) rfl underlying33 rfl E) rfl ?_
   exact HZ.o 71 wS (by decide) (D.out.below aQ.o (by omega))
  go_wp2_with fail;refine(Zf c.ro.ZU A.a2 A.k2 x.to w8 (HC.o.later aQ.o).nm bC).mono ?_
  rintro e w9 ⟨rfl,rfl⟩;generalize c.ro.ZU.contains x.to=b2 at*
  cases b2
  ·clear p4 g3 g4;go_wp2_with (first | ((with_reducible refine Zv rfl 33 _ _ rfl (w.heap.size+2) [i6 0,i6 0,.slice none 0 0,.slice none 0 0,.slice none 0 0,.slice none 0 0,.slice none 0 0] rfl rfl Q7 (n:=7) rfl rfl E (by simp [Value.oneCell']) ?_);intro wS D) | fail);refine bodyPost_ret (Zr rfl _ _ (w.heap.size+2) rfl (hid D.out.YK) (n:=7) rfl underlying33 rfl E) rfl ?_
   exact HZ.o 71 wS (by decide) (D.out.below aQ.o (by omega))
  clear p4 g3 g4;have q0:=ce P7 0;have q1:=ce P7 1;have q2:=ce P7 2;have q3:=ce P7 3;have q4:=ce P7 4;have q5:=ce P7 5;have q6:=ce P7 6;have s0:=ce T7 0;have s1:=ce T7 1;have s2:=ce T7 2;have s3:=ce T7 3;have s4:=ce T7 4;go_wp2_with fail;have cB:=PZ c A (XN c.ro x.ZM) I ic t X xk Y y it w9 (HC.o.later aQ.o) aT.o bA HT.o.1.1 bF.o;unfold Ca.cs Tb.cs at cB;refine cB.mono ?_
  rintro e aw ⟨rfl,hb⟩;have bd:=hid (aT.o.later hb);have ag:=bt aQ hb;have aR:=bl P7 hb;have aM:=bl G7 hb;have aL:=bl Q7 hb;have aW:=bl T7 hb;clear hb aQ P7 G7 Q7 T7;clear cB q0 q1 q2 q3 q4 q5 q6 s0 s1 s2 s3 s4 aT
  cases hbo:VD c (XN c.ro x.ZM) t
  ·clear hbo;have q6:=ce aR 6;have g2:=ce aM 2;have s0:=ce aW 0;have s1:=ce aW 1;have s2:=ce aW 2;have s3:=ce aW 3;have s4:=ce aW 4;go_wp2_with fail;have cG:=Od c.Z4 A.a4 A.k4 (XN c.ro x.ZM) I ic t X xk Y y x.right true aw (HC.o.later ag.o).gr bi bd.o bA;unfold Tb.cs at cG;refine cG.mono ?_
   rintro e ay ⟨rfl,hb⟩;have ah:=bt ag hb;have be:=bl aR hb;have bb:=bl aM hb;have aP:=bl aL hb;have bH:=bl aW hb;clear hb ag aR aM aL aW;clear cG q6 g2 s0 s1 s2 s3 s4
   cases hgi:TJ c.Z4 (XN c.ro x.ZM) t x.right true
   ·clear hgi;go_wp2_with (first | ((with_reducible refine Zv rfl 33 _ _ rfl (w.heap.size+2) [i6 0,i6 0,.slice none 0 0,.slice none 0 0,.slice none 0 0,.slice none 0 0,.slice none 0 0] rfl rfl aP (n:=7) rfl rfl E (by simp [Value.oneCell']) ?_);intro wS D) | fail);refine bodyPost_ret (Zr rfl _ _ (w.heap.size+2) rfl (hid D.out.YK) (n:=7) rfl underlying33 rfl E) rfl ?_
    exact HZ.o 91 wS (by decide) (D.out.below ah.o (by omega))
   clear hgi;have q6:=ce be 6;have aK:=aP.o.lt;by_cases h64:64<=c.Z4.length
   ·have h1:(c.Z4.length:Int)>=64:=by omega
    have h2:(64:Int)<=(c.Z4.length:Int):=by omega
    cases laid
    ·clear q6;have q6:=ce be 6;go_wp2_with (first | ((with_reducible refine Zv rfl 33 _ _ rfl (w.heap.size+2) [i6 0,i6 0,.slice none 0 0,.slice none 0 0,.slice none 0 0,.slice none 0 0,.slice none 0 0] rfl rfl aP (n:=7) rfl rfl E (by simp [Value.oneCell']) ?_);intro wS D) | fail);refine bodyPost_ret (Zr rfl _ _ (w.heap.size+2) rfl (hid D.out.YK) (n:=7) rfl underlying33 rfl E) rfl ?_
     exact HZ.o 2 wS (by decide) (D.out.below ah.o (by omega))
    ·go_wp2_with (first | (with_reducible refine Zs rfl 33 _ rfl (w.heap.size) rfl be (n:=7) rfl underlying33 rfl E ?_) | fail);have ak:=UE c A ay (HC.o.later ah.o) HT.o (Yl av.o).2.1;unfold Ca.cs at ak;refine ak.mono ?_
     rintro e C ⟨d,rfl,hT,ho,hb⟩;have a8:=ah.o.size;have ba:=hb.size;have aa:=bt ah hb;have aA:=bl bb hb;have az:=bl aP hb;have aj:=hid hT;have T:=hid ho;have aI:=bb.o.lt;have aJ:=aP.o.lt;clear ak hT ho hb q6;have ap:=aO.o (by trivial);obtain⟨m,aG⟩:=Xi T.o (by omega);have ar:Hid (ZP (C.alloc (.cells #[.int .i64 c.ZO,.int .i64 c.ZR,.slice d.a0 c.ob.Z7.length d.k0,.slice d.a1 c.ob.Z8.length d.k1,.slice d.a2 c.ro.ZU.length d.k2,.slice d.a3 c.ro.ZY.length d.k3,.slice d.a4 c.Z4.length d.k4] 33)) C.heap.size 33 [.int .i64 c.ZO,.int .i64 c.ZR,.slice d.a0 c.ob.Z7.length d.k0,.slice d.a1 c.ob.Z8.length d.k1,.slice d.a2 c.ro.ZU.length d.k2,.slice d.a3 c.ro.ZY.length d.k3,.slice d.a4 c.Z4.length d.k4]):=hid (ZP.new C _ _);rw [aG] at T ar;have af:=ZJ T.o;have V:=(ZJ T.o).2.2.2.2 (at_*6+5) (.bool c.Z4[at_].Zq) (by rw [Zl Gr.k c.Z4 at_ 5 ap (by omega)];rfl)
     have aH:=af.2.1;have aq:Hid (Below w.heap.size w (C.alloc (.cells #[.int .i64 c.ZO,.int .i64 c.ZR,.slice d.a0 c.ob.Z7.length d.k0,.slice d.a1 c.ob.Z8.length d.k1,.slice d.a2 c.ro.ZU.length d.k2,.slice d.a3 c.ro.ZY.length d.k3,.slice d.a4 c.Z4.length d.k4] 33))):=hid (aa.o.alloc aa.o.size _);have aX:(0:Int)<=(at_:Int):=by omega
     have aY:(at_:Int)< (c.Z4.length:Int):=by omega
     have aZ:((at_:Int)).toNat=at_:=by omega
     go_wp2_with fail;(try rw [aG])
     refine Wh _ fun u s=> ?_
     have ab:=rB s ar.o;have aC:=rB s (aA.o.alloc _);have aF:=rB s (az.o.alloc _);have ad:Hid (Qn u c d):=hid (by rw [s];exact aj.o.later (br.alloc lr _));have M:Hid (u.ownsRow ay.heap.size 53 6 (.slice (some ⟨m,0,none⟩) c.Z4.length d.k4) c.Z4.length (c.Z4.flatMap Gr.cs)):=hid (by rw [s];exact T.o.ZC (br.alloc lr _));have ae:=rL s (aa.o.alloc aa.o.size _);clear s aq ar V;have V:=(ZJ M.o).2.2.2.2 (at_*6+5) (.bool c.Z4[at_].Zq) (by rw [Zl Gr.k c.Z4 at_ 5 ap (by omega)];rfl)
     generalize hop:c.Z4[at_].Zq=op at*
     cases op
     ·have hS:u.drew.cell? (aD C.heap.size 6)=some (.slice (some ⟨m,0,none⟩) c.Z4.length d.k4)/\u.drew.cell? (aD m (at_*6+5))=some (.bool false)/\u.drew.cell? (aD (w.heap.size+1) 5)=some (.bool x.Zq):=⟨ab.out.cell 6,V,aC.o.cell 5⟩
      refine Zp 15 (S:=fun w'=>w'.cell? (aD C.heap.size 6)=some (.slice (some ⟨m,0,none⟩) c.Z4.length d.k4)/\w'.cell? (aD m (at_*6+5))=some (.bool false)/\w'.cell? (aD (w.heap.size+1) 5)=some (.bool x.Zq)) (by kernel_rfl) hS (fun j=> ?_)
      (try simp only [pp]);refine YU 0 106 j ?_;refine YU 1 107 j ?_;refine YU 2 108 j ?_;refine YU 3 109 j ?_;refine YU 4 110 j ?_;refine YU 5 111 j ?_;refine YU 6 112 j ?_;refine YU 7 113 j ?_;refine YU 8 114 j ?_;refine Zu.take (i:=9) (oi:=⟨some 115,_,_,_,_,_⟩) (v:= .bool false) rfl (by kernel_rfl) (by kernel_rfl) (by kernel_rfl) (by kernel_rfl) (fun _ _ _ h=>h) (Or.inl ⟨by rfl,?_⟩) j ?_
      ·intro w ax;(try dsimp only at ax)
       go_simp
       all_goals (try omega)
      (try simp only [pp]);refine YU 10 116 j ?_;refine YU 11 117 j ?_;refine YU 12 118 j ?_;refine TU 13 119 (fun _=>j) ?_;refine YU 14 120 j ?_;refine Zu.WR (i:=15) (o:=⟨none,_,_,_,_,_⟩) (by kernel_rfl) (by kernel_rfl) rfl (fun K F=> ?_)
      have e5:u.drew.cell? (aD m (at_*6+5))=some (.bool false):=V;have f5:u.drew.frozen? (aD m (at_*6+5))=false:=(ZJ M.o).2.2.2.1 _;go_simp;refine F.out _ _ (Zu.done (by kernel_rfl) ?_ _);clear F K j hS e5 f5;refine Qv _ fun L s=> ?_
      obtain⟨J,am⟩: ∃ J:Bool,J=x.Zq:=⟨_,rfl⟩
      have ac:Hid (ZS [53] u L):=hid (by rw [s];exact(ZS.Zx (ZJ M.o).2.2.1 (by simp) _).trans (ZS.drew _));have ai:Hid (Below m u L):=hid (by rw [s];exact((Below.refl m u).setCell (p:=(aD m (at_*6+5))) lr _).drew);have U:Hid (L.ownsRow ay.heap.size 53 6 (.slice (some ⟨m,0,none⟩) c.Z4.length d.k4) c.Z4.length ((c.Z4.set at_ { c.Z4[at_] with Zq:=J}).flatMap Gr.cs)):=hid (by
       rw [s,am];have h1:=XG M.o (i:=at_*6+5) (by rw [Zm Gr.k];omega) (.bool (x.Zq))
       rw [X7 Gr.k c.Z4 at_ 5 ap (by omega) (.bool (x.Zq)) { c.Z4[at_] with Zq:=x.Zq} rfl] at h1;exact XX h1)
      clear s am;have a6:ay.heap.size<=m:=af.1;have Z:=hid (ab.out.keeps ac.out (by decide));have QF:=hid (aF.out.below ai.out (by omega));have an:=hid (ae.out.trans (ai.out.mono (by omega)));have O:(c.Z4.set at_ { c.Z4[at_] with Zq:=J}).length=c.Z4.length:=List.length_set;generalize c.Z4.set at_ { c.Z4[at_] with Zq:=J} =l' at*;have au:=hid U.out;rw [<-O] at Z au;have N:=hid O;clear O;go_wp2_with (first | (with_reducible refine Zs rfl 33 _ rfl (C.heap.size) rfl Z (n:=7) rfl underlying33 rfl E ?_) | ((with_reducible refine Zv rfl 33 _ _ rfl (w.heap.size+2) [.int .i64 c.ZO,.int .i64 c.ZR,.slice d.a0 c.ob.Z7.length d.k0,.slice d.a1 c.ob.Z8.length d.k1,.slice d.a2 c.ro.ZU.length d.k2,.slice d.a3 c.ro.ZY.length d.k3,.slice (some ⟨m,0,none⟩) l'.length d.k4] rfl rfl QF (n:=7) rfl rfl E (by simp [Value.oneCell']) ?_);intro wS D) | fail);refine bodyPost_ret (Zr rfl _ _ (w.heap.size+2) rfl (hid D.out.YK) (n:=7) rfl underlying33 rfl E) rfl ?_
      have F:=D.out.keeps;have aV:=(ad.o.sc)
      have G:=(ad.o.keeps ac.out (by decide)).keeps F (by decide);refine⟨⟨c.ZO,c.ZR,c.ob,c.ro,l'⟩,⟨d.a0,d.k0,d.a1,d.k1,d.a2,d.k2,d.a3,d.k3,some ⟨m,0,none⟩,d.k4⟩,0,rfl,Qn.Gg (c:=⟨c.ZO,c.ZR,c.ob,c.ro,l'⟩) ⟨G.sc,G.tb,G.nm,G.mb⟩ ?_,D.out.below an.o (by omega),fun _=>⟨rfl,rfl,rfl,rfl,by have:=N.o;show l'.length<=_;omega⟩⟩
      exact ZI (Xn (us:=CT) (by rw [N.o];exact U.out)) F (by decide)
     ·have hS:u.drew.cell? (aD C.heap.size 6)=some (.slice (some ⟨m,0,none⟩) c.Z4.length d.k4)/\u.drew.cell? (aD m (at_*6+5))=some (.bool true)/\u.drew.cell? (aD (w.heap.size+1) 5)=some (.bool x.Zq):=⟨ab.out.cell 6,V,aC.o.cell 5⟩
      refine Zp 15 (S:=fun w'=>w'.cell? (aD C.heap.size 6)=some (.slice (some ⟨m,0,none⟩) c.Z4.length d.k4)/\w'.cell? (aD m (at_*6+5))=some (.bool true)/\w'.cell? (aD (w.heap.size+1) 5)=some (.bool x.Zq)) (by kernel_rfl) hS (fun j=> ?_)
      (try simp only [pp]);refine YU 0 106 j ?_;refine YU 1 107 j ?_;refine YU 2 108 j ?_;refine YU 3 109 j ?_;refine YU 4 110 j ?_;refine YU 5 111 j ?_;refine YU 6 112 j ?_;refine YU 7 113 j ?_;refine YU 8 114 j ?_;refine Zu.take (i:=9) (oi:=⟨some 115,_,_,_,_,_⟩) (v:= .bool true) rfl (by kernel_rfl) (by kernel_rfl) (by kernel_rfl) (by kernel_rfl) (fun _ _ _ h=>h) (Or.inl ⟨by rfl,?_⟩) j ?_
      ·intro w ax;(try dsimp only at ax)
       go_simp
       all_goals (try omega)
      (try simp only [pp]);refine Zu.take (i:=10) (oi:=⟨some 116,_,_,_,_,_⟩) (v:=undef) rfl (by kernel_rfl) (by kernel_rfl) (by kernel_rfl) (by kernel_rfl) (fun _ _ _ h=>h) (Or.inr ⟨by rfl,rfl⟩) j ?_
      (try simp only [pp]);refine Zu.take (i:=11) (oi:=⟨some 117,_,_,_,_,_⟩) (v:=undef) rfl (by kernel_rfl) (by kernel_rfl) (by kernel_rfl) (by kernel_rfl) (fun _ _ _ h=>h) (Or.inr ⟨by rfl,rfl⟩) j ?_
      (try simp only [pp]);refine YU 12 118 j ?_;refine TU 13 119 (fun _=>j) ?_;refine YU 14 120 j ?_;refine Zu.WR (i:=15) (o:=⟨none,_,_,_,_,_⟩) (by kernel_rfl) (by kernel_rfl) rfl (fun K F=> ?_)
      have e5:u.drew.cell? (aD m (at_*6+5))=some (.bool true):=V;have f5:u.drew.frozen? (aD m (at_*6+5))=false:=(ZJ M.o).2.2.2.1 _;go_simp;refine F.out _ _ (Zu.done (by kernel_rfl) ?_ _);clear F K j hS e5 f5;refine Qv _ fun L s=> ?_
      obtain⟨J,am⟩: ∃ J:Bool,J=true:=⟨_,rfl⟩
      have ac:Hid (ZS [53] u L):=hid (by rw [s];exact(ZS.Zx (ZJ M.o).2.2.1 (by simp) _).trans (ZS.drew _));have ai:Hid (Below m u L):=hid (by rw [s];exact((Below.refl m u).setCell (p:=(aD m (at_*6+5))) lr _).drew);have U:Hid (L.ownsRow ay.heap.size 53 6 (.slice (some ⟨m,0,none⟩) c.Z4.length d.k4) c.Z4.length ((c.Z4.set at_ { c.Z4[at_] with Zq:=J}).flatMap Gr.cs)):=hid (by
       rw [s,am];have h1:=XG M.o (i:=at_*6+5) (by rw [Zm Gr.k];omega) (.bool (true))
       rw [X7 Gr.k c.Z4 at_ 5 ap (by omega) (.bool (true)) { c.Z4[at_] with Zq:=true} rfl] at h1;exact XX h1)
      clear s am;have a6:ay.heap.size<=m:=af.1;have Z:=hid (ab.out.keeps ac.out (by decide));have QF:=hid (aF.out.below ai.out (by omega));have an:=hid (ae.out.trans (ai.out.mono (by omega)));have O:(c.Z4.set at_ { c.Z4[at_] with Zq:=J}).length=c.Z4.length:=List.length_set;generalize c.Z4.set at_ { c.Z4[at_] with Zq:=J} =l' at*;have au:=hid U.out;rw [<-O] at Z au;have N:=hid O;clear O;go_wp2_with (first | (with_reducible refine Zs rfl 33 _ rfl (C.heap.size) rfl Z (n:=7) rfl underlying33 rfl E ?_) | ((with_reducible refine Zv rfl 33 _ _ rfl (w.heap.size+2) [.int .i64 c.ZO,.int .i64 c.ZR,.slice d.a0 c.ob.Z7.length d.k0,.slice d.a1 c.ob.Z8.length d.k1,.slice d.a2 c.ro.ZU.length d.k2,.slice d.a3 c.ro.ZY.length d.k3,.slice (some ⟨m,0,none⟩) l'.length d.k4] rfl rfl QF (n:=7) rfl rfl E (by simp [Value.oneCell']) ?_);intro wS D) | fail);refine bodyPost_ret (Zr rfl _ _ (w.heap.size+2) rfl (hid D.out.YK) (n:=7) rfl underlying33 rfl E) rfl ?_
      have F:=D.out.keeps;have aV:=(ad.o.sc)
      have G:=(ad.o.keeps ac.out (by decide)).keeps F (by decide);refine⟨⟨c.ZO,c.ZR,c.ob,c.ro,l'⟩,⟨d.a0,d.k0,d.a1,d.k1,d.a2,d.k2,d.a3,d.k3,some ⟨m,0,none⟩,d.k4⟩,0,rfl,Qn.Gg (c:=⟨c.ZO,c.ZR,c.ob,c.ro,l'⟩) ⟨G.sc,G.tb,G.nm,G.mb⟩ ?_,D.out.below an.o (by omega),fun _=>⟨rfl,rfl,rfl,rfl,by have:=N.o;show l'.length<=_;omega⟩⟩
      exact ZI (Xn (us:=CT) (by rw [N.o];exact U.out)) F (by decide)
   ·have h1: ¬ (c.Z4.length:Int)>=64:=by omega
    have h2: ¬ (64:Int)<=(c.Z4.length:Int):=by omega
    cases laid
    ·go_wp2_with (first | (with_reducible refine Zs rfl 33 _ rfl (w.heap.size) rfl be (n:=7) rfl underlying33 rfl E ?_) | fail);have ak:=UE c A ay (HC.o.later ah.o) HT.o (Yl av.o).2.1;unfold Ca.cs at ak;refine ak.mono ?_
     rintro e C ⟨d,rfl,hT,ho,hb⟩;have a8:=ah.o.size;have ba:=hb.size;have aa:=bt ah hb;have aA:=bl bb hb;have az:=bl aP hb;have aj:=hid hT;have T:=hid ho;have aI:=bb.o.lt;have aJ:=aP.o.lt;clear ak hT ho hb q6;have aB:Hid (ZP (C.alloc (.cells #[.int .i64 c.ZO,.int .i64 c.ZR,.slice d.a0 c.ob.Z7.length d.k0,.slice d.a1 c.ob.Z8.length d.k1,.slice d.a2 c.ro.ZU.length d.k2,.slice d.a3 c.ro.ZY.length d.k3,.slice d.a4 c.Z4.length d.k4] 33)) (w.heap.size+1) 53 [sT x.Z9,sT x.ZZ,i6 x.right,sT x.ZM,sT x.to,.bool x.Zq]):=hid (aA.o.alloc _);go_wp2_with (first | (with_reducible refine Zs rfl 53 _ rfl (w.heap.size+1) rfl aB (n:=6) rfl underlying53 rfl bo ?_) | fail);refine Zi _ fun u s=> ?_
     have aE:=bQ s;have ab:=nD s;have XB:=nF s;clear s aB;have bg:=fun g (hg:d.a4=some (aD g 0))=>YB T.o (k:=g) (by rw [hg];rfl)
     refine(RU ay.heap.size c.Z4 d.a4 d.k4 at_ x (C.heap.size+1) u (T.o.ZC aE.o) bf XB.o (fun g hg e=>by have:=bg g hg;omega) bi (Nat.le_trans ba aE.o.size)).mono ?_
     rintro e L ⟨A5,c5,rfl,ho,hb,hk⟩;have aS:=hid ((aa.o.trans (aE.o.mono aa.o.size)).trans (hb.mono a8));have ao:=hid (ab.out.keeps hk (by decide));have bu:=hid ((az.o.below aE.o az.o.lt).below hb aK);have aU:=hid ((aj.o.later aE.o).keeps hk (by decide));have U:=hid ho;have bz:w.heap.size+2<C.heap.size:=by omega
     clear ho hb hk bg XB ab;have e6:=ce ao 6;have f6:=ao.o.frozen 6;have Z:Hid (ZP (L.setCell (aD C.heap.size 6) (.slice A5 (c.Z4.length+1) c5)) C.heap.size 33 [.int .i64 c.ZO,.int .i64 c.ZR,.slice d.a0 c.ob.Z7.length d.k0,.slice d.a1 c.ob.Z8.length d.k1,.slice d.a2 c.ro.ZU.length d.k2,.slice d.a3 c.ro.ZY.length d.k3,.slice A5 (c.Z4.length+1) c5]):=hid (ao.o.Zx 6 _);have QF:Hid (ZP (L.setCell (aD C.heap.size 6) (.slice A5 (c.Z4.length+1) c5)) (w.heap.size+2) 33 [i6 0,i6 0,.slice none 0 0,.slice none 0 0,.slice none 0 0,.slice none 0 0,.slice none 0 0]):=hid (bu.o.WT (by show _≠C.heap.size;omega) _)
     have an:Hid (Below w.heap.size w (L.setCell (aD C.heap.size 6) (.slice A5 (c.Z4.length+1) c5))):=hid (aS.o.setCell (by show w.heap.size<=C.heap.size;omega) _);have bp:Hid (ZS [33] L (L.setCell (aD C.heap.size 6) (.slice A5 (c.Z4.length+1) c5))):=hid (ZS.Zx ao.o.Xr (by simp) _);have N:Hid ((c.Z4.take at_ ++x ::c.Z4.drop at_).length=c.Z4.length+1):=hid (by simp only [List.length_append,List.length_take,List.length_cons,List.length_drop];omega)
     go_wp2_with (first | (with_reducible refine Zs rfl 33 _ rfl (C.heap.size) rfl Z (n:=7) rfl underlying33 rfl E ?_) | ((with_reducible refine Zv rfl 33 _ _ rfl (w.heap.size+2) [.int .i64 c.ZO,.int .i64 c.ZR,.slice d.a0 c.ob.Z7.length d.k0,.slice d.a1 c.ob.Z8.length d.k1,.slice d.a2 c.ro.ZU.length d.k2,.slice d.a3 c.ro.ZY.length d.k3,.slice A5 (c.Z4.length+1) c5] rfl rfl QF (n:=7) rfl rfl E (by simp [Value.oneCell']) ?_);intro wS D) | fail);refine bodyPost_ret (Zr rfl _ _ (w.heap.size+2) rfl (hid D.out.YK) (n:=7) rfl underlying33 rfl E) rfl ?_
     have F:=bp.o.trans D.out.keeps;have G:=aU.o.keeps F (by decide);generalize hl':c.Z4.take at_ ++x ::c.Z4.drop at_=l' at*;refine⟨⟨c.ZO,c.ZR,c.ob,c.ro,l'⟩,⟨d.a0,d.k0,d.a1,d.k1,d.a2,d.k2,d.a3,d.k3,A5,c5⟩,0,by simp [Ca.cs,N.o],Qn.Gg (c:=⟨c.ZO,c.ZR,c.ob,c.ro,l'⟩) ⟨G.sc,G.tb,G.nm,G.mb⟩ ?_,D.out.below an.o (by omega),fun _=>⟨rfl,rfl,rfl,rfl,by have:=N.o;show l'.length<=_;omega⟩⟩
     exact ZI (Xn (us:=CT) (by rw [N.o];exact U.out)) F (by decide)
    ·go_wp2_with (first | (with_reducible refine Zs rfl 33 _ rfl (w.heap.size) rfl be (n:=7) rfl underlying33 rfl E ?_) | fail);have ak:=UE c A ay (HC.o.later ah.o) HT.o (Yl av.o).2.1;unfold Ca.cs at ak;refine ak.mono ?_
     rintro e C ⟨d,rfl,hT,ho,hb⟩;have a8:=ah.o.size;have ba:=hb.size;have aa:=bt ah hb;have aA:=bl bb hb;have az:=bl aP hb;have aj:=hid hT;have T:=hid ho;have aI:=bb.o.lt;have aJ:=aP.o.lt;clear ak hT ho hb q6;have ap:=aO.o (by trivial);obtain⟨m,aG⟩:=Xi T.o (by omega);have ar:Hid (ZP (C.alloc (.cells #[.int .i64 c.ZO,.int .i64 c.ZR,.slice d.a0 c.ob.Z7.length d.k0,.slice d.a1 c.ob.Z8.length d.k1,.slice d.a2 c.ro.ZU.length d.k2,.slice d.a3 c.ro.ZY.length d.k3,.slice d.a4 c.Z4.length d.k4] 33)) C.heap.size 33 [.int .i64 c.ZO,.int .i64 c.ZR,.slice d.a0 c.ob.Z7.length d.k0,.slice d.a1 c.ob.Z8.length d.k1,.slice d.a2 c.ro.ZU.length d.k2,.slice d.a3 c.ro.ZY.length d.k3,.slice d.a4 c.Z4.length d.k4]):=hid (ZP.new C _ _);rw [aG] at T ar;have af:=ZJ T.o;have V:=(ZJ T.o).2.2.2.2 (at_*6+5) (.bool c.Z4[at_].Zq) (by rw [Zl Gr.k c.Z4 at_ 5 ap (by omega)];rfl)
     have aH:=af.2.1;have aq:Hid (Below w.heap.size w (C.alloc (.cells #[.int .i64 c.ZO,.int .i64 c.ZR,.slice d.a0 c.ob.Z7.length d.k0,.slice d.a1 c.ob.Z8.length d.k1,.slice d.a2 c.ro.ZU.length d.k2,.slice d.a3 c.ro.ZY.length d.k3,.slice d.a4 c.Z4.length d.k4] 33))):=hid (aa.o.alloc aa.o.size _);have aX:(0:Int)<=(at_:Int):=by omega
     have aY:(at_:Int)< (c.Z4.length:Int):=by omega
     have aZ:((at_:Int)).toNat=at_:=by omega
     go_wp2_with fail;(try rw [aG])
     refine Wh _ fun u s=> ?_
     have ab:=rB s ar.o;have aC:=rB s (aA.o.alloc _);have aF:=rB s (az.o.alloc _);have ad:Hid (Qn u c d):=hid (by rw [s];exact aj.o.later (br.alloc lr _));have M:Hid (u.ownsRow ay.heap.size 53 6 (.slice (some ⟨m,0,none⟩) c.Z4.length d.k4) c.Z4.length (c.Z4.flatMap Gr.cs)):=hid (by rw [s];exact T.o.ZC (br.alloc lr _));have ae:=rL s (aa.o.alloc aa.o.size _);clear s aq ar V;have V:=(ZJ M.o).2.2.2.2 (at_*6+5) (.bool c.Z4[at_].Zq) (by rw [Zl Gr.k c.Z4 at_ 5 ap (by omega)];rfl)
     generalize hop:c.Z4[at_].Zq=op at*
     cases op
     ·have hS:u.drew.cell? (aD C.heap.size 6)=some (.slice (some ⟨m,0,none⟩) c.Z4.length d.k4)/\u.drew.cell? (aD m (at_*6+5))=some (.bool false)/\u.drew.cell? (aD (w.heap.size+1) 5)=some (.bool x.Zq):=⟨ab.out.cell 6,V,aC.o.cell 5⟩
      refine Zp 15 (S:=fun w'=>w'.cell? (aD C.heap.size 6)=some (.slice (some ⟨m,0,none⟩) c.Z4.length d.k4)/\w'.cell? (aD m (at_*6+5))=some (.bool false)/\w'.cell? (aD (w.heap.size+1) 5)=some (.bool x.Zq)) (by kernel_rfl) hS (fun j=> ?_)
      (try simp only [pp]);refine YU 0 106 j ?_;refine YU 1 107 j ?_;refine YU 2 108 j ?_;refine YU 3 109 j ?_;refine YU 4 110 j ?_;refine YU 5 111 j ?_;refine YU 6 112 j ?_;refine YU 7 113 j ?_;refine YU 8 114 j ?_;refine Zu.take (i:=9) (oi:=⟨some 115,_,_,_,_,_⟩) (v:= .bool false) rfl (by kernel_rfl) (by kernel_rfl) (by kernel_rfl) (by kernel_rfl) (fun _ _ _ h=>h) (Or.inl ⟨by rfl,?_⟩) j ?_
      ·intro w ax;(try dsimp only at ax)
       go_simp
       all_goals (try omega)
      (try simp only [pp]);refine YU 10 116 j ?_;refine YU 11 117 j ?_;refine YU 12 118 j ?_;refine TU 13 119 (fun _=>j) ?_;refine YU 14 120 j ?_;refine Zu.WR (i:=15) (o:=⟨none,_,_,_,_,_⟩) (by kernel_rfl) (by kernel_rfl) rfl (fun K F=> ?_)
      have e5:u.drew.cell? (aD m (at_*6+5))=some (.bool false):=V;have f5:u.drew.frozen? (aD m (at_*6+5))=false:=(ZJ M.o).2.2.2.1 _;go_simp;refine F.out _ _ (Zu.done (by kernel_rfl) ?_ _);clear F K j hS e5 f5;refine Qv _ fun L s=> ?_
      obtain⟨J,am⟩: ∃ J:Bool,J=x.Zq:=⟨_,rfl⟩
      have ac:Hid (ZS [53] u L):=hid (by rw [s];exact(ZS.Zx (ZJ M.o).2.2.1 (by simp) _).trans (ZS.drew _));have ai:Hid (Below m u L):=hid (by rw [s];exact((Below.refl m u).setCell (p:=(aD m (at_*6+5))) lr _).drew);have U:Hid (L.ownsRow ay.heap.size 53 6 (.slice (some ⟨m,0,none⟩) c.Z4.length d.k4) c.Z4.length ((c.Z4.set at_ { c.Z4[at_] with Zq:=J}).flatMap Gr.cs)):=hid (by
       rw [s,am];have h1:=XG M.o (i:=at_*6+5) (by rw [Zm Gr.k];omega) (.bool (x.Zq))
       rw [X7 Gr.k c.Z4 at_ 5 ap (by omega) (.bool (x.Zq)) { c.Z4[at_] with Zq:=x.Zq} rfl] at h1;exact XX h1)
      clear s am;have a6:ay.heap.size<=m:=af.1;have Z:=hid (ab.out.keeps ac.out (by decide));have QF:=hid (aF.out.below ai.out (by omega));have an:=hid (ae.out.trans (ai.out.mono (by omega)));have O:(c.Z4.set at_ { c.Z4[at_] with Zq:=J}).length=c.Z4.length:=List.length_set;generalize c.Z4.set at_ { c.Z4[at_] with Zq:=J} =l' at*;have au:=hid U.out;rw [<-O] at Z au;have N:=hid O;clear O;go_wp2_with (first | (with_reducible refine Zs rfl 33 _ rfl (C.heap.size) rfl Z (n:=7) rfl underlying33 rfl E ?_) | ((with_reducible refine Zv rfl 33 _ _ rfl (w.heap.size+2) [.int .i64 c.ZO,.int .i64 c.ZR,.slice d.a0 c.ob.Z7.length d.k0,.slice d.a1 c.ob.Z8.length d.k1,.slice d.a2 c.ro.ZU.length d.k2,.slice d.a3 c.ro.ZY.length d.k3,.slice (some ⟨m,0,none⟩) l'.length d.k4] rfl rfl QF (n:=7) rfl rfl E (by simp [Value.oneCell']) ?_);intro wS D) | fail);refine bodyPost_ret (Zr rfl _ _ (w.heap.size+2) rfl (hid D.out.YK) (n:=7) rfl underlying33 rfl E) rfl ?_
      have F:=D.out.keeps;have aV:=(ad.o.sc)
      have G:=(ad.o.keeps ac.out (by decide)).keeps F (by decide);refine⟨⟨c.ZO,c.ZR,c.ob,c.ro,l'⟩,⟨d.a0,d.k0,d.a1,d.k1,d.a2,d.k2,d.a3,d.k3,some ⟨m,0,none⟩,d.k4⟩,0,rfl,Qn.Gg (c:=⟨c.ZO,c.ZR,c.ob,c.ro,l'⟩) ⟨G.sc,G.tb,G.nm,G.mb⟩ ?_,D.out.below an.o (by omega),fun _=>⟨rfl,rfl,rfl,rfl,by have:=N.o;show l'.length<=_;omega⟩⟩
      exact ZI (Xn (us:=CT) (by rw [N.o];exact U.out)) F (by decide)
     ·have hS:u.drew.cell? (aD C.heap.size 6)=some (.slice (some ⟨m,0,none⟩) c.Z4.length d.k4)/\u.drew.cell? (aD m (at_*6+5))=some (.bool true)/\u.drew.cell? (aD (w.heap.size+1) 5)=some (.bool x.Zq):=⟨ab.out.cell 6,V,aC.o.cell 5⟩
      refine Zp 15 (S:=fun w'=>w'.cell? (aD C.heap.size 6)=some (.slice (some ⟨m,0,none⟩) c.Z4.length d.k4)/\w'.cell? (aD m (at_*6+5))=some (.bool true)/\w'.cell? (aD (w.heap.size+1) 5)=some (.bool x.Zq)) (by kernel_rfl) hS (fun j=> ?_)
      (try simp only [pp]);refine YU 0 106 j ?_;refine YU 1 107 j ?_;refine YU 2 108 j ?_;refine YU 3 109 j ?_;refine YU 4 110 j ?_;refine YU 5 111 j ?_;refine YU 6 112 j ?_;refine YU 7 113 j ?_;refine YU 8 114 j ?_;refine Zu.take (i:=9) (oi:=⟨some 115,_,_,_,_,_⟩) (v:= .bool true) rfl (by kernel_rfl) (by kernel_rfl) (by kernel_rfl) (by kernel_rfl) (fun _ _ _ h=>h) (Or.inl ⟨by rfl,?_⟩) j ?_
      ·intro w ax;(try dsimp only at ax)
       go_simp
       all_goals (try omega)
      (try simp only [pp]);refine Zu.take (i:=10) (oi:=⟨some 116,_,_,_,_,_⟩) (v:=undef) rfl (by kernel_rfl) (by kernel_rfl) (by kernel_rfl) (by kernel_rfl) (fun _ _ _ h=>h) (Or.inr ⟨by rfl,rfl⟩) j ?_
      (try simp only [pp]);refine Zu.take (i:=11) (oi:=⟨some 117,_,_,_,_,_⟩) (v:=undef) rfl (by kernel_rfl) (by kernel_rfl) (by kernel_rfl) (by kernel_rfl) (fun _ _ _ h=>h) (Or.inr ⟨by rfl,rfl⟩) j ?_
      (try simp only [pp]);refine YU 12 118 j ?_;refine TU 13 119 (fun _=>j) ?_;refine YU 14 120 j ?_;refine Zu.WR (i:=15) (o:=⟨none,_,_,_,_,_⟩) (by kernel_rfl) (by kernel_rfl) rfl (fun K F=> ?_)
      have e5:u.drew.cell? (aD m (at_*6+5))=some (.bool true):=V;have f5:u.drew.frozen? (aD m (at_*6+5))=false:=(ZJ M.o).2.2.2.1 _;go_simp;refine F.out _ _ (Zu.done (by kernel_rfl) ?_ _);clear F K j hS e5 f5;refine Qv _ fun L s=> ?_
      obtain⟨J,am⟩: ∃ J:Bool,J=true:=⟨_,rfl⟩
      have ac:Hid (ZS [53] u L):=hid (by rw [s];exact(ZS.Zx (ZJ M.o).2.2.1 (by simp) _).trans (ZS.drew _));have ai:Hid (Below m u L):=hid (by rw [s];exact((Below.refl m u).setCell (p:=(aD m (at_*6+5))) lr _).drew);have U:Hid (L.ownsRow ay.heap.size 53 6 (.slice (some ⟨m,0,none⟩) c.Z4.length d.k4) c.Z4.length ((c.Z4.set at_ { c.Z4[at_] with Zq:=J}).flatMap Gr.cs)):=hid (by
       rw [s,am];have h1:=XG M.o (i:=at_*6+5) (by rw [Zm Gr.k];omega) (.bool (true))
       rw [X7 Gr.k c.Z4 at_ 5 ap (by omega) (.bool (true)) { c.Z4[at_] with Zq:=true} rfl] at h1;exact XX h1)
      clear s am;have a6:ay.heap.size<=m:=af.1;have Z:=hid (ab.out.keeps ac.out (by decide));have QF:=hid (aF.out.below ai.out (by omega));have an:=hid (ae.out.trans (ai.out.mono (by omega)));have O:(c.Z4.set at_ { c.Z4[at_] with Zq:=J}).length=c.Z4.length:=List.length_set;generalize c.Z4.set at_ { c.Z4[at_] with Zq:=J} =l' at*;have au:=hid U.out;rw [<-O] at Z au;have N:=hid O;clear O;go_wp2_with (first | (with_reducible refine Zs rfl 33 _ rfl (C.heap.size) rfl Z (n:=7) rfl underlying33 rfl E ?_) | ((with_reducible refine Zv rfl 33 _ _ rfl (w.heap.size+2) [.int .i64 c.ZO,.int .i64 c.ZR,.slice d.a0 c.ob.Z7.length d.k0,.slice d.a1 c.ob.Z8.length d.k1,.slice d.a2 c.ro.ZU.length d.k2,.slice d.a3 c.ro.ZY.length d.k3,.slice (some ⟨m,0,none⟩) l'.length d.k4] rfl rfl QF (n:=7) rfl rfl E (by simp [Value.oneCell']) ?_);intro wS D) | fail);refine bodyPost_ret (Zr rfl _ _ (w.heap.size+2) rfl (hid D.out.YK) (n:=7) rfl underlying33 rfl E) rfl ?_
      have F:=D.out.keeps;have aV:=(ad.o.sc)
      have G:=(ad.o.keeps ac.out (by decide)).keeps F (by decide);refine⟨⟨c.ZO,c.ZR,c.ob,c.ro,l'⟩,⟨d.a0,d.k0,d.a1,d.k1,d.a2,d.k2,d.a3,d.k3,some ⟨m,0,none⟩,d.k4⟩,0,rfl,Qn.Gg (c:=⟨c.ZO,c.ZR,c.ob,c.ro,l'⟩) ⟨G.sc,G.tb,G.nm,G.mb⟩ ?_,D.out.below an.o (by omega),fun _=>⟨rfl,rfl,rfl,rfl,by have:=N.o;show l'.length<=_;omega⟩⟩
      exact ZI (Xn (us:=CT) (by rw [N.o];exact U.out)) F (by decide)
  ·clear hbo;have q6:=ce aR 6;have aK:=aL.o.lt;by_cases h64:64<=c.Z4.length
   ·have h1:(c.Z4.length:Int)>=64:=by omega
    have h2:(64:Int)<=(c.Z4.length:Int):=by omega
    cases laid
    ·clear q6;have q6:=ce aR 6;go_wp2_with (first | ((with_reducible refine Zv rfl 33 _ _ rfl (w.heap.size+2) [i6 0,i6 0,.slice none 0 0,.slice none 0 0,.slice none 0 0,.slice none 0 0,.slice none 0 0] rfl rfl aL (n:=7) rfl rfl E (by simp [Value.oneCell']) ?_);intro wS D) | fail);refine bodyPost_ret (Zr rfl _ _ (w.heap.size+2) rfl (hid D.out.YK) (n:=7) rfl underlying33 rfl E) rfl ?_
     exact HZ.o 2 wS (by decide) (D.out.below ag.o (by omega))
    ·go_wp2_with (first | (with_reducible refine Zs rfl 33 _ rfl (w.heap.size) rfl aR (n:=7) rfl underlying33 rfl E ?_) | fail);have ak:=UE c A aw (HC.o.later ag.o) HT.o (Yl av.o).2.1;unfold Ca.cs at ak;refine ak.mono ?_
     rintro e C ⟨d,rfl,hT,ho,hb⟩;have a7:=ag.o.size;have ba:=hb.size;have aa:=bt ag hb;have aA:=bl aM hb;have az:=bl aL hb;have aj:=hid hT;have T:=hid ho;have aI:=aM.o.lt;have aJ:=aL.o.lt;clear ak hT ho hb q6;have ap:=aO.o (by trivial);obtain⟨m,aG⟩:=Xi T.o (by omega);have ar:Hid (ZP (C.alloc (.cells #[.int .i64 c.ZO,.int .i64 c.ZR,.slice d.a0 c.ob.Z7.length d.k0,.slice d.a1 c.ob.Z8.length d.k1,.slice d.a2 c.ro.ZU.length d.k2,.slice d.a3 c.ro.ZY.length d.k3,.slice d.a4 c.Z4.length d.k4] 33)) C.heap.size 33 [.int .i64 c.ZO,.int .i64 c.ZR,.slice d.a0 c.ob.Z7.length d.k0,.slice d.a1 c.ob.Z8.length d.k1,.slice d.a2 c.ro.ZU.length d.k2,.slice d.a3 c.ro.ZY.length d.k3,.slice d.a4 c.Z4.length d.k4]):=hid (ZP.new C _ _);rw [aG] at T ar;have af:=ZJ T.o;have V:=(ZJ T.o).2.2.2.2 (at_*6+5) (.bool c.Z4[at_].Zq) (by rw [Zl Gr.k c.Z4 at_ 5 ap (by omega)];rfl)
     have aH:=af.2.1;have aq:Hid (Below w.heap.size w (C.alloc (.cells #[.int .i64 c.ZO,.int .i64 c.ZR,.slice d.a0 c.ob.Z7.length d.k0,.slice d.a1 c.ob.Z8.length d.k1,.slice d.a2 c.ro.ZU.length d.k2,.slice d.a3 c.ro.ZY.length d.k3,.slice d.a4 c.Z4.length d.k4] 33))):=hid (aa.o.alloc aa.o.size _);have aX:(0:Int)<=(at_:Int):=by omega
     have aY:(at_:Int)< (c.Z4.length:Int):=by omega
     have aZ:((at_:Int)).toNat=at_:=by omega
     go_wp2_with fail;(try rw [aG])
     refine Wh _ fun u s=> ?_
     have ab:=rB s ar.o;have aC:=rB s (aA.o.alloc _);have aF:=rB s (az.o.alloc _);have ad:Hid (Qn u c d):=hid (by rw [s];exact aj.o.later (br.alloc lr _));have M:Hid (u.ownsRow aw.heap.size 53 6 (.slice (some ⟨m,0,none⟩) c.Z4.length d.k4) c.Z4.length (c.Z4.flatMap Gr.cs)):=hid (by rw [s];exact T.o.ZC (br.alloc lr _));have ae:=rL s (aa.o.alloc aa.o.size _);clear s aq ar V;have V:=(ZJ M.o).2.2.2.2 (at_*6+5) (.bool c.Z4[at_].Zq) (by rw [Zl Gr.k c.Z4 at_ 5 ap (by omega)];rfl)
     generalize hop:c.Z4[at_].Zq=op at*
     cases op
     ·have hS:u.drew.cell? (aD C.heap.size 6)=some (.slice (some ⟨m,0,none⟩) c.Z4.length d.k4)/\u.drew.cell? (aD m (at_*6+5))=some (.bool false)/\u.drew.cell? (aD (w.heap.size+1) 5)=some (.bool x.Zq):=⟨ab.out.cell 6,V,aC.o.cell 5⟩
      refine Zp 15 (S:=fun w'=>w'.cell? (aD C.heap.size 6)=some (.slice (some ⟨m,0,none⟩) c.Z4.length d.k4)/\w'.cell? (aD m (at_*6+5))=some (.bool false)/\w'.cell? (aD (w.heap.size+1) 5)=some (.bool x.Zq)) (by kernel_rfl) hS (fun j=> ?_)
      (try simp only [pp]);refine YU 0 106 j ?_;refine YU 1 107 j ?_;refine YU 2 108 j ?_;refine YU 3 109 j ?_;refine YU 4 110 j ?_;refine YU 5 111 j ?_;refine YU 6 112 j ?_;refine YU 7 113 j ?_;refine YU 8 114 j ?_;refine Zu.take (i:=9) (oi:=⟨some 115,_,_,_,_,_⟩) (v:= .bool false) rfl (by kernel_rfl) (by kernel_rfl) (by kernel_rfl) (by kernel_rfl) (fun _ _ _ h=>h) (Or.inl ⟨by rfl,?_⟩) j ?_
      ·intro w ax;(try dsimp only at ax)
       go_simp
       all_goals (try omega)
      (try simp only [pp]);refine YU 10 116 j ?_;refine YU 11 117 j ?_;refine YU 12 118 j ?_;refine TU 13 119 (fun _=>j) ?_;refine YU 14 120 j ?_;refine Zu.WR (i:=15) (o:=⟨none,_,_,_,_,_⟩) (by kernel_rfl) (by kernel_rfl) rfl (fun K F=> ?_)
      have e5:u.drew.cell? (aD m (at_*6+5))=some (.bool false):=V;have f5:u.drew.frozen? (aD m (at_*6+5))=false:=(ZJ M.o).2.2.2.1 _;go_simp;refine F.out _ _ (Zu.done (by kernel_rfl) ?_ _);clear F K j hS e5 f5;refine Qv _ fun L s=> ?_
      obtain⟨J,am⟩: ∃ J:Bool,J=x.Zq:=⟨_,rfl⟩
      have ac:Hid (ZS [53] u L):=hid (by rw [s];exact(ZS.Zx (ZJ M.o).2.2.1 (by simp) _).trans (ZS.drew _));have ai:Hid (Below m u L):=hid (by rw [s];exact((Below.refl m u).setCell (p:=(aD m (at_*6+5))) lr _).drew);have U:Hid (L.ownsRow aw.heap.size 53 6 (.slice (some ⟨m,0,none⟩) c.Z4.length d.k4) c.Z4.length ((c.Z4.set at_ { c.Z4[at_] with Zq:=J}).flatMap Gr.cs)):=hid (by
       rw [s,am];have h1:=XG M.o (i:=at_*6+5) (by rw [Zm Gr.k];omega) (.bool (x.Zq))
       rw [X7 Gr.k c.Z4 at_ 5 ap (by omega) (.bool (x.Zq)) { c.Z4[at_] with Zq:=x.Zq} rfl] at h1;exact XX h1)
      clear s am;have a6:aw.heap.size<=m:=af.1;have Z:=hid (ab.out.keeps ac.out (by decide));have QF:=hid (aF.out.below ai.out (by omega));have an:=hid (ae.out.trans (ai.out.mono (by omega)));have O:(c.Z4.set at_ { c.Z4[at_] with Zq:=J}).length=c.Z4.length:=List.length_set;generalize c.Z4.set at_ { c.Z4[at_] with Zq:=J} =l' at*;have au:=hid U.out;rw [<-O] at Z au;have N:=hid O;clear O;go_wp2_with (first | (with_reducible refine Zs rfl 33 _ rfl (C.heap.size) rfl Z (n:=7) rfl underlying33 rfl E ?_) | ((with_reducible refine Zv rfl 33 _ _ rfl (w.heap.size+2) [.int .i64 c.ZO,.int .i64 c.ZR,.slice d.a0 c.ob.Z7.length d.k0,.slice d.a1 c.ob.Z8.length d.k1,.slice d.a2 c.ro.ZU.length d.k2,.slice d.a3 c.ro.ZY.length d.k3,.slice (some ⟨m,0,none⟩) l'.length d.k4] rfl rfl QF (n:=7) rfl rfl E (by simp [Value.oneCell']) ?_);intro wS D) | fail);refine bodyPost_ret (Zr rfl _ _ (w.heap.size+2) rfl (hid D.out.YK) (n:=7) rfl underlying33 rfl E) rfl ?_
      have F:=D.out.keeps;have aV:=(ad.o.sc)
      have G:=(ad.o.keeps ac.out (by decide)).keeps F (by decide);refine⟨⟨c.ZO,c.ZR,c.ob,c.ro,l'⟩,⟨d.a0,d.k0,d.a1,d.k1,d.a2,d.k2,d.a3,d.k3,some ⟨m,0,none⟩,d.k4⟩,0,rfl,Qn.Gg (c:=⟨c.ZO,c.ZR,c.ob,c.ro,l'⟩) ⟨G.sc,G.tb,G.nm,G.mb⟩ ?_,D.out.below an.o (by omega),fun _=>⟨rfl,rfl,rfl,rfl,by have:=N.o;show l'.length<=_;omega⟩⟩
      exact ZI (Xn (us:=CT) (by rw [N.o];exact U.out)) F (by decide)
     ·have hS:u.drew.cell? (aD C.heap.size 6)=some (.slice (some ⟨m,0,none⟩) c.Z4.length d.k4)/\u.drew.cell? (aD m (at_*6+5))=some (.bool true)/\u.drew.cell? (aD (w.heap.size+1) 5)=some (.bool x.Zq):=⟨ab.out.cell 6,V,aC.o.cell 5⟩
      refine Zp 15 (S:=fun w'=>w'.cell? (aD C.heap.size 6)=some (.slice (some ⟨m,0,none⟩) c.Z4.length d.k4)/\w'.cell? (aD m (at_*6+5))=some (.bool true)/\w'.cell? (aD (w.heap.size+1) 5)=some (.bool x.Zq)) (by kernel_rfl) hS (fun j=> ?_)
      (try simp only [pp]);refine YU 0 106 j ?_;refine YU 1 107 j ?_;refine YU 2 108 j ?_;refine YU 3 109 j ?_;refine YU 4 110 j ?_;refine YU 5 111 j ?_;refine YU 6 112 j ?_;refine YU 7 113 j ?_;refine YU 8 114 j ?_;refine Zu.take (i:=9) (oi:=⟨some 115,_,_,_,_,_⟩) (v:= .bool true) rfl (by kernel_rfl) (by kernel_rfl) (by kernel_rfl) (by kernel_rfl) (fun _ _ _ h=>h) (Or.inl ⟨by rfl,?_⟩) j ?_
      ·intro w ax;(try dsimp only at ax)
       go_simp
       all_goals (try omega)
      (try simp only [pp]);refine Zu.take (i:=10) (oi:=⟨some 116,_,_,_,_,_⟩) (v:=undef) rfl (by kernel_rfl) (by kernel_rfl) (by kernel_rfl) (by kernel_rfl) (fun _ _ _ h=>h) (Or.inr ⟨by rfl,rfl⟩) j ?_
      (try simp only [pp]);refine Zu.take (i:=11) (oi:=⟨some 117,_,_,_,_,_⟩) (v:=undef) rfl (by kernel_rfl) (by kernel_rfl) (by kernel_rfl) (by kernel_rfl) (fun _ _ _ h=>h) (Or.inr ⟨by rfl,rfl⟩) j ?_
      (try simp only [pp]);refine YU 12 118 j ?_;refine TU 13 119 (fun _=>j) ?_;refine YU 14 120 j ?_;refine Zu.WR (i:=15) (o:=⟨none,_,_,_,_,_⟩) (by kernel_rfl) (by kernel_rfl) rfl (fun K F=> ?_)
      have e5:u.drew.cell? (aD m (at_*6+5))=some (.bool true):=V;have f5:u.drew.frozen? (aD m (at_*6+5))=false:=(ZJ M.o).2.2.2.1 _;go_simp;refine F.out _ _ (Zu.done (by kernel_rfl) ?_ _);clear F K j hS e5 f5;refine Qv _ fun L s=> ?_
      obtain⟨J,am⟩: ∃ J:Bool,J=true:=⟨_,rfl⟩
      have ac:Hid (ZS [53] u L):=hid (by rw [s];exact(ZS.Zx (ZJ M.o).2.2.1 (by simp) _).trans (ZS.drew _));have ai:Hid (Below m u L):=hid (by rw [s];exact((Below.refl m u).setCell (p:=(aD m (at_*6+5))) lr _).drew);have U:Hid (L.ownsRow aw.heap.size 53 6 (.slice (some ⟨m,0,none⟩) c.Z4.length d.k4) c.Z4.length ((c.Z4.set at_ { c.Z4[at_] with Zq:=J}).flatMap Gr.cs)):=hid (by
       rw [s,am];have h1:=XG M.o (i:=at_*6+5) (by rw [Zm Gr.k];omega) (.bool (true))
       rw [X7 Gr.k c.Z4 at_ 5 ap (by omega) (.bool (true)) { c.Z4[at_] with Zq:=true} rfl] at h1;exact XX h1)
      clear s am;have a6:aw.heap.size<=m:=af.1;have Z:=hid (ab.out.keeps ac.out (by decide));have QF:=hid (aF.out.below ai.out (by omega));have an:=hid (ae.out.trans (ai.out.mono (by omega)));have O:(c.Z4.set at_ { c.Z4[at_] with Zq:=J}).length=c.Z4.length:=List.length_set;generalize c.Z4.set at_ { c.Z4[at_] with Zq:=J} =l' at*;have au:=hid U.out;rw [<-O] at Z au;have N:=hid O;clear O;go_wp2_with (first | (with_reducible refine Zs rfl 33 _ rfl (C.heap.size) rfl Z (n:=7) rfl underlying33 rfl E ?_) | ((with_reducible refine Zv rfl 33 _ _ rfl (w.heap.size+2) [.int .i64 c.ZO,.int .i64 c.ZR,.slice d.a0 c.ob.Z7.length d.k0,.slice d.a1 c.ob.Z8.length d.k1,.slice d.a2 c.ro.ZU.length d.k2,.slice d.a3 c.ro.ZY.length d.k3,.slice (some ⟨m,0,none⟩) l'.length d.k4] rfl rfl QF (n:=7) rfl rfl E (by simp [Value.oneCell']) ?_);intro wS D) | fail);refine bodyPost_ret (Zr rfl _ _ (w.heap.size+2) rfl (hid D.out.YK) (n:=7) rfl underlying33 rfl E) rfl ?_
      have F:=D.out.keeps;have aV:=(ad.o.sc)
      have G:=(ad.o.keeps ac.out (by decide)).keeps F (by decide);refine⟨⟨c.ZO,c.ZR,c.ob,c.ro,l'⟩,⟨d.a0,d.k0,d.a1,d.k1,d.a2,d.k2,d.a3,d.k3,some ⟨m,0,none⟩,d.k4⟩,0,rfl,Qn.Gg (c:=⟨c.ZO,c.ZR,c.ob,c.ro,l'⟩) ⟨G.sc,G.tb,G.nm,G.mb⟩ ?_,D.out.below an.o (by omega),fun _=>⟨rfl,rfl,rfl,rfl,by have:=N.o;show l'.length<=_;omega⟩⟩
      exact ZI (Xn (us:=CT) (by rw [N.o];exact U.out)) F (by decide)
   ·have h1: ¬ (c.Z4.length:Int)>=64:=by omega
    have h2: ¬ (64:Int)<=(c.Z4.length:Int):=by omega
    cases laid
    ·go_wp2_with (first | (with_reducible refine Zs rfl 33 _ rfl (w.heap.size) rfl aR (n:=7) rfl underlying33 rfl E ?_) | fail);have ak:=UE c A aw (HC.o.later ag.o) HT.o (Yl av.o).2.1;unfold Ca.cs at ak;refine ak.mono ?_
     rintro e C ⟨d,rfl,hT,ho,hb⟩;have a7:=ag.o.size;have ba:=hb.size;have aa:=bt ag hb;have aA:=bl aM hb;have az:=bl aL hb;have aj:=hid hT;have T:=hid ho;have aI:=aM.o.lt;have aJ:=aL.o.lt;clear ak hT ho hb q6;have aB:Hid (ZP (C.alloc (.cells #[.int .i64 c.ZO,.int .i64 c.ZR,.slice d.a0 c.ob.Z7.length d.k0,.slice d.a1 c.ob.Z8.length d.k1,.slice d.a2 c.ro.ZU.length d.k2,.slice d.a3 c.ro.ZY.length d.k3,.slice d.a4 c.Z4.length d.k4] 33)) (w.heap.size+1) 53 [sT x.Z9,sT x.ZZ,i6 x.right,sT x.ZM,sT x.to,.bool x.Zq]):=hid (aA.o.alloc _);go_wp2_with (first | (with_reducible refine Zs rfl 53 _ rfl (w.heap.size+1) rfl aB (n:=6) rfl underlying53 rfl bo ?_) | fail);refine Zi _ fun u s=> ?_
     have aE:=bQ s;have ab:=nD s;have XB:=nF s;clear s aB;have bg:=fun g (hg:d.a4=some (aD g 0))=>YB T.o (k:=g) (by rw [hg];rfl)
     refine(RU aw.heap.size c.Z4 d.a4 d.k4 at_ x (C.heap.size+1) u (T.o.ZC aE.o) bf XB.o (fun g hg e=>by have:=bg g hg;omega) bi (Nat.le_trans ba aE.o.size)).mono ?_
     rintro e L ⟨A5,c5,rfl,ho,hb,hk⟩;have aS:=hid ((aa.o.trans (aE.o.mono aa.o.size)).trans (hb.mono a7));have ao:=hid (ab.out.keeps hk (by decide));have bu:=hid ((az.o.below aE.o az.o.lt).below hb aK);have aU:=hid ((aj.o.later aE.o).keeps hk (by decide));have U:=hid ho;have bz:w.heap.size+2<C.heap.size:=by omega
     clear ho hb hk bg XB ab;have e6:=ce ao 6;have f6:=ao.o.frozen 6;have Z:Hid (ZP (L.setCell (aD C.heap.size 6) (.slice A5 (c.Z4.length+1) c5)) C.heap.size 33 [.int .i64 c.ZO,.int .i64 c.ZR,.slice d.a0 c.ob.Z7.length d.k0,.slice d.a1 c.ob.Z8.length d.k1,.slice d.a2 c.ro.ZU.length d.k2,.slice d.a3 c.ro.ZY.length d.k3,.slice A5 (c.Z4.length+1) c5]):=hid (ao.o.Zx 6 _);have QF:Hid (ZP (L.setCell (aD C.heap.size 6) (.slice A5 (c.Z4.length+1) c5)) (w.heap.size+2) 33 [i6 0,i6 0,.slice none 0 0,.slice none 0 0,.slice none 0 0,.slice none 0 0,.slice none 0 0]):=hid (bu.o.WT (by show _≠C.heap.size;omega) _)
     have an:Hid (Below w.heap.size w (L.setCell (aD C.heap.size 6) (.slice A5 (c.Z4.length+1) c5))):=hid (aS.o.setCell (by show w.heap.size<=C.heap.size;omega) _);have bp:Hid (ZS [33] L (L.setCell (aD C.heap.size 6) (.slice A5 (c.Z4.length+1) c5))):=hid (ZS.Zx ao.o.Xr (by simp) _);have N:Hid ((c.Z4.take at_ ++x ::c.Z4.drop at_).length=c.Z4.length+1):=hid (by simp only [List.length_append,List.length_take,List.length_cons,List.length_drop];omega)
     go_wp2_with (first | (with_reducible refine Zs rfl 33 _ rfl (C.heap.size) rfl Z (n:=7) rfl underlying33 rfl E ?_) | ((with_reducible refine Zv rfl 33 _ _ rfl (w.heap.size+2) [.int .i64 c.ZO,.int .i64 c.ZR,.slice d.a0 c.ob.Z7.length d.k0,.slice d.a1 c.ob.Z8.length d.k1,.slice d.a2 c.ro.ZU.length d.k2,.slice d.a3 c.ro.ZY.length d.k3,.slice A5 (c.Z4.length+1) c5] rfl rfl QF (n:=7) rfl rfl E (by simp [Value.oneCell']) ?_);intro wS D) | fail);refine bodyPost_ret (Zr rfl _ _ (w.heap.size+2) rfl (hid D.out.YK) (n:=7) rfl underlying33 rfl E) rfl ?_
     have F:=bp.o.trans D.out.keeps;have G:=aU.o.keeps F (by decide);generalize hl':c.Z4.take at_ ++x ::c.Z4.drop at_=l' at*;refine⟨⟨c.ZO,c.ZR,c.ob,c.ro,l'⟩,⟨d.a0,d.k0,d.a1,d.k1,d.a2,d.k2,d.a3,d.k3,A5,c5⟩,0,by simp [Ca.cs,N.o],Qn.Gg (c:=⟨c.ZO,c.ZR,c.ob,c.ro,l'⟩) ⟨G.sc,G.tb,G.nm,G.mb⟩ ?_,D.out.below an.o (by omega),fun _=>⟨rfl,rfl,rfl,rfl,by have:=N.o;show l'.length<=_;omega⟩⟩
     exact ZI (Xn (us:=CT) (by rw [N.o];exact U.out)) F (by decide)
    ·go_wp2_with (first | (with_reducible refine Zs rfl 33 _ rfl (w.heap.size) rfl aR (n:=7) rfl underlying33 rfl E ?_) | fail);have ak:=UE c A aw (HC.o.later ag.o) HT.o (Yl av.o).2.1;unfold Ca.cs at ak;refine ak.mono ?_
     rintro e C ⟨d,rfl,hT,ho,hb⟩;have a7:=ag.o.size;have ba:=hb.size;have aa:=bt ag hb;have aA:=bl aM hb;have az:=bl aL hb;have aj:=hid hT;have T:=hid ho;have aI:=aM.o.lt;have aJ:=aL.o.lt;clear ak hT ho hb q6;have ap:=aO.o (by trivial);obtain⟨m,aG⟩:=Xi T.o (by omega);have ar:Hid (ZP (C.alloc (.cells #[.int .i64 c.ZO,.int .i64 c.ZR,.slice d.a0 c.ob.Z7.length d.k0,.slice d.a1 c.ob.Z8.length d.k1,.slice d.a2 c.ro.ZU.length d.k2,.slice d.a3 c.ro.ZY.length d.k3,.slice d.a4 c.Z4.length d.k4] 33)) C.heap.size 33 [.int .i64 c.ZO,.int .i64 c.ZR,.slice d.a0 c.ob.Z7.length d.k0,.slice d.a1 c.ob.Z8.length d.k1,.slice d.a2 c.ro.ZU.length d.k2,.slice d.a3 c.ro.ZY.length d.k3,.slice d.a4 c.Z4.length d.k4]):=hid (ZP.new C _ _);rw [aG] at T ar;have af:=ZJ T.o;have V:=(ZJ T.o).2.2.2.2 (at_*6+5) (.bool c.Z4[at_].Zq) (by rw [Zl Gr.k c.Z4 at_ 5 ap (by omega)];rfl)
     have aH:=af.2.1;have aq:Hid (Below w.heap.size w (C.alloc (.cells #[.int .i64 c.ZO,.int .i64 c.ZR,.slice d.a0 c.ob.Z7.length d.k0,.slice d.a1 c.ob.Z8.length d.k1,.slice d.a2 c.ro.ZU.length d.k2,.slice d.a3 c.ro.ZY.length d.k3,.slice d.a4 c.Z4.length d.k4] 33))):=hid (aa.o.alloc aa.o.size _);have aX:(0:Int)<=(at_:Int):=by omega
     have aY:(at_:Int)< (c.Z4.length:Int):=by omega
     have aZ:((at_:Int)).toNat=at_:=by omega
     go_wp2_with fail;(try rw [aG])
     refine Wh _ fun u s=> ?_
     have ab:=rB s ar.o;have aC:=rB s (aA.o.alloc _);have aF:=rB s (az.o.alloc _);have ad:Hid (Qn u c d):=hid (by rw [s];exact aj.o.later (br.alloc lr _));have M:Hid (u.ownsRow aw.heap.size 53 6 (.slice (some ⟨m,0,none⟩) c.Z4.length d.k4) c.Z4.length (c.Z4.flatMap Gr.cs)):=hid (by rw [s];exact T.o.ZC (br.alloc lr _));have ae:=rL s (aa.o.alloc aa.o.size _);clear s aq ar V;have V:=(ZJ M.o).2.2.2.2 (at_*6+5) (.bool c.Z4[at_].Zq) (by rw [Zl Gr.k c.Z4 at_ 5 ap (by omega)];rfl)
     generalize hop:c.Z4[at_].Zq=op at*
     cases op
     ·have hS:u.drew.cell? (aD C.heap.size 6)=some (.slice (some ⟨m,0,none⟩) c.Z4.length d.k4)/\u.drew.cell? (aD m (at_*6+5))=some (.bool false)/\u.drew.cell? (aD (w.heap.size+1) 5)=some (.bool x.Zq):=⟨ab.out.cell 6,V,aC.o.cell 5⟩
      refine Zp 15 (S:=fun w'=>w'.cell? (aD C.heap.size 6)=some (.slice (some ⟨m,0,none⟩) c.Z4.length d.k4)/\w'.cell? (aD m (at_*6+5))=some (.bool false)/\w'.cell? (aD (w.heap.size+1) 5)=some (.bool x.Zq)) (by kernel_rfl) hS (fun j=> ?_)
      (try simp only [pp]);refine YU 0 106 j ?_;refine YU 1 107 j ?_;refine YU 2 108 j ?_;refine YU 3 109 j ?_;refine YU 4 110 j ?_;refine YU 5 111 j ?_;refine YU 6 112 j ?_;refine YU 7 113 j ?_;refine YU 8 114 j ?_;refine Zu.take (i:=9) (oi:=⟨some 115,_,_,_,_,_⟩) (v:= .bool false) rfl (by kernel_rfl) (by kernel_rfl) (by kernel_rfl) (by kernel_rfl) (fun _ _ _ h=>h) (Or.inl ⟨by rfl,?_⟩) j ?_
      ·intro w ax;(try dsimp only at ax)
       go_simp
       all_goals (try omega)
      (try simp only [pp]);refine YU 10 116 j ?_;refine YU 11 117 j ?_;refine YU 12 118 j ?_;refine TU 13 119 (fun _=>j) ?_;refine YU 14 120 j ?_;refine Zu.WR (i:=15) (o:=⟨none,_,_,_,_,_⟩) (by kernel_rfl) (by kernel_rfl) rfl (fun K F=> ?_)
      have e5:u.drew.cell? (aD m (at_*6+5))=some (.bool false):=V;have f5:u.drew.frozen? (aD m (at_*6+5))=false:=(ZJ M.o).2.2.2.1 _;go_simp;refine F.out _ _ (Zu.done (by kernel_rfl) ?_ _);clear F K j hS e5 f5;refine Qv _ fun L s=> ?_
      obtain⟨J,am⟩: ∃ J:Bool,J=x.Zq:=⟨_,rfl⟩
      have ac:Hid (ZS [53] u L):=hid (by rw [s];exact(ZS.Zx (ZJ M.o).2.2.1 (by simp) _).trans (ZS.drew _));have ai:Hid (Below m u L):=hid (by rw [s];exact((Below.refl m u).setCell (p:=(aD m (at_*6+5))) lr _).drew);have U:Hid (L.ownsRow aw.heap.size 53 6 (.slice (some ⟨m,0,none⟩) c.Z4.length d.k4) c.Z4.length ((c.Z4.set at_ { c.Z4[at_] with Zq:=J}).flatMap Gr.cs)):=hid (by
       rw [s,am];have h1:=XG M.o (i:=at_*6+5) (by rw [Zm Gr.k];omega) (.bool (x.Zq))
       rw [X7 Gr.k c.Z4 at_ 5 ap (by omega) (.bool (x.Zq)) { c.Z4[at_] with Zq:=x.Zq} rfl] at h1;exact XX h1)
      clear s am;have a6:aw.heap.size<=m:=af.1;have Z:=hid (ab.out.keeps ac.out (by decide));have QF:=hid (aF.out.below ai.out (by omega));have an:=hid (ae.out.trans (ai.out.mono (by omega)));have O:(c.Z4.set at_ { c.Z4[at_] with Zq:=J}).length=c.Z4.length:=List.length_set;generalize c.Z4.set at_ { c.Z4[at_] with Zq:=J} =l' at*;have au:=hid U.out;rw [<-O] at Z au;have N:=hid O;clear O;go_wp2_with (first | (with_reducible refine Zs rfl 33 _ rfl (C.heap.size) rfl Z (n:=7) rfl underlying33 rfl E ?_) | ((with_reducible refine Zv rfl 33 _ _ rfl (w.heap.size+2) [.int .i64 c.ZO,.int .i64 c.ZR,.slice d.a0 c.ob.Z7.length d.k0,.slice d.a1 c.ob.Z8.length d.k1,.slice d.a2 c.ro.ZU.length d.k2,.slice d.a3 c.ro.ZY.length d.k3,.slice (some ⟨m,0,none⟩) l'.length d.k4] rfl rfl QF (n:=7) rfl rfl E (by simp [Value.oneCell']) ?_);intro wS D) | fail);refine bodyPost_ret (Zr rfl _ _ (w.heap.size+2) rfl (hid D.out.YK) (n:=7) rfl underlying33 rfl E) rfl ?_
      have F:=D.out.keeps;have aV:=(ad.o.sc)
      have G:=(ad.o.keeps ac.out (by decide)).keeps F (by decide);refine⟨⟨c.ZO,c.ZR,c.ob,c.ro,l'⟩,⟨d.a0,d.k0,d.a1,d.k1,d.a2,d.k2,d.a3,d.k3,some ⟨m,0,none⟩,d.k4⟩,0,rfl,Qn.Gg (c:=⟨c.ZO,c.ZR,c.ob,c.ro,l'⟩) ⟨G.sc,G.tb,G.nm,G.mb⟩ ?_,D.out.below an.o (by omega),fun _=>⟨rfl,rfl,rfl,rfl,by have:=N.o;show l'.length<=_;omega⟩⟩
      exact ZI (Xn (us:=CT) (by rw [N.o];exact U.out)) F (by decide)
     ·have hS:u.drew.cell? (aD C.heap.size 6)=some (.slice (some ⟨m,0,none⟩) c.Z4.length d.k4)/\u.drew.cell? (aD m (at_*6+5))=some (.bool true)/\u.drew.cell? (aD (w.heap.size+1) 5)=some (.bool x.Zq):=⟨ab.out.cell 6,V,aC.o.cell 5⟩
      refine Zp 15 (S:=fun w'=>w'.cell? (aD C.heap.size 6)=some (.slice (some ⟨m,0,none⟩) c.Z4.length d.k4)/\w'.cell? (aD m (at_*6+5))=some (.bool true)/\w'.cell? (aD (w.heap.size+1) 5)=some (.bool x.Zq)) (by kernel_rfl) hS (fun j=> ?_)
      (try simp only [pp]);refine YU 0 106 j ?_;refine YU 1 107 j ?_;refine YU 2 108 j ?_;refine YU 3 109 j ?_;refine YU 4 110 j ?_;refine YU 5 111 j ?_;refine YU 6 112 j ?_;refine YU 7 113 j ?_;refine YU 8 114 j ?_;refine Zu.take (i:=9) (oi:=⟨some 115,_,_,_,_,_⟩) (v:= .bool true) rfl (by kernel_rfl) (by kernel_rfl) (by kernel_rfl) (by kernel_rfl) (fun _ _ _ h=>h) (Or.inl ⟨by rfl,?_⟩) j ?_
      ·intro w ax;(try dsimp only at ax)
       go_simp
       all_goals (try omega)
      (try simp only [pp]);refine Zu.take (i:=10) (oi:=⟨some 116,_,_,_,_,_⟩) (v:=undef) rfl (by kernel_rfl) (by kernel_rfl) (by kernel_rfl) (by kernel_rfl) (fun _ _ _ h=>h) (Or.inr ⟨by rfl,rfl⟩) j ?_
      (try simp only [pp]);refine Zu.take (i:=11) (oi:=⟨some 117,_,_,_,_,_⟩) (v:=undef) rfl (by kernel_rfl) (by kernel_rfl) (by kernel_rfl) (by kernel_rfl) (fun _ _ _ h=>h) (Or.inr ⟨by rfl,rfl⟩) j ?_
      (try simp only [pp]);refine YU 12 118 j ?_;refine TU 13 119 (fun _=>j) ?_;refine YU 14 120 j ?_;refine Zu.WR (i:=15) (o:=⟨none,_,_,_,_,_⟩) (by kernel_rfl) (by kernel_rfl) rfl (fun K F=> ?_)
      have e5:u.drew.cell? (aD m (at_*6+5))=some (.bool true):=V;have f5:u.drew.frozen? (aD m (at_*6+5))=false:=(ZJ M.o).2.2.2.1 _;go_simp;refine F.out _ _ (Zu.done (by kernel_rfl) ?_ _);clear F K j hS e5 f5;refine Qv _ fun L s=> ?_
      obtain⟨J,am⟩: ∃ J:Bool,J=true:=⟨_,rfl⟩
      have ac:Hid (ZS [53] u L):=hid (by rw [s];exact(ZS.Zx (ZJ M.o).2.2.1 (by simp) _).trans (ZS.drew _));have ai:Hid (Below m u L):=hid (by rw [s];exact((Below.refl m u).setCell (p:=(aD m (at_*6+5))) lr _).drew);have U:Hid (L.ownsRow aw.heap.size 53 6 (.slice (some ⟨m,0,none⟩) c.Z4.length d.k4) c.Z4.length ((c.Z4.set at_ { c.Z4[at_] with Zq:=J}).flatMap Gr.cs)):=hid (by
       rw [s,am];have h1:=XG M.o (i:=at_*6+5) (by rw [Zm Gr.k];omega) (.bool (true))
       rw [X7 Gr.k c.Z4 at_ 5 ap (by omega) (.bool (true)) { c.Z4[at_] with Zq:=true} rfl] at h1;exact XX h1)
      clear s am;have a6:aw.heap.size<=m:=af.1;have Z:=hid (ab.out.keeps ac.out (by decide));have QF:=hid (aF.out.below ai.out (by omega));have an:=hid (ae.out.trans (ai.out.mono (by omega)));have O:(c.Z4.set at_ { c.Z4[at_] with Zq:=J}).length=c.Z4.length:=List.length_set;generalize c.Z4.set at_ { c.Z4[at_] with Zq:=J} =l' at*;have au:=hid U.out;rw [<-O] at Z au;have N:=hid O;clear O;go_wp2_with (first | (with_reducible refine Zs rfl 33 _ rfl (C.heap.size) rfl Z (n:=7) rfl underlying33 rfl E ?_) | ((with_reducible refine Zv rfl 33 _ _ rfl (w.heap.size+2) [.int .i64 c.ZO,.int .i64 c.ZR,.slice d.a0 c.ob.Z7.length d.k0,.slice d.a1 c.ob.Z8.length d.k1,.slice d.a2 c.ro.ZU.length d.k2,.slice d.a3 c.ro.ZY.length d.k3,.slice (some ⟨m,0,none⟩) l'.length d.k4] rfl rfl QF (n:=7) rfl rfl E (by simp [Value.oneCell']) ?_);intro wS D) | fail);refine bodyPost_ret (Zr rfl _ _ (w.heap.size+2) rfl (hid D.out.YK) (n:=7) rfl underlying33 rfl E) rfl ?_
      have F:=D.out.keeps;have aV:=(ad.o.sc)
      have G:=(ad.o.keeps ac.out (by decide)).keeps F (by decide);refine⟨⟨c.ZO,c.ZR,c.ob,c.ro,l'⟩,⟨d.a0,d.k0,d.a1,d.k1,d.a2,d.k2,d.a3,d.k3,some ⟨m,0,none⟩,d.k4⟩,0,rfl,Qn.Gg (c:=⟨c.ZO,c.ZR,c.ob,c.ro,l'⟩) ⟨G.sc,G.tb,G.nm,G.mb⟩ ?_,D.out.below an.o (by omega),fun _=>⟨rfl,rfl,rfl,rfl,by have:=N.o;show l'.length<=_;omega⟩⟩
      exact ZI (Xn (us:=CT) (by rw [N.o];exact U.out)) F (by decide)
end Go.Proofs.YtnhmoibjlakhjaaGreat
