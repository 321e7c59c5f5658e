/- Lemmas of the proof. No condition but each theorem's own. -/
import Derived.Test.YtnhmoibjlakhjaaGreatR34
import Derived.Test.YtnhmoibjlakhjaaGreatR03
import Derived.Test.YtnhmoibjlakhjaaGreatR10
import Derived.Test.YtnhmoibjlakhjaaGreatR18
set_option linter.unusedVariables false
set_option linter.unusedSimpArgs false
namespace Go.Proofs.YtnhmoibjlakhjaaGreat
open Lib (hid)
set_option maxRecDepth 100000
set_option maxHeartbeats 16000000
open Go.RowKit
structure Oc (w W:World) (q:Nat) (xs ss us:List Value):Prop where
 cm:ZP W w.heap.size 43 xs
 tx:ZP W q 130 ss
 fl:ZP W (q+1) 131 us
 SR:Below w.heap.size w W
theorem Oc.drewN {w W:World}{q:Nat}{xs ss us:List Value}(h:Oc w W q xs ss us)(m:Nat):Oc w (W.drewN m) q xs ss us:=⟨h.cm.drewN m,h.tx.drewN m,h.fl.drewN m,below_drewN h.SR m⟩
theorem Oc.new {w W:World}{xs:List Value}(hb:Below w.heap.size w W)(hc:ZP W w.heap.size 43 xs)(ss us:List Value):Oc w ((W.alloc (.cells ss.toArray 130)).alloc (.cells us.toArray 131)) W.heap.size xs ss us:=by
 have s1:(W.alloc (.cells ss.toArray 130)).heap.size=W.heap.size+1:=by simp
 have hz:=hb.size;refine⟨(hc.alloc _).alloc _,(ZP.new W _ _).alloc _,?_,(hb.alloc hz _).alloc (by omega) _⟩
 have h:=ZP.new (W.alloc (.cells ss.toArray 130)) 131 us;rwa [s1] at h
def MT (b0 b1 b2 b3:Bool)(s0 s1 s2 s3:List UInt8)(j:Nat):Prop:=
 (0<j→Yt b0 s0=true)∧(1<j→Yt b1 s1=true)∧(2<j→Yt b2 s2=true)∧(3<j→Yt b3 s3=true)
theorem KS (x:Cm)(A:Option Addr)(k:Nat)(B:Option Addr)(n:Nat)(w:World)(ht:x.Zv 1099511627776):
  Calls Tryz.prog 29 #[.agg (x.cs A k B n).toArray] w fun e w'=>e= .returned (.bool (UV x))∧Below w.heap.size w w':=by
 have HT:=hid ht;have HI17:=iN 43 17;have HR:Hid (UV x=(XW x.ZQ && Zr x.ZM && Ri x && RE x)):=hid rfl;have HU:Hid (Ri x=(Yt (VS x.ZQ).1 x.Z8 && Yt (VS x.ZQ).2.1 x.ZY && Yt (VS x.ZQ).2.2.1 x.name && Yt (VS x.ZQ).2.2.2 x.ZT)):=hid rfl;have HE:Hid (RE x=if x.ZQ=3 then Ve x.ZZ && x.right == 0 && !x.Zz
 else if x.ZQ=5 then Ve x.ZZ && x.right == 0 && !x.Zz && x.ZX.length == 1
 else if x.ZQ=7 then x.ZX.length == 0 && x.right == 0 && !x.Zz
 else if x.ZQ=14∨x.ZQ=15 then(x.right == 1 || x.right == 2) && Ve x.ZZ && x.ZX.length == 0 && (x.ZQ == 14 || !x.Zz)
 else Ve x.ZZ && x.ZX.length == 0 && x.right == 0 && !x.Zz):=hid rfl
 have HB0:Hid (Below w.heap.size w (w.alloc (.cells #[.int .i64 x.ZQ,.string (Z9 x.ZM),.string (Z9 x.Z8),.string (Z9 x.ZY),.string (Z9 x.name),.string (Z9 x.ZT),.slice A x.ZX.length k,.string (Z9 x.ZZ.name),.int .i64 x.ZZ.ZQ,.slice B x.ZZ.ZX.length n,.int .i64 x.ZZ.low,.int .i64 x.ZZ.ZF,.string (Z9 x.ZZ.Z8),.string (Z9 x.ZZ.ZY),.string (Z9 x.ZZ.key),.int .i64 x.right,.bool x.Zz] 43))):=hid (br.alloc lr _);have P0:Hid (ZP (w.alloc (.cells #[.int .i64 x.ZQ,.string (Z9 x.ZM),.string (Z9 x.Z8),.string (Z9 x.ZY),.string (Z9 x.name),.string (Z9 x.ZT),.slice A x.ZX.length k,.string (Z9 x.ZZ.name),.int .i64 x.ZZ.ZQ,.slice B x.ZZ.ZX.length n,.int .i64 x.ZZ.low,.int .i64 x.ZZ.ZF,.string (Z9 x.ZZ.Z8),.string (Z9 x.ZZ.ZY),.string (Z9 x.ZZ.key),.int .i64 x.right,.bool x.Zz] 43)) w.heap.size 43 [.int .i64 x.ZQ,.string (Z9 x.ZM),.string (Z9 x.Z8),.string (Z9 x.ZY),.string (Z9 x.name),.string (Z9 x.ZT),.slice A x.ZX.length k,.string (Z9 x.ZZ.name),.int .i64 x.ZZ.ZQ,.slice B x.ZZ.ZX.length n,.int .i64 x.ZZ.low,.int .i64 x.ZZ.ZF,.string (Z9 x.ZZ.Z8),.string (Z9 x.ZZ.ZY),.string (Z9 x.ZZ.key),.int .i64 x.right,.bool x.Zz]):=hid (ZP.new w _ _);have cU:=KT x A k B n (w.alloc (.cells #[.int .i64 x.ZQ,.string (Z9 x.ZM),.string (Z9 x.Z8),.string (Z9 x.ZY),.string (Z9 x.name),.string (Z9 x.ZT),.slice A x.ZX.length k,.string (Z9 x.ZZ.name),.int .i64 x.ZZ.ZQ,.slice B x.ZZ.ZX.length n,.int .i64 x.ZZ.low,.int .i64 x.ZZ.ZF,.string (Z9 x.ZZ.Z8),.string (Z9 x.ZZ.ZY),.string (Z9 x.ZZ.key),.int .i64 x.right,.bool x.Zz] 43));have cB:=fun W=>LO x.ZZ B n W HT.out.2.2.2.2.2.2.1 HT.out.2.2.2.2.2.2.2
 generalize UV x=res at*;generalize RE x=me at*;generalize Ri x=uo at*;generalize Ve x.ZZ=br at*;unfold Cm.cs at cU ⊢;unfold Ru.cs at cB;unfold Nd WW at cU;generalize VS x.ZQ=uu at*;obtain⟨b0,b1,b2,b3⟩:=uu;dsimp only at cU HU;clear ht;generalize x.Z8=s0 at*;generalize x.ZY=s1 at*;generalize x.name=s2 at*;generalize x.ZT=s3 at*;go_enter Tryz.func29,Tryz.ntmps29
 go_wp2_with (first | (refine lO P0 HI17 Tryz.underlying43 ?_) | fail);refine cU.mono ?_
 rintro e W1 ⟨rfl,hb⟩;have HB1:=bt HB0 hb;have P1:=bl P0 hb;clear cU hb P0 HB0;have q1:=ce P1 1
 cases hok:XW x.ZQ
 ·have HR':Hid (res=false):=hid (by rw [HR.out,hok];rfl);rw [hok] at HR;clear hok HR;go_wp2;go_ret;refine⟨by rw [HR'.out];rfl,?_⟩
  exact(HB1.out.alloc HB1.out.size _).alloc (by have:=HB1.out.size;simp;omega) _
 rw [hok] at HR;clear hok;have hM:=Oc.new HB1.out P1.out [.string (Z9 s0),.string (Z9 s1),.string (Z9 s2),.string (Z9 s3)] [.bool b0,.bool b1,.bool b2,.bool b3];clear HB1 P1 q1;have q1:((W1.alloc (.cells #[.string (Z9 s0),.string (Z9 s1),.string (Z9 s2),.string (Z9 s3)] 130)).alloc (.cells #[.bool b0,.bool b1,.bool b2,.bool b3] 131)).cell? ⟨w.heap.size,1,none⟩=some (.string (Z9 x.ZM)):=hM.cm.cell 1;have HM:=hid hM;clear hM;go_wp2_with fail;generalize ((W1.alloc (.cells #[.string (Z9 s0),.string (Z9 s1),.string (Z9 s2),.string (Z9 s3)] 130)).alloc (.cells #[.bool b0,.bool b1,.bool b2,.bool b3] 131))=W2 at*;generalize W1.heap.size=q at*;refine(YL _ _).mono ?_
 rintro e W3 ⟨rfl,m1,rfl⟩;have HM3:=hid (HM.out.drewN m1);clear HM q1;generalize W2.drewN m1=W3 at*;clear W2
 cases hna:Zr x.ZM
 ·have HR':Hid (res=false):=hid (by rw [HR.out,hna];rfl);rw [hna] at HR;clear hna HR;go_wp2;go_ret;exact⟨by rw [HR'.out];rfl,HM3.out.SR⟩
 rw [hna] at HR;clear hna;have HS4:=iN 130 4;have HT3:=hid HM3.out.tx;go_wp2_with (first | (refine lO HT3 HS4 Tryz.underlying130 ?_) | fail);go_loopw [24] (fun i wr=> ∃ j:Nat,j≤4∧i= .int .i64 j∧Hid (MT b0 b1 b2 b3 s0 s1 s2 s3 j)∧Hid (Oc w wr q [.int .i64 x.ZQ,.string (Z9 x.ZM),.string (Z9 s0),.string (Z9 s1),.string (Z9 s2),.string (Z9 s3),.slice A x.ZX.length k,.string (Z9 x.ZZ.name),.int .i64 x.ZZ.ZQ,.slice B x.ZZ.ZX.length n,.int .i64 x.ZZ.low,.int .i64 x.ZZ.ZF,.string (Z9 x.ZZ.Z8),.string (Z9 x.ZZ.ZY),.string (Z9 x.ZZ.key),.int .i64 x.right,.bool x.Zz] [.string (Z9 s0),.string (Z9 s1),.string (Z9 s2),.string (Z9 s3)] [.bool b0,.bool b1,.bool b2,.bool b3])) (fun i _=>4 - (intOf i).toNat)
 case atStart=>exact⟨0,Nat.zero_le _,rfl,hid (by unfold MT;omega),HM3⟩
 case round=>
  obtain⟨j,hj,rfl,HF,HM⟩:=hrel;clear HT3 HM3;by_cases hlt:j<4
  ·have hq:(j=0∨j=1∨j=2)∨j=3:=by omega
   have f0:wr.cell? ⟨q+1,0,none⟩=some (.bool b0):=HM.out.fl.cell 0;have f1:wr.cell? ⟨q+1,1,none⟩=some (.bool b1):=HM.out.fl.cell 1;have f2:wr.cell? ⟨q+1,2,none⟩=some (.bool b2):=HM.out.fl.cell 2;have f3:wr.cell? ⟨q+1,3,none⟩=some (.bool b3):=HM.out.fl.cell 3;rcases hq with (rfl | rfl | rfl) | rfl
   ·have hix: ∀ W,(Instr.index 130 (.agg #[.string (Z9 s0),.string (Z9 s1),.string (Z9 s2),.string (Z9 s3)]) (.int .i64 0)).run Tryz.prog W= .ok (.string (Z9 s0)) W:=fun W=>by kernel_rfl
    have cN:=hid (fun W=>YL s0 W);have HMX:=HM
    cases b0
    ·cases s0 with
     | nil=>
      have hgood:Yt false []=true:=rfl;go_wp2;go_roundw
      case rel=>exact⟨1,by omega,by go_num,hid ⟨fun _=>hgood,fun h=>by omega,fun h=>by omega,fun h=>by omega⟩,HMX⟩
      case measure=>simp [intOf]
     | cons c cc=>
      have hbad:Yt false (c ::cc)=false:=rfl;go_wp2;have HR':Hid (res=false):=hid (by rw [HR.out,HU.out,hbad];simp)
      clear hbad HR;go_ret;exact⟨by rw [HR'.out];rfl,HMX.out.SR⟩
    ·cases s0 with
     | nil=>
      have hbad:Yt true []=false:=rfl;go_wp2;have HR':Hid (res=false):=hid (by rw [HR.out,HU.out,hbad];simp)
      clear hbad HR;go_ret;exact⟨by rw [HR'.out];rfl,HMX.out.SR⟩
     | cons c cc=>
      have hnb:Yt true (c ::cc)=Zr (c ::cc):=rfl;clear HMX;go_wp2_with fail;refine(cN.out _).mono ?_
      rintro e W5 ⟨rfl,m2,rfl⟩;have HMX:=hid (HM.out.drewN m2)
      cases hnn:Zr (c ::cc)
      ·have hbad:Yt true (c ::cc)=false:=hnb.trans hnn;clear cN hnn hnb;go_wp2;have HR':Hid (res=false):=hid (by rw [HR.out,HU.out,hbad];simp)
       clear hbad HR;go_ret;exact⟨by rw [HR'.out];rfl,HMX.out.SR⟩
      ·have hgood:Yt true (c ::cc)=true:=hnb.trans hnn;clear cN hnn hnb;go_wp2;go_roundw
       case rel=>exact⟨1,by omega,by go_num,hid ⟨fun _=>hgood,fun h=>by omega,fun h=>by omega,fun h=>by omega⟩,HMX⟩
       case measure=>simp [intOf]
   ·have hix: ∀ W,(Instr.index 130 (.agg #[.string (Z9 s0),.string (Z9 s1),.string (Z9 s2),.string (Z9 s3)]) (.int .i64 1)).run Tryz.prog W= .ok (.string (Z9 s1)) W:=fun W=>by kernel_rfl
    have cN:=hid (fun W=>YL s1 W);have HMX:=HM
    cases b1
    ·cases s1 with
     | nil=>
      have hgood:Yt false []=true:=rfl;go_wp2;go_roundw
      case rel=>exact⟨2,by omega,by go_num,hid ⟨HF.out.1∘(fun _=>by omega),fun _=>hgood,fun h=>by omega,fun h=>by omega⟩,HMX⟩
      case measure=>simp [intOf]
     | cons c cc=>
      have hbad:Yt false (c ::cc)=false:=rfl;go_wp2;have HR':Hid (res=false):=hid (by rw [HR.out,HU.out,hbad];simp)
      clear hbad HR;go_ret;exact⟨by rw [HR'.out];rfl,HMX.out.SR⟩
    ·cases s1 with
     | nil=>
      have hbad:Yt true []=false:=rfl;go_wp2;have HR':Hid (res=false):=hid (by rw [HR.out,HU.out,hbad];simp)
      clear hbad HR;go_ret;exact⟨by rw [HR'.out];rfl,HMX.out.SR⟩
     | cons c cc=>
      have hnb:Yt true (c ::cc)=Zr (c ::cc):=rfl;clear HMX;go_wp2_with fail;refine(cN.out _).mono ?_
      rintro e W5 ⟨rfl,m2,rfl⟩;have HMX:=hid (HM.out.drewN m2)
      cases hnn:Zr (c ::cc)
      ·have hbad:Yt true (c ::cc)=false:=hnb.trans hnn;clear cN hnn hnb;go_wp2;have HR':Hid (res=false):=hid (by rw [HR.out,HU.out,hbad];simp)
       clear hbad HR;go_ret;exact⟨by rw [HR'.out];rfl,HMX.out.SR⟩
      ·have hgood:Yt true (c ::cc)=true:=hnb.trans hnn;clear cN hnn hnb;go_wp2;go_roundw
       case rel=>exact⟨2,by omega,by go_num,hid ⟨HF.out.1∘(fun _=>by omega),fun _=>hgood,fun h=>by omega,fun h=>by omega⟩,HMX⟩
       case measure=>simp [intOf]
   ·have hix: ∀ W,(Instr.index 130 (.agg #[.string (Z9 s0),.string (Z9 s1),.string (Z9 s2),.string (Z9 s3)]) (.int .i64 2)).run Tryz.prog W= .ok (.string (Z9 s2)) W:=fun W=>by kernel_rfl
    have cN:=hid (fun W=>YL s2 W);have HMX:=HM
    cases b2
    ·cases s2 with
     | nil=>
      have hgood:Yt false []=true:=rfl;go_wp2;go_roundw
      case rel=>exact⟨3,by omega,by go_num,hid ⟨HF.out.1∘(fun _=>by omega),HF.out.2.1∘(fun _=>by omega),fun _=>hgood,fun h=>by omega⟩,HMX⟩
      case measure=>simp [intOf]
     | cons c cc=>
      have hbad:Yt false (c ::cc)=false:=rfl;go_wp2;have HR':Hid (res=false):=hid (by rw [HR.out,HU.out,hbad];simp)
      clear hbad HR;go_ret;exact⟨by rw [HR'.out];rfl,HMX.out.SR⟩
    ·cases s2 with
     | nil=>
      have hbad:Yt true []=false:=rfl;go_wp2;have HR':Hid (res=false):=hid (by rw [HR.out,HU.out,hbad];simp)
      clear hbad HR;go_ret;exact⟨by rw [HR'.out];rfl,HMX.out.SR⟩
     | cons c cc=>
      have hnb:Yt true (c ::cc)=Zr (c ::cc):=rfl;clear HMX;go_wp2_with fail;refine(cN.out _).mono ?_
      rintro e W5 ⟨rfl,m2,rfl⟩;have HMX:=hid (HM.out.drewN m2)
      cases hnn:Zr (c ::cc)
      ·have hbad:Yt true (c ::cc)=false:=hnb.trans hnn;clear cN hnn hnb;go_wp2;have HR':Hid (res=false):=hid (by rw [HR.out,HU.out,hbad];simp)
       clear hbad HR;go_ret;exact⟨by rw [HR'.out];rfl,HMX.out.SR⟩
      ·have hgood:Yt true (c ::cc)=true:=hnb.trans hnn;clear cN hnn hnb;go_wp2;go_roundw
       case rel=>exact⟨3,by omega,by go_num,hid ⟨HF.out.1∘(fun _=>by omega),HF.out.2.1∘(fun _=>by omega),fun _=>hgood,fun h=>by omega⟩,HMX⟩
       case measure=>simp [intOf]
   ·have hix: ∀ W,(Instr.index 130 (.agg #[.string (Z9 s0),.string (Z9 s1),.string (Z9 s2),.string (Z9 s3)]) (.int .i64 3)).run Tryz.prog W= .ok (.string (Z9 s3)) W:=fun W=>by kernel_rfl
    have cN:=hid (fun W=>YL s3 W);have HMX:=HM
    cases b3
    ·cases s3 with
     | nil=>
      have hgood:Yt false []=true:=rfl;go_wp2;go_roundw
      case rel=>exact⟨4,by omega,by go_num,hid ⟨HF.out.1∘(fun _=>by omega),HF.out.2.1∘(fun _=>by omega),HF.out.2.2.1∘(fun _=>by omega),fun _=>hgood⟩,HMX⟩
      case measure=>simp [intOf]
     | cons c cc=>
      have hbad:Yt false (c ::cc)=false:=rfl;go_wp2;have HR':Hid (res=false):=hid (by rw [HR.out,HU.out,hbad];simp)
      clear hbad HR;go_ret;exact⟨by rw [HR'.out];rfl,HMX.out.SR⟩
    ·cases s3 with
     | nil=>
      have hbad:Yt true []=false:=rfl;go_wp2;have HR':Hid (res=false):=hid (by rw [HR.out,HU.out,hbad];simp)
      clear hbad HR;go_ret;exact⟨by rw [HR'.out];rfl,HMX.out.SR⟩
     | cons c cc=>
      have hnb:Yt true (c ::cc)=Zr (c ::cc):=rfl;clear HMX;go_wp2_with fail;refine(cN.out _).mono ?_
      rintro e W5 ⟨rfl,m2,rfl⟩;have HMX:=hid (HM.out.drewN m2)
      cases hnn:Zr (c ::cc)
      ·have hbad:Yt true (c ::cc)=false:=hnb.trans hnn;clear cN hnn hnb;go_wp2;have HR':Hid (res=false):=hid (by rw [HR.out,HU.out,hbad];simp)
       clear hbad HR;go_ret;exact⟨by rw [HR'.out];rfl,HMX.out.SR⟩
      ·have hgood:Yt true (c ::cc)=true:=hnb.trans hnn;clear cN hnn hnb;go_wp2;go_roundw
       case rel=>exact⟨4,by omega,by go_num,hid ⟨HF.out.1∘(fun _=>by omega),HF.out.2.1∘(fun _=>by omega),HF.out.2.2.1∘(fun _=>by omega),fun _=>hgood⟩,HMX⟩
       case measure=>simp [intOf]
  ·obtain rfl:j=4:=by omega
   have HUo:Hid (uo=true):=hid (by rw [HU.out,HF.out.1 (by omega),HF.out.2.1 (by omega),HF.out.2.2.1 (by omega),HF.out.2.2.2 (by omega)];rfl);have HR':Hid (res=me):=hid (by rw [HR.out,HUo.out];simp)
   clear HR HU HUo HF hlt hj;have HP:=hid HM.out.cm;have HBw:=hid HM.out.SR;clear HM;have hl0:(x.ZX.length == 0)=((x.ZX.length:Int) == 0):=by rw [Bool.eq_iff_iff];simp
   have hl1:(x.ZX.length == 1)=((x.ZX.length:Int) == 1):=by rw [Bool.eq_iff_iff];simp;omega
   rw [hl0,hl1] at HE;clear hl0 hl1;generalize hk0:((x.ZX.length:Int) == 0)=l0 at*;generalize hk1:((x.ZX.length:Int) == 1)=l1 at*;generalize hr0:(x.right == 0)=r0 at*;generalize hr1:(x.right == 1)=r1 at*;generalize hr2:(x.right == 2)=r2 at*;generalize x.Zz=op at*;generalize x.ZQ=kk at*;have cellsOf: ∀ W,ZP W w.heap.size 43 [.int .i64 kk,.string (Z9 x.ZM),.string (Z9 s0),.string (Z9 s1),.string (Z9 s2),.string (Z9 s3),.slice A x.ZX.length k,.string (Z9 x.ZZ.name),.int .i64 x.ZZ.ZQ,.slice B x.ZZ.ZX.length n,.int .i64 x.ZZ.low,.int .i64 x.ZZ.ZF,.string (Z9 x.ZZ.Z8),.string (Z9 x.ZZ.ZY),.string (Z9 x.ZZ.key),.int .i64 x.right,.bool op]→W.cell? ⟨w.heap.size,0,none⟩=some (.int .i64 kk)∧W.cell? ⟨w.heap.size,6,none⟩=some (.slice A x.ZX.length k)∧W.cell? ⟨w.heap.size,15,none⟩=some (.int .i64 x.right)∧W.cell? ⟨w.heap.size,16,none⟩=some (.bool op):=fun W h=>⟨h.cell 0,h.cell 6,h.cell 15,h.cell 16⟩
   have CO:=hid cellsOf;have CB:=hid cB;clear cellsOf cB;obtain⟨q0,q6,q15,q16⟩:=CO.out _ HP.out;have p7:=ce HP 7;have p8:=ce HP 8;have p9:=ce HP 9;have p10:=ce HP 10;have p11:=ce HP 11;have p12:=ce HP 12;have p13:=ce HP 13;have p14:=ce HP 14;by_cases h3:kk=3
   ·subst h3;have HV:Hid (res=(br && r0 && !op)):=hid (by rw [HR'.out,HE.out];simp)
    clear HR' HE
    cases br <;> cases r0 <;> cases op
    all_goals (have HV':=HV.out;clear HV;subst HV')
    all_goals go_wp2_with fail
    all_goals first
     |(go_ret
       exact⟨rfl,HBw.out⟩)
     |(refine(CB.out _).mono ?_
       rintro e W6 ⟨rfl,hb⟩;have HB6:=bt HBw hb;obtain⟨q0',q6',q15',q16'⟩:=CO.out _ (HP.out.below hb HP.out.lt);clear hb q0 q6 q15 q16;go_wp2;go_ret;exact⟨rfl,HB6.out⟩)
   by_cases h5:kk=5
   ·subst h5;have HV:Hid (res=(br && r0 && !op && l1)):=hid (by rw [HR'.out,HE.out];simp)
    clear HR' HE
    cases br <;> cases r0 <;> cases op <;> cases l1
    all_goals (have HV':=HV.out;clear HV;subst HV')
    all_goals go_wp2_with fail
    all_goals first
     |(go_ret
       exact⟨rfl,HBw.out⟩)
     |(refine(CB.out _).mono ?_
       rintro e W6 ⟨rfl,hb⟩;have HB6:=bt HBw hb;obtain⟨q0',q6',q15',q16'⟩:=CO.out _ (HP.out.below hb HP.out.lt);clear hb q0 q6 q15 q16;go_wp2;go_ret;exact⟨rfl,HB6.out⟩)
   by_cases h7:kk=7
   ·subst h7;have HV:Hid (res=(l0 && r0 && !op)):=hid (by rw [HR'.out,HE.out];simp)
    clear HR' HE
    cases l0 <;> cases r0 <;> cases op
    all_goals (have HV':=HV.out;clear HV;subst HV')
    all_goals go_wp2_with fail
    all_goals first
     |(go_ret
       exact⟨rfl,HBw.out⟩)
     |(refine(CB.out _).mono ?_
       rintro e W6 ⟨rfl,hb⟩;have HB6:=bt HBw hb;obtain⟨q0',q6',q15',q16'⟩:=CO.out _ (HP.out.below hb HP.out.lt);clear hb q0 q6 q15 q16;go_wp2;go_ret;exact⟨rfl,HB6.out⟩)
   by_cases h14:kk=14
   ·subst h14;have HV:Hid (res=((r1 || r2) && br && l0 && (true || !op))):=hid (by rw [HR'.out,HE.out];simp)
    clear HR' HE
    cases r1 <;> cases r2 <;> cases br <;> cases l0
    all_goals (have HV':=HV.out;clear HV;subst HV')
    all_goals go_wp2_with fail
    all_goals first
     |(go_ret
       exact⟨rfl,HBw.out⟩)
     |(refine(CB.out _).mono ?_
       rintro e W6 ⟨rfl,hb⟩;have HB6:=bt HBw hb;obtain⟨q0',q6',q15',q16'⟩:=CO.out _ (HP.out.below hb HP.out.lt);clear hb q0 q6 q15 q16;go_wp2;go_ret;exact⟨rfl,HB6.out⟩)
   by_cases h15:kk=15
   ·subst h15;have HV:Hid (res=((r1 || r2) && br && l0 && (false || !op))):=hid (by rw [HR'.out,HE.out];simp)
    clear HR' HE
    cases r1 <;> cases r2 <;> cases br <;> cases l0 <;> cases op
    all_goals (have HV':=HV.out;clear HV;subst HV')
    all_goals go_wp2_with fail
    all_goals first
     |(go_ret
       exact⟨rfl,HBw.out⟩)
     |(refine(CB.out _).mono ?_
       rintro e W6 ⟨rfl,hb⟩;have HB6:=bt HBw hb;obtain⟨q0',q6',q15',q16'⟩:=CO.out _ (HP.out.below hb HP.out.lt);clear hb q0 q6 q15 q16;go_wp2;go_ret;exact⟨rfl,HB6.out⟩)
   have HV:Hid (res=(br && l0 && r0 && !op)):=hid (by rw [HR'.out,HE.out];simp [h3,h5,h7,h14,h15]);have g3:(kk == 3)=false:=by simpa using h3
   have g5:(kk == 5)=false:=by simpa using h5
   have g7:(kk == 7)=false:=by simpa using h7
   have g14:(kk == 14)=false:=by simpa using h14
   have g15:(kk == 15)=false:=by simpa using h15
   clear h3 h5 h7 h14 h15;clear HR' HE
   cases br <;> cases l0 <;> cases r0 <;> cases op
   all_goals (have HV':=HV.out;clear HV;subst HV')
   all_goals go_wp2_with fail
   all_goals first
    |(go_ret
      exact⟨rfl,HBw.out⟩)
    |(refine(CB.out _).mono ?_
      rintro e W6 ⟨rfl,hb⟩;have HB6:=bt HBw hb;obtain⟨q0',q6',q15',q16'⟩:=CO.out _ (HP.out.below hb HP.out.lt);clear hb q0 q6 q15 q16;go_wp2;go_ret;exact⟨rfl,HB6.out⟩)
theorem MB (s:Sc)(g:Nat)(t:List UInt8)(w:World)(hg:g<w.heap.size)(h:w.cell? ⟨g,2,none⟩=some (.string (Z9 t))):
  Calls Tryz.prog 32 #[.agg s.cs.toArray,.pointer (some ⟨g,0,none⟩)] w fun e w'=>e= .returned (.bool (s.name == t))∧Below w.heap.size w w':=by
 have HB0:Hid (Below w.heap.size w (w.alloc (.cells #[.string (Z9 s.name),.string (Z9 s.ZL)] 89))):=hid (br.alloc lr _);have h2:(w.alloc (.cells #[.string (Z9 s.name),.string (Z9 s.ZL)] 89)).cell? ⟨g,2,none⟩=some (.string (Z9 t)):=((HB0.out).cell (p:=⟨g,2,none⟩) hg).trans h;unfold Sc.cs;go_enter Tryz.func32,Tryz.ntmps32
 go_wp2;go_ret;exact⟨rfl,HB0.out⟩
theorem Pc (s:Sc)(g:Nat)(t:List UInt8)(w:World)(hg:g<w.heap.size)(h:w.cell? ⟨g,2,none⟩=some (.string (Z9 t))):
  Calls Tryz.prog 73 #[.agg s.cs.toArray,.pointer (some ⟨g,0,none⟩)] w fun e w'=>e= .returned (.bool (s.name == t))∧Below w.heap.size w w':=by
 have HB0:Hid (Below w.heap.size w (w.alloc (.cells #[.string (Z9 s.name),.string (Z9 s.ZL)] 89))):=hid (br.alloc lr _);have h2:(w.alloc (.cells #[.string (Z9 s.name),.string (Z9 s.ZL)] 89)).cell? ⟨g,2,none⟩=some (.string (Z9 t)):=((HB0.out).cell (p:=⟨g,2,none⟩) hg).trans h;unfold Sc.cs;go_enter Tryz.func73,Tryz.ntmps73
 go_wp2;go_ret;exact⟨rfl,HB0.out⟩
def Ca.new:Ca:=⟨0,0,⟨[],[]⟩,⟨[Yd],[]⟩,[]⟩
theorem MJ (w:World):Calls Tryz.prog 6 #[] w fun e w'=> ∃ A,e= .returned (.agg (Ca.new.cs A).toArray)∧Us w' Ca.new A∧Below w.heap.size w w':=by
 go_enter Tryz.func6,Tryz.ntmps6
 go_wp2;have s1:(w.alloc (.cells #[.int .i64 0,.int .i64 0,.slice none 0 0,.slice none 0 0,.slice (some ⟨w.heap.size+1,0,none⟩) 1 1,.slice none 0 0,.slice none 0 0] 33)).heap.size=w.heap.size+1:=by simp
 have B0:ZP ((w.alloc (.cells #[.int .i64 0,.int .i64 0,.slice none 0 0,.slice none 0 0,.slice (some ⟨w.heap.size+1,0,none⟩) 1 1,.slice none 0 0,.slice none 0 0] 33)).alloc (.cells #[.string ⟨#[114,111,111,116]⟩] 9)) w.heap.size 33 [.int .i64 0,.int .i64 0,.slice none 0 0,.slice none 0 0,.slice (some ⟨w.heap.size+1,0,none⟩) 1 1,.slice none 0 0,.slice none 0 0]:=(ZP.new w _ _).alloc _;have B1:ZP ((w.alloc (.cells #[.int .i64 0,.int .i64 0,.slice none 0 0,.slice none 0 0,.slice (some ⟨w.heap.size+1,0,none⟩) 1 1,.slice none 0 0,.slice none 0 0] 33)).alloc (.cells #[.string ⟨#[114,111,111,116]⟩] 9)) (w.heap.size+1) 9 [.string ⟨#[114,111,111,116]⟩]:=by
  have h:=ZP.new (w.alloc (.cells #[.int .i64 0,.int .i64 0,.slice none 0 0,.slice none 0 0,.slice (some ⟨w.heap.size+1,0,none⟩) 1 1,.slice none 0 0,.slice none 0 0] 33)) 9 [.string ⟨#[114,111,111,116]⟩];rwa [s1] at h
 have HB:Below w.heap.size w ((w.alloc (.cells #[.int .i64 0,.int .i64 0,.slice none 0 0,.slice none 0 0,.slice (some ⟨w.heap.size+1,0,none⟩) 1 1,.slice none 0 0,.slice none 0 0] 33)).alloc (.cells #[.string ⟨#[114,111,111,116]⟩] 9)):=(br.alloc lr _).alloc (by omega) _;have HI7:=iN 33 7;refine bodyPost_ret (UQ rfl _ _ w.heap.size rfl (hid B0) rfl Tryz.underlying33 rfl HI7) rfl ?_
 refine⟨⟨none,0,none,0,some ⟨w.heap.size+1,0,none⟩,1,none,0,none,0⟩,rfl,⟨ZV.nil,ZV.nil,?_,ZV.nil,ZV.nil⟩,HB⟩
 intro _;refine⟨_,rfl,⟨9,by decide,B1.Xr⟩,fun j d hd=> ?_⟩
 cases j with
 | succ j=>cases hd
 | zero=>
  obtain rfl: [Da.Z9 Yd]=d:=Option.some.inj hd;refine⟨[.string (Z9 Yd)],ZH.one (YK.YZ _),fun i u hu=> ?_⟩
  cases i with
  | succ i=>cases hu
  | zero=>
   obtain rfl:Value.string (Z9 Yd)=u:=Option.some.inj hu;exact B1.cell 0
theorem O5 (w:World)(a b:List Value)(t u:TypeId):ZP ((w.alloc (.cells a.toArray t)).alloc (.cells b.toArray u)) w.heap.size t a∧ZP ((w.alloc (.cells a.toArray t)).alloc (.cells b.toArray u)) (w.heap.size+1) u b∧Below w.heap.size w ((w.alloc (.cells a.toArray t)).alloc (.cells b.toArray u)):=by
 have s1:(w.alloc (.cells a.toArray t)).heap.size=w.heap.size+1:=by simp
 refine⟨(ZP.new w _ _).alloc _,?_,(br.alloc lr _).alloc (by omega) _⟩
 have h:=ZP.new (w.alloc (.cells a.toArray t)) u b;rwa [s1] at h
theorem O9 (c:Ca)(A:WV)(x:Cm)(X:Option Addr)(k:Nat)(Y:Option Addr)(n:Nat)(w:World)(hc:VJ w w.heap.size c A)(ht:c.Zv 1099511627776)
  (hS:Sg x.ZQ=1→(c.ob.Z4.any fun s=>s.name == x.Z8)=true):
  Calls Tryz.prog 33 #[.agg (c.cs A).toArray,.agg (x.cs X k Y n).toArray] w fun e w'=>e= .returned (.bool (WG c x))∧Below w.heap.size w w':=by
 have HC:=hid hc;have HT:=hid ht;have HS:=hid hS;have HI7:=iN 33 7;have HR:Hid (WG c x=if Sg x.ZQ=1 then MP c.ro x.ZM Yd || MP c.ro x.ZM (Oy c x.Z8)
 else if Sg x.ZQ=2 then Xp c x.ZM x.Z8 x.ZY
 else if Sg x.ZQ=3 then true
 else MP c.ro x.ZM Yd):=hid rfl
 clear hc ht hS;generalize WG c x=res at*;unfold Ca.cs Cm.cs;obtain⟨b0,b1,hb⟩:=O5 w [.int .i64 c.ZO,.int .i64 c.ZU,.slice A.a0 c.ob.Z4.length A.k0,.slice A.a1 c.ob.Z7.length A.k1,.slice A.a2 c.ro.ZW.length A.k2,.slice A.a3 c.ro.Z2.length A.k3,.slice A.a4 c.Z3.length A.k4] [.int .i64 x.ZQ,.string (Z9 x.ZM),.string (Z9 x.Z8),.string (Z9 x.ZY),.string (Z9 x.name),.string (Z9 x.ZT),.slice X x.ZX.length k,.string (Z9 x.ZZ.name),.int .i64 x.ZZ.ZQ,.slice Y x.ZZ.ZX.length n,.int .i64 x.ZZ.low,.int .i64 x.ZZ.ZF,.string (Z9 x.ZZ.Z8),.string (Z9 x.ZZ.ZY),.string (Z9 x.ZZ.key),.int .i64 x.right,.bool x.Zz] 33 43;have P0:=hid b0;have X0:=hid b1;have HB0:=hid hb;clear b0 b1 hb;go_enter Tryz.func33,Tryz.ntmps33
 go_wp2_with fail;generalize ((w.alloc (.cells #[.int .i64 c.ZO,.int .i64 c.ZU,.slice A.a0 c.ob.Z4.length A.k0,.slice A.a1 c.ob.Z7.length A.k1,.slice A.a2 c.ro.ZW.length A.k2,.slice A.a3 c.ro.Z2.length A.k3,.slice A.a4 c.Z3.length A.k4] 33)).alloc (.cells #[.int .i64 x.ZQ,.string (Z9 x.ZM),.string (Z9 x.Z8),.string (Z9 x.ZY),.string (Z9 x.name),.string (Z9 x.ZT),.slice X x.ZX.length k,.string (Z9 x.ZZ.name),.int .i64 x.ZZ.ZQ,.slice Y x.ZZ.ZX.length n,.int .i64 x.ZZ.low,.int .i64 x.ZZ.ZF,.string (Z9 x.ZZ.Z8),.string (Z9 x.ZZ.ZY),.string (Z9 x.ZZ.key),.int .i64 x.right,.bool x.Zz] 43))=W0 at*;refine(Lu c.ro A.a2 A.k2 A.a3 A.k3 x.ZM Yd W0 (HC.out.later HB0.out).nm (HC.out.later HB0.out).mb HT.out.2.1).mono ?_
 rintro e W1 ⟨rfl,hb⟩;have HB1:=bt HB0 hb;have P1:=bl P0 hb;have X1:=bl X0 hb;clear hb HB0 P0 X0 W0;have x0:=ce X1 0;have x1:=ce X1 1;have x2:=ce X1 2;have x3:=ce X1 3;have p2:=ce P1 2;go_wp2_with fail;refine(JV x.ZQ W1).mono ?_
 rintro e W1' ⟨rfl,rfl⟩;generalize Sg x.ZQ=bk at*;by_cases h3:bk=3
 ·subst h3;have HR':Hid (res=true):=hid HR.out;go_wp2;go_ret;exact⟨by rw [HR'.out];rfl,HB1.out⟩
 by_cases h2:bk=2
 ·subst h2;have HR':Hid (res=Xp c x.ZM x.Z8 x.ZY):=hid HR.out;have cB:=Th c A x.ZM x.Z8 x.ZY W1' (HC.out.later HB1.out) HT.out;unfold Ca.cs at cB;go_wp2_with (first | (refine lO P1 HI7 Tryz.underlying33 ?_) | fail);refine cB.mono ?_
  rintro e W2 ⟨rfl,hb⟩;have HB2:=bt HB1 hb;clear hb cB;go_wp2;go_ret;exact⟨by rw [HR'.out];rfl,HB2.out⟩
 by_cases h1:bk=1
 ·subst h1;have HR':Hid (res=(MP c.ro x.ZM Yd || MP c.ro x.ZM (Oy c x.Z8))):=hid HR.out;have HS1:=hid (HS.out rfl);clear HS HR h3 h2;obtain⟨i,hi0⟩: ∃ i,WY c.ob.Z4 x.Z8=some i:=Option.isSome_iff_exists.1 (by unfold WY;rw [List.findIdx?_isSome];exact HS1.out);obtain⟨hi,hf⟩:=Xa hi0;have HO:Hid (Oy c x.Z8=c.ob.Z4[i].ZL):=hid (by unfold Oy;rw [hf];rfl)
  have HS0:=hid hi0;have hsl:c.ob.Z4.length≤1099511627776:=HT.out.1.1;clear hf hi0 HS1;go_wp2_with fail;have cI:=Vk (fun d=>tx d 0 == x.Z8) 73 #[.pointer (some ⟨w.heap.size+1,0,none⟩)] (c.ob.Z4.map Sc.da) A.a0 A.k0 W1' (enters_of Tryz.func73 (by kernel_rfl) rfl) (HC.out.later HB1.out).sc (by simpa using hsl) (by
   intro W' d vs hb _ hv;obtain⟨q,rfl,rfl⟩:=Sc.YN hv;exact Pc q (w.heap.size+1) x.Z8 W' (Nat.lt_of_lt_of_le X1.out.lt hb.size) ((X1.out.below hb X1.out.lt).cell 2))
  rw [List.length_map,UB,HS0.out] at cI;refine cI.mono ?_
  rintro e W2 ⟨rfl,hb⟩;rw [show Xe (some i)=(i:Int) from rfl];have HB2:=bt HB1 hb;have P2:=bl P1 hb;have X2:=bl X1 hb;clear hb cI HB1 P1 X1 x0 x1 x2 x3 p2 HS0;obtain⟨ad,vs,ha,hv,hr⟩:=(HC.out.later HB2.out).sc.at_ (j:=i) (by simpa using hi);rw [List.getElem_map] at hv;generalize c.ob.Z4[i]=sc at*;obtain⟨q,hq1,rfl⟩:=Sc.YN hv;obtain rfl:sc=q:=by
   obtain⟨a,b⟩:=sc;obtain⟨a',b'⟩:=q;unfold Sc.da at hq1;injection hq1 with e1 e2
   injection e1 with e1
   injection e2 with e2 _
   injection e2 with e2
   dsimp only at e1 e2;rw [e1,e2]
  have a1:=ef (m:=i*2) hr 1;have hzb:(ad.add (i*2)).block<W2.heap.size:=World.block_lt_of_cell? _ ⟨(ad.add (i*2)).block,(ad.add (i*2)).off+1,none⟩ a1;have HV:=hid hzb;have hi':(0:Int)≤(i:Int):=by omega
  have hi2:(i:Int)< (c.ob.Z4.length:Int):=by omega
  have p2:W2.cell? ⟨w.heap.size,2,none⟩=some (.slice (some ad) c.ob.Z4.length A.k0):=by rw [←ha];exact P2.out.cell 2
  have cI2:=fun W h=>Lu c.ro A.a2 A.k2 A.a3 A.k3 x.ZM sc.ZL W h
  clear hv hr hq1 ha
  cases hroot:MP c.ro x.ZM Yd
  ·rw [hroot] at HR';clear hroot;go_wp2_with fail;refine wp_region_held_drew (S:=fun w'=>Below W2.heap.size W2 w'∧w'.cell? ⟨w.heap.size,4,none⟩=some (.slice A.a2 c.ro.ZW.length A.k2)∧w'.cell? ⟨w.heap.size,5,none⟩=some (.slice A.a3 c.ro.Z2.length A.k3)∧w'.cell? ⟨w.heap.size,2,none⟩=some (.slice (some ad) c.ob.Z4.length A.k0)∧w'.cell? ⟨w.heap.size+1,1,none⟩=some (.string (Z9 x.ZM))∧w'.cell? ⟨(ad.add (i*2)).block,(ad.add (i*2)).off+1,none⟩=some (.string (Z9 sc.ZL))) (by kernel_rfl) (⟨(Below.refl W2.heap.size W2).drew,cb P2 ((Below.refl W2.heap.size W2).drew) 4,cb P2 ((Below.refl W2.heap.size W2).drew) 5,(((Below.refl W2.heap.size W2).drew).cell (p:=⟨w.heap.size,2,none⟩) P2.out.lt).trans p2,cb X2 ((Below.refl W2.heap.size W2).drew) 1,(((Below.refl W2.heap.size W2).drew).cell (p:=⟨(ad.add (i*2)).block,(ad.add (i*2)).off+1,none⟩) HV.out).trans a1⟩) (fun HD=> ?_)
   (try simp only [pp]);refine tb 0 22 (.bool false) HD ?_;refine tb 1 23 (.bool false) HD ?_;refine tk 2 24 HD ?_;refine tk 3 25 HD ?_;refine tk 4 26 HD ?_;refine tk 5 27 HD ?_;refine tk 6 28 HD ?_;refine tk 7 29 HD ?_;refine tk 8 30 HD ?_;refine tk 9 31 HD ?_;refine tk 10 32 HD ?_;refine tk 11 33 HD ?_;refine tk 12 34 HD ?_;refine on 13 35 fun K hK=> ?_
   go_simp;refine(cI2 _ (HC.out.later (HB2.out.trans (HD.1.mono HB2.out.size))).nm (HC.out.later (HB2.out.trans (HD.1.mono HB2.out.size))).mb HT.out.2.1).mono ?_
   rintro e W5 ⟨rfl,hb⟩;have hbv:=HD.1.trans (hb.mono HD.1.size);refine hK.out _ _ ⟨hbv,cb P2 (hbv) 4,cb P2 (hbv) 5,((hbv).cell (p:=⟨w.heap.size,2,none⟩) P2.out.lt).trans p2,cb X2 (hbv) 1,((hbv).cell (p:=⟨(ad.add (i*2)).block,(ad.add (i*2)).off+1,none⟩) HV.out).trans a1⟩ (fun HD=> ?_);clear hb hbv;clear hK K;(try simp only [pp])
   refine tk 14 36 HD ?_;refine tk 15 4 HD ?_;refine wpAnyH_done (by kernel_rfl) ?_ _
   have HB9:=bt HB2 HD.1;have HR2:Hid (res=MP c.ro x.ZM sc.ZL):=hid (by rw [HR'.out,HO.out];rfl)
   clear HD;go_wp2;go_ret;exact⟨by rw [HR2.out];rfl,HB9.out⟩
  ·rw [hroot] at HR';clear hroot cI2;go_wp2_with fail;refine wp_region_held_drew (S:=fun w'=>Below W2.heap.size W2 w') (by kernel_rfl) ((Below.refl W2.heap.size W2).drew) (fun HD=> ?_)
   (try simp only [pp]);refine tb 0 22 (.bool true) HD ?_;refine tb 1 23 (.bool true) HD ?_;refine sk 2 24 HD ?_;refine sk 3 25 HD ?_;refine sk 4 26 HD ?_;refine sk 5 27 HD ?_;refine sk 6 28 HD ?_;refine sk 7 29 HD ?_;refine sk 8 30 HD ?_;refine sk 9 31 HD ?_;refine sk 10 32 HD ?_;refine sk 11 33 HD ?_;refine sk 12 34 HD ?_;refine sk 13 35 HD ?_;refine tk 14 36 HD ?_;refine tk 15 4 HD ?_;refine wpAnyH_done (by kernel_rfl) ?_ _
   have HB9:=bt HB2 HD;clear HD;go_wp2;go_ret;exact⟨by rw [HR'.out];rfl,HB9.out⟩
 have g1:(bk == 1)=false:=by simpa using h1
 have g2:(bk == 2)=false:=by simpa using h2
 have g3:(bk == 3)=false:=by simpa using h3
 have HR':Hid (res=MP c.ro x.ZM Yd):=hid (by rw [HR.out,if_neg h1,if_neg h2,if_neg h3]);clear h1 h2 h3;go_wp2;go_ret;exact⟨by rw [HR'.out];rfl,HB1.out⟩
theorem Sj (w:World)(o:Obj)(a b:List Value)(t u:TypeId):ZP (((w.alloc o).alloc (.cells a.toArray t)).alloc (.cells b.toArray u)) (w.heap.size+1) t a∧ZP (((w.alloc o).alloc (.cells a.toArray t)).alloc (.cells b.toArray u)) (w.heap.size+1+1) u b∧Below w.heap.size w (((w.alloc o).alloc (.cells a.toArray t)).alloc (.cells b.toArray u)):=by
 have s1:(w.alloc o).heap.size=w.heap.size+1:=by simp
 obtain⟨h1,h2,h3⟩:=O5 (w.alloc o) a b t u;rw [s1] at h1 h2 h3;exact⟨h1,h2,(br.alloc lr _).trans (h3.mono (by omega))⟩
theorem US (r:Ro)(A0:Option Addr)(k0:Nat)(A1:Option Addr)(k1:Nat)(x:Cm)(X:Option Addr)(k:Nat)(Y:Option Addr)(n:Nat)(w:World)(hN:ZV w (· < w.heap.size) [.Z9] (YU r.ZW) A0)(hM:ZV w (· < w.heap.size) Y5 (r.Z2.map Mb.da) A1)(ht:r.Zv 1099511627776):
  Calls Tryz.prog 85 #[.agg #[.slice A0 r.ZW.length k0,.slice A1 r.Z2.length k1],.agg (x.cs X k Y n).toArray] w (ME w):=by
 have HNm:=hid hN;have HMb:=hid hM;have HT:=hid ht;have HI2:=iN 30 2;clear hN hM ht;unfold Cm.cs;obtain⟨b0,b1,hb⟩:=Sj w (.cells #[.slice A0 r.ZW.length k0,.slice A1 r.Z2.length k1] 30) [.int .i64 x.ZQ,.string (Z9 x.ZM),.string (Z9 x.Z8),.string (Z9 x.ZY),.string (Z9 x.name),.string (Z9 x.ZT),.slice X x.ZX.length k,.string (Z9 x.ZZ.name),.int .i64 x.ZZ.ZQ,.slice Y x.ZZ.ZX.length n,.int .i64 x.ZZ.low,.int .i64 x.ZZ.ZF,.string (Z9 x.ZZ.Z8),.string (Z9 x.ZZ.ZY),.string (Z9 x.ZZ.key),.int .i64 x.right,.bool x.Zz] [.slice none 0 0,.slice none 0 0] 43 30;have R0:=hid b1;have HB0:=hid hb;clear b0 b1 hb;go_enter Tryz.func85,Tryz.ntmps85
 generalize x.ZQ=kk at*;by_cases h10:kk=10
 ·subst h10;go_wp2_with fail;generalize (((w.alloc (.cells #[.slice A0 r.ZW.length k0,.slice A1 r.Z2.length k1] 30)).alloc (.cells #[.int .i64 10,.string (Z9 x.ZM),.string (Z9 x.Z8),.string (Z9 x.ZY),.string (Z9 x.name),.string (Z9 x.ZT),.slice X x.ZX.length k,.string (Z9 x.ZZ.name),.int .i64 x.ZZ.ZQ,.slice Y x.ZZ.ZX.length n,.int .i64 x.ZZ.low,.int .i64 x.ZZ.ZF,.string (Z9 x.ZZ.Z8),.string (Z9 x.ZZ.ZY),.string (Z9 x.ZZ.key),.int .i64 x.right,.bool x.Zz] 43)).alloc (.cells #[.slice none 0 0,.slice none 0 0] 30))=W0 at*;refine(Lj r A0 k0 A1 k1 x.ZT W0 (HNm.out.later HB0.out) (HMb.out.later HB0.out) HT.out).mono ?_
  rintro e W1 ⟨er,r',B0,l0,B1,l1,rfl,hrt,hb,htm⟩;have HB1:=bt HB0 hb;have R1:=bl R0 hb;have HRT:=hid hrt;have HTM:=hid htm;clear hb hrt htm HB0 R0;go_wp2_with (first | (refine sO R1 HI2 ?_;intro w9 U) | fail);refine bodyPost_ret (YM rfl _ _ (w.heap.size+1+1) rfl (hid U.out.X8) rfl Tryz.underlying30 rfl HI2) rfl ?_
  exact⟨er,r',B0,l0,B1,l1,rfl,HRT.out.keeps U.out.keeps (by decide),U.out.below HB1.out (by omega),HTM.out⟩
 have g10:(kk == 10)=false:=by simpa using h10
 by_cases h12:kk=12
 ·subst h12;go_wp2_with fail;generalize (((w.alloc (.cells #[.slice A0 r.ZW.length k0,.slice A1 r.Z2.length k1] 30)).alloc (.cells #[.int .i64 12,.string (Z9 x.ZM),.string (Z9 x.Z8),.string (Z9 x.ZY),.string (Z9 x.name),.string (Z9 x.ZT),.slice X x.ZX.length k,.string (Z9 x.ZZ.name),.int .i64 x.ZZ.ZQ,.slice Y x.ZZ.ZX.length n,.int .i64 x.ZZ.low,.int .i64 x.ZZ.ZF,.string (Z9 x.ZZ.Z8),.string (Z9 x.ZZ.ZY),.string (Z9 x.ZZ.key),.int .i64 x.right,.bool x.Zz] 43)).alloc (.cells #[.slice none 0 0,.slice none 0 0] 30))=W0 at*;refine(Md r A0 k0 A1 k1 x.ZT x.name W0 (HNm.out.later HB0.out) (HMb.out.later HB0.out) HT.out).mono ?_
  rintro e W1 ⟨er,r',B0,l0,B1,l1,rfl,hrt,hb,htm⟩;have HB1:=bt HB0 hb;have R1:=bl R0 hb;have HRT:=hid hrt;have HTM:=hid htm;clear hb hrt htm HB0 R0;go_wp2_with (first | (refine sO R1 HI2 ?_;intro w9 U) | fail);refine bodyPost_ret (YM rfl _ _ (w.heap.size+1+1) rfl (hid U.out.X8) rfl Tryz.underlying30 rfl HI2) rfl ?_
  exact⟨er,r',B0,l0,B1,l1,rfl,HRT.out.keeps U.out.keeps (by decide),U.out.below HB1.out (by omega),HTM.out⟩
 have g12:(kk == 12)=false:=by simpa using h12
 clear h10 h12;go_wp2_with fail;generalize (((w.alloc (.cells #[.slice A0 r.ZW.length k0,.slice A1 r.Z2.length k1] 30)).alloc (.cells #[.int .i64 kk,.string (Z9 x.ZM),.string (Z9 x.Z8),.string (Z9 x.ZY),.string (Z9 x.name),.string (Z9 x.ZT),.slice X x.ZX.length k,.string (Z9 x.ZZ.name),.int .i64 x.ZZ.ZQ,.slice Y x.ZZ.ZX.length n,.int .i64 x.ZZ.low,.int .i64 x.ZZ.ZF,.string (Z9 x.ZZ.Z8),.string (Z9 x.ZZ.ZY),.string (Z9 x.ZZ.key),.int .i64 x.right,.bool x.Zz] 43)).alloc (.cells #[.slice none 0 0,.slice none 0 0] 30))=W0 at*;refine(Nr r A0 k0 A1 k1 x.ZT x.name W0 (HNm.out.later HB0.out) (HMb.out.later HB0.out) HT.out).mono ?_
 rintro e W1 ⟨er,r',B0,l0,B1,l1,rfl,hrt,hb,htm⟩;have HB1:=bt HB0 hb;have R1:=bl R0 hb;have HRT:=hid hrt;have HTM:=hid htm;clear hb hrt htm HB0 R0;go_wp2_with (first | (refine sO R1 HI2 ?_;intro w9 U) | fail);refine bodyPost_ret (YM rfl _ _ (w.heap.size+1+1) rfl (hid U.out.X8) rfl Tryz.underlying30 rfl HI2) rfl ?_
 exact⟨er,r',B0,l0,B1,l1,rfl,HRT.out.keeps U.out.keeps (by decide),U.out.below HB1.out (by omega),HTM.out⟩
end Go.Proofs.YtnhmoibjlakhjaaGreat
namespace Go.Proofs.YtnhmoibjlakhjaaGreat
set_option maxRecDepth 100000
set_option maxHeartbeats 16000000
open Go.RowKit
theorem NO (l:List Sc)(A:Option Addr)(k g:Nat)(t:List UInt8)(w:World)(hA:ZV w (· < w.heap.size) Zh (l.map Sc.da) A)(hn:l.length≤1099511627776){T:TypeId}{cs:List Value}(hB:ZP w g T cs)(h2:cs[2]?=some (.string (Z9 t))):
  Calls Tryz.prog 31 #[.slice A l.length k,.func (.func 32) #[] #[.pointer (some ⟨g,0,none⟩)]] w fun e w'=>e= .returned (.bool (l.any fun s=>s.name == t))∧Below w.heap.size w w':=by
 have c:=RN (fun d=>tx d 0 == t) 32 #[.pointer (some ⟨g,0,none⟩)] (l.map Sc.da) A k w (enters_of Tryz.func32 (by kernel_rfl) rfl) hA (by simpa using hn) (by
  intro W d vs hb _ hv;obtain⟨q,rfl,rfl⟩:=Sc.YN hv;have hB':=hB.below hb hB.lt;exact MB q g t W hB'.lt ((hB'.cell 2).trans h2))
 rw [List.length_map,List.any_map] at c;exact c
end Go.Proofs.YtnhmoibjlakhjaaGreat
namespace Go.Proofs.YtnhmoibjlakhjaaGreat
open Lib (hid)
set_option maxRecDepth 100000
set_option maxHeartbeats 16000000
open Go.RowKit
def To (x:Cm)(boss:Bool)(g:Gr):Bool:=g.Z8 == x.Z8 && g.ZY == x.ZY && g.right == x.right && g.to == x.ZT && (boss || g.ZN == x.ZM)
def Tu (x:Cm)(g:Gr):Bool:=g.Z8 == x.Z8 && g.ZY == x.ZY
theorem Nu (x:Cm)(g:Gr)(p:Nat)(q:Nat)(boss:Bool)(w:World)(hp:p<w.heap.size)(h1:w.cell? ⟨p,1,none⟩=some (.string (Z9 x.ZM)))(h2:w.cell? ⟨p,2,none⟩=some (.string (Z9 x.Z8)))(h3:w.cell? ⟨p,3,none⟩=some (.string (Z9 x.ZY)))(h5:w.cell? ⟨p,5,none⟩=some (.string (Z9 x.ZT)))(h15:w.cell? ⟨p,15,none⟩=some (.int .i64 x.right))(hq:q<w.heap.size)(hb:w.cell? ⟨q,0,none⟩=some (.bool boss)):
  Calls Tryz.prog 134 #[.agg #[.string (Z9 g.Z8),.string (Z9 g.ZY),.int .i64 g.right,.string (Z9 g.ZN),.string (Z9 g.to),.bool g.Zz],.pointer (some ⟨p,0,none⟩),.pointer (some ⟨q,0,none⟩)] w fun e w'=>e= .returned (.bool (To x boss g))∧Below w.heap.size w w':=by
 have HB0:Hid (Below w.heap.size w (w.alloc (.cells #[.string (Z9 g.Z8),.string (Z9 g.ZY),.int .i64 g.right,.string (Z9 g.ZN),.string (Z9 g.to),.bool g.Zz] 53))):=hid (br.alloc lr _);have k1:(w.alloc (.cells #[.string (Z9 g.Z8),.string (Z9 g.ZY),.int .i64 g.right,.string (Z9 g.ZN),.string (Z9 g.to),.bool g.Zz] 53)).cell? ⟨p,1,none⟩=some (.string (Z9 x.ZM)):=ct h1 HB0.out hp;have k2:(w.alloc (.cells #[.string (Z9 g.Z8),.string (Z9 g.ZY),.int .i64 g.right,.string (Z9 g.ZN),.string (Z9 g.to),.bool g.Zz] 53)).cell? ⟨p,2,none⟩=some (.string (Z9 x.Z8)):=ct h2 HB0.out hp;have k3:(w.alloc (.cells #[.string (Z9 g.Z8),.string (Z9 g.ZY),.int .i64 g.right,.string (Z9 g.ZN),.string (Z9 g.to),.bool g.Zz] 53)).cell? ⟨p,3,none⟩=some (.string (Z9 x.ZY)):=ct h3 HB0.out hp;have k5:(w.alloc (.cells #[.string (Z9 g.Z8),.string (Z9 g.ZY),.int .i64 g.right,.string (Z9 g.ZN),.string (Z9 g.to),.bool g.Zz] 53)).cell? ⟨p,5,none⟩=some (.string (Z9 x.ZT)):=ct h5 HB0.out hp;have IQ:(w.alloc (.cells #[.string (Z9 g.Z8),.string (Z9 g.ZY),.int .i64 g.right,.string (Z9 g.ZN),.string (Z9 g.to),.bool g.Zz] 53)).cell? ⟨p,15,none⟩=some (.int .i64 x.right):=ct h15 HB0.out hp;have kb:(w.alloc (.cells #[.string (Z9 g.Z8),.string (Z9 g.ZY),.int .i64 g.right,.string (Z9 g.ZN),.string (Z9 g.to),.bool g.Zz] 53)).cell? ⟨q,0,none⟩=some (.bool boss):=ct hb HB0.out hq;clear hb hq;have HR:Hid (To x boss g=(g.Z8 == x.Z8 && g.ZY == x.ZY && g.right == x.right && g.to == x.ZT && (boss || g.ZN == x.ZM))):=hid rfl;generalize To x boss g=res at*;generalize eb1:(g.Z8 == x.Z8)=b1 at*;generalize eb2:(g.ZY == x.ZY)=b2 at*;generalize eb3:(g.right == x.right)=b3 at*;generalize eb4:(g.to == x.ZT)=b4 at*;generalize eb5:(g.ZN == x.ZM)=b5 at*;clear h1 h2 h3 h5 h15 hp;go_enter Tryz.func134,Tryz.ntmps134
 cases b1 <;> cases b2 <;> cases b3 <;> cases b4 <;> cases boss <;> cases b5
 all_goals (have HR':=HR.out;clear HR;subst HR')
 all_goals go_wp2
 all_goals go_ret
 all_goals exact⟨rfl,HB0.out⟩
theorem QX (x:Cm)(g:Gr)(p:Nat) (w:World)(hp:p<w.heap.size)(h2:w.cell? ⟨p,2,none⟩=some (.string (Z9 x.Z8)))(h3:w.cell? ⟨p,3,none⟩=some (.string (Z9 x.ZY))):
  Calls Tryz.prog 126 #[.agg #[.string (Z9 g.Z8),.string (Z9 g.ZY),.int .i64 g.right,.string (Z9 g.ZN),.string (Z9 g.to),.bool g.Zz],.pointer (some ⟨p,0,none⟩)] w fun e w'=>e= .returned (.bool (Tu x g))∧Below w.heap.size w w':=by
 have HB0:Hid (Below w.heap.size w (w.alloc (.cells #[.string (Z9 g.Z8),.string (Z9 g.ZY),.int .i64 g.right,.string (Z9 g.ZN),.string (Z9 g.to),.bool g.Zz] 53))):=hid (br.alloc lr _);have k2:(w.alloc (.cells #[.string (Z9 g.Z8),.string (Z9 g.ZY),.int .i64 g.right,.string (Z9 g.ZN),.string (Z9 g.to),.bool g.Zz] 53)).cell? ⟨p,2,none⟩=some (.string (Z9 x.Z8)):=ct h2 HB0.out hp;have k3:(w.alloc (.cells #[.string (Z9 g.Z8),.string (Z9 g.ZY),.int .i64 g.right,.string (Z9 g.ZN),.string (Z9 g.to),.bool g.Zz] 53)).cell? ⟨p,3,none⟩=some (.string (Z9 x.ZY)):=ct h3 HB0.out hp;have HR:Hid (Tu x g=(g.Z8 == x.Z8 && g.ZY == x.ZY)):=hid rfl;generalize Tu x g=res at*;generalize eb1:(g.Z8 == x.Z8)=b1 at*;generalize eb2:(g.ZY == x.ZY)=b2 at*;clear h2 h3 hp;go_enter Tryz.func126,Tryz.ntmps126
 cases b1 <;> cases b2
 all_goals (have HR':=HR.out;clear HR;subst HR')
 all_goals go_wp2
 all_goals go_ret
 all_goals exact⟨rfl,HB0.out⟩
theorem PE (x:Cm)(s:Sc)(p:Nat)(w:World)(hp:p<w.heap.size)(h5:w.cell? ⟨p,5,none⟩=some (.string (Z9 x.ZT))):
  Calls Tryz.prog 128 #[.agg #[.string (Z9 s.name),.string (Z9 s.ZL)],.pointer (some ⟨p,0,none⟩)] w fun e w'=>e= .returned (.bool (s.ZL == x.ZT))∧Below w.heap.size w w':=by
 have HB0:Hid (Below w.heap.size w (w.alloc (.cells #[.string (Z9 s.name),.string (Z9 s.ZL)] 89))):=hid (br.alloc lr _);have k5:(w.alloc (.cells #[.string (Z9 s.name),.string (Z9 s.ZL)] 89)).cell? ⟨p,5,none⟩=some (.string (Z9 x.ZT)):=ct h5 HB0.out hp;generalize eb1:(s.ZL == x.ZT)=b1 at*;clear h5 hp;go_enter Tryz.func128,Tryz.ntmps128
 cases b1
 all_goals go_wp2
 all_goals go_ret
 all_goals exact⟨rfl,HB0.out⟩
theorem PD (x:Cm)(t:Tb)(X:Option Addr)(k:Nat)(Y:Option Addr)(n:Nat)(p:Nat)(w:World)(hp:p<w.heap.size)(h5:w.cell? ⟨p,5,none⟩=some (.string (Z9 x.ZT))):
  Calls Tryz.prog 130 #[.agg #[.string (Z9 t.Z8),.string (Z9 t.name),.string (Z9 t.ZL),.slice X t.ZX.length k,.slice Y t.ZS.length n],.pointer (some ⟨p,0,none⟩)] w fun e w'=>e= .returned (.bool (t.ZL == x.ZT))∧Below w.heap.size w w':=by
 have HB0:Hid (Below w.heap.size w (w.alloc (.cells #[.string (Z9 t.Z8),.string (Z9 t.name),.string (Z9 t.ZL),.slice X t.ZX.length k,.slice Y t.ZS.length n] 73))):=hid (br.alloc lr _);have k5:(w.alloc (.cells #[.string (Z9 t.Z8),.string (Z9 t.name),.string (Z9 t.ZL),.slice X t.ZX.length k,.slice Y t.ZS.length n] 73)).cell? ⟨p,5,none⟩=some (.string (Z9 x.ZT)):=ct h5 HB0.out hp;generalize eb1:(t.ZL == x.ZT)=b1 at*;clear h5 hp;go_enter Tryz.func130,Tryz.ntmps130
 cases b1
 all_goals go_wp2
 all_goals go_ret
 all_goals exact⟨rfl,HB0.out⟩
theorem PC (x:Cm)(g:Gr)(p:Nat)(w:World)(hp:p<w.heap.size)(h5:w.cell? ⟨p,5,none⟩=some (.string (Z9 x.ZT))):
  Calls Tryz.prog 131 #[.agg #[.string (Z9 g.Z8),.string (Z9 g.ZY),.int .i64 g.right,.string (Z9 g.ZN),.string (Z9 g.to),.bool g.Zz],.pointer (some ⟨p,0,none⟩)] w fun e w'=>e= .returned (.bool (g.ZN == x.ZT || g.to == x.ZT))∧Below w.heap.size w w':=by
 have HB0:Hid (Below w.heap.size w (w.alloc (.cells #[.string (Z9 g.Z8),.string (Z9 g.ZY),.int .i64 g.right,.string (Z9 g.ZN),.string (Z9 g.to),.bool g.Zz] 53))):=hid (br.alloc lr _);have k5:(w.alloc (.cells #[.string (Z9 g.Z8),.string (Z9 g.ZY),.int .i64 g.right,.string (Z9 g.ZN),.string (Z9 g.to),.bool g.Zz] 53)).cell? ⟨p,5,none⟩=some (.string (Z9 x.ZT)):=ct h5 HB0.out hp;generalize eb1:(g.ZN == x.ZT)=b1 at*;generalize eb2:(g.to == x.ZT)=b2 at*;clear h5 hp;go_enter Tryz.func131,Tryz.ntmps131
 cases b1 <;> cases b2
 all_goals go_wp2
 all_goals go_ret
 all_goals exact⟨rfl,HB0.out⟩
theorem ZC.behind {P:Program}{ops:Array Oper}{Q:Exit→Act→World→Prop}{md:Region.Mode}{S:World→Prop}{last:Nat}{i:Nat}{o:Oper}{n:Nat}{l:Array Bool}{a:Act}{w:World}(hr:Region.ready md ops l= [i])(_hi:(i == last)=false)(ho:ops[i]?=some o)
  (h: ∀ K':Act→World→Prop,Shut (∀ a w,ZC P md ops Q S last n true (l.setIfInBounds i true) a w→K' a w)→if Region.wanted o (yielded ops a.tmps)=true then Oper.wp P o a w K' Q else K' (a.put o.dst undef) w):ZC P md ops Q S last (n+1) true l a w:=by
 refine⟨fun h0=>(by rw [hr] at h0;cases h0),fun j hj=> ?_⟩
 rw [hr] at hj;obtain rfl:=List.mem_singleton.1 hj;simp only [Bool.true_or];exact wpOp_step ho fun K' hK=>h K' fun a w hW=>hK a w ⟨fun hf=>(by cases hf),hW⟩
theorem LI (c:Ca)(A:WV)(w:World)(hc:VJ w w.heap.size c A)(ht:c.Zv 1099511627776):
  Calls Tryz.prog 34 #[.agg (c.cs A).toArray] w fun e w'=> ∃ A':WV,e= .returned (.agg (c.cs A').toArray)∧Us w' c A'∧Below w.heap.size w w':=by
 obtain⟨a0,k0,a1,k1,a2,k2,a3,k3,a4,k4⟩:=A;have HSc:Hid (ZV w (· < w.heap.size) Zh (c.ob.Z4.map Sc.da) a0):=hid hc.sc;have HTb:Hid (ZV w (· < w.heap.size) Zt (c.ob.Z7.map Tb.da) a1):=hid hc.tb;have HNm:Hid (ZV w (· < w.heap.size) [.Z9] (YU c.ro.ZW) a2):=hid hc.nm;have HMb:Hid (ZV w (· < w.heap.size) Y5 (c.ro.Z2.map Mb.da) a3):=hid hc.mb;have HGr:Hid (ZV w (· < w.heap.size) Ys (c.Z3.map Gr.da) a4):=hid hc.gr;have HT:=hid ht;have hsl:=ht.1.1;have htl:=ht.1.2.1;have hnl:=ht.2.1.1;have hml:=ht.2.1.2.1;have hgl:=ht.2.2;have HI7:=iN 33 7;have HI5:=iN 73 5;clear hc ht;unfold Ca.cs;dsimp only;go_enter Tryz.func34,Tryz.ntmps34
 go_wp2_with fail;refine Zm _ fun W hW=> ?_
 have HB1:=bQ hW;have P1:=nD hW;have Q1:=nF hW;clear hW;refine(Vn a0 k0 c.ob.Z4 W (Sc.Yj (HSc.out.later HB1.out)) hsl).mono ?_
 rintro e W2 ⟨B0,l0,rfl,ho,hb⟩;have HB2:=bt HB1 hb;have HS2:=hid (ho.Yn HB1.out.size);have P2:=bl P1 hb;have Q2:=bl Q1 hb;clear ho hb HB1 P1 Q1;have p2:=ce P2 2;have p3:=ce P2 3;have f2:=P2.out.frozen 2;have f3:=P2.out.frozen 3;go_wp2_with fail;refine Uv _ fun W5 hW=> ?_
 have HK5:Hid (ZR [33] W2 W5):=hid (by rw [hW];exact(ZR.Zx P2.out.Xr (by simp) _).trans (ZR.Zx (P2.out.Xr.setCell _ _) (by simp) _));have HB5:Hid (Below w.heap.size w W5):=hid (by rw [hW];exact(HB2.out.setCell lr _).setCell lr _);have P5:Hid (ZP W5 w.heap.size 33 [.int .i64 c.ZO,.int .i64 c.ZU,.slice B0 c.ob.Z4.length l0,.slice none 0 0,.slice a2 c.ro.ZW.length k2,.slice a3 c.ro.Z2.length k3,.slice a4 c.Z3.length k4]):=hid (by rw [hW];exact(P2.out.Zx 2 _).Zx 3 _);have Q5:Hid (ZP W5 (w.heap.size+1) 33 [.int .i64 0,.int .i64 0,.slice none 0 0,.slice none 0 0,.slice none 0 0,.slice none 0 0,.slice none 0 0]):=hid (by rw [hW];exact(Q2.out.Wx (by show _≠w.heap.size;omega) _).Wx (by show _≠w.heap.size;omega) _)
 have HS5:=hid (HS2.out.keeps HK5.out (by decide));clear hW HB2 P2 Q2 HS2 HK5 p2 p3 f2 f3;go_loopw [18] (fun i wr=> ∃ (j:Nat) (ts:List Za) (B1:Option Addr) (l1:Nat),j≤c.ob.Z7.length∧i= .int .i64 j∧Hid (ts.map (·.1)=c.ob.Z7.take j)∧Hid (wr.ownsRow w.heap.size 89 2 (.slice B0 c.ob.Z4.length l0) c.ob.Z4.length (c.ob.Z4.flatMap Sc.cs))∧Hid (wr.ownsRow w.heap.size 73 5 (.slice B1 j l1) j (ts.flatMap Za.cs))∧Hid (∀ t∈ts,ZH wr (Xn wr KR) Zt t.1.da (Za.cs t))∧Hid (Below w.heap.size w wr)∧Hid (ZP wr w.heap.size 33 [.int .i64 c.ZO,.int .i64 c.ZU,.slice B0 c.ob.Z4.length l0,.slice B1 j l1,.slice a2 c.ro.ZW.length k2,.slice a3 c.ro.Z2.length k3,.slice a4 c.Z3.length k4])∧Hid (ZP wr (w.heap.size+1) 33 [.int .i64 0,.int .i64 0,.slice none 0 0,.slice none 0 0,.slice none 0 0,.slice none 0 0,.slice none 0 0])) (fun i _=>c.ob.Z7.length - (intOf i).toNat)
 case atStart=>exact⟨0,[],none,0,Nat.zero_le _,rfl,hid (by simp),HS5,hid (World.ownsRow_nil _ _ _ _),hid (fun t h=>absurd h (by simp)),HB5,P5,Q5⟩
 case round=>
  clear HB5 P5 Q5 HS5;obtain⟨j,ts,B1,l1,hj,rfl,HD,HSo,HTo,HCe,HBw,HP,HQ⟩:=hrel;by_cases hlt:j<c.ob.Z7.length
  ·obtain⟨wo,hwo⟩: ∃ wo,wo=wr:=⟨_,rfl⟩
   subst hwo;have htt:=HT.out.1.2.2 c.ob.Z7[j] (List.getElem_mem hlt);have HTk:Hid (c.ob.Z7.take (j+1)=c.ob.Z7.take j ++ [c.ob.Z7[j]]):=hid (List.take_succ_eq_append_getElem hlt);obtain⟨ad,vs,rfl,hv,hr⟩:=(HTb.out.later HBw.out).at_ (j:=j) (by simpa using hlt);rw [List.getElem_map] at hv;generalize c.ob.Z7[j]=t at*;obtain⟨X,x,Y,y,rfl,hX,hY⟩:=Tb.YO hv;have HXr:=hid (Cl.Yj hX);obtain⟨rs0,hrs,hr1,hr2⟩:=Ru.Yj hY;have HRs:=hid hrs;have HR1:=hid hr1;have HR2:=hid hr2;have hcl:=htt.1;have hrl:=htt.2.1;have HTr:=hid htt.2.2;have hrn:rs0.length=t.ZS.length:=by rw [←hrs,List.length_map]
   have HG:Hid (∀ i u,(t.cs X x Y y)[i]?=some u→wo.cell? ((ad.add (j*5)).add i)=some u):=hid fun i u hu=>by rw [ZG];exact hr i u hu
   clear hv hr hX hY htt hrs hr1 hr2;unfold Tb.cs at HG;have HL:Hid ((Tryz.prog.info? 73).map (·.size)=some ([.string (Z9 t.Z8),.string (Z9 t.name),.string (Z9 t.ZL),.slice X t.ZX.length x,.slice Y t.ZS.length y]:List Value).length):=HI5;have hpl:=HP.out.lt;have hql:=HQ.out.lt;go_wp2_with (first | (with_reducible refine ZI rfl 73 _ rfl (ad.add (j*5)) rfl [.string (Z9 t.Z8),.string (Z9 t.name),.string (Z9 t.ZL),.slice X t.ZX.length x,.slice Y t.ZS.length y] _ HG.out Tryz.underlying73 rfl HL.out ?_) | fail);refine Uv _ fun Wl hW=> ?_
   have HBr:=bP hW;have T5:=nC hW;clear hW HG HL;have hS0:Wl.drew.cell? ⟨wo.heap.size,3,none⟩=some (.slice X t.ZX.length x)∧Wl.drew.cell? ⟨wo.heap.size,4,none⟩=some (.slice Y t.ZS.length y):=⟨T5.out.drew.cell 3,T5.out.drew.cell 4⟩
   refine Zy 7 (S:=fun w'=>w'.cell? ⟨wo.heap.size,3,none⟩=some (.slice X t.ZX.length x)∧w'.cell? ⟨wo.heap.size,4,none⟩=some (.slice Y t.ZS.length y)) (by kernel_rfl) hS0 (fun HD'=> ?_)
   (try simp only [pp]);refine Y9 0 22 HD' ?_;refine Y9 1 23 HD' ?_;refine Y9 3 25 HD' ?_;refine Y9 4 26 HD' ?_;refine Re 2 24 fun K hK=> ?_
   go_simp;refine(TK X x t.ZX Wl.drew (HXr.out.later HBr.out.drew) hcl).mono ?_
   rintro e V1 ⟨X2,x2,rfl,ho,hb⟩;have HC1:=hid (ho.Yn (show wo.heap.size≤Wl.drew.heap.size from HBr.out.size));have HVl1:Hid (Below Wl.heap.size Wl V1):=hid (br.drew.trans hb);have HV1:=bt HBr HVl1.out;have T1:=bl T5 HVl1.out;have HDf:V1.cell? ⟨wo.heap.size,3,none⟩=some (.slice X t.ZX.length x)∧V1.cell? ⟨wo.heap.size,4,none⟩=some (.slice Y t.ZS.length y):=⟨T1.out.cell 3,T1.out.cell 4⟩
   clear ho hb T5;refine hK.out _ _ HDf ?_
   clear hK K;(try simp only [pp])
   clear HD';have HD':=HDf;refine Y9 6 28 HD' ?_;refine Re 5 27 fun K hK=> ?_
   go_simp;have hcR:=Sf Y y rs0 V1 (HR1.out.later HV1.out) (by omega);rw [hrn] at hcR;refine hcR.mono ?_
   rintro e V2 ⟨Y2,y2,rfl,ho,hb⟩;have HV2:=bt HV1 hb;have HRo2:=hid (ho.Yn HV1.out.size);have HC2:=hid (HC1.out.Zw hb);have T2:=bl T1 hb;have HDg:V2.cell? ⟨wo.heap.size,3,none⟩=some (.slice X t.ZX.length x)∧V2.cell? ⟨wo.heap.size,4,none⟩=some (.slice Y t.ZS.length y):=⟨T2.out.cell 3,T2.out.cell 4⟩
   clear ho hb hcR T1 HC1;refine hK.out _ _ HDg ?_
   clear hK K;(try simp only [pp])
   clear HD';have HD':=HDg;refine ZC.Xo (i:=7) (o:=⟨none,_,_,_,_,_⟩) (by kernel_rfl) (by kernel_rfl) rfl (fun K hK=> ?_)
   have e3:V2.cell? ⟨wo.heap.size,3,none⟩=some (.slice X t.ZX.length x):=HDg.1;have e4:V2.cell? ⟨wo.heap.size,4,none⟩=some (.slice Y t.ZS.length y):=HDg.2;have f3:=T2.out.frozen 3;have f4:=T2.out.frozen 4;go_simp;refine hK.out _ _ ?_
   clear hK K;(try simp only [pp])
   refine ZC.behind (i:=8) (o:=⟨some 29,_,_,_,_,_⟩) (by kernel_rfl) (by kernel_rfl) rfl (fun K hK=> ?_)
   go_simp;refine hK.out _ _ ?_
   clear hK K;(try simp only [pp])
   refine ZC.behind (i:=9) (o:=⟨none,_,_,_,_,_⟩) (by kernel_rfl) (by kernel_rfl) rfl (fun K hK=> ?_)
   go_simp;refine hK.out _ _ (ZC.done (by kernel_rfl) ?_ _);clear hK K HD' HDg HDf hS0 e3 e4 f3 f4;refine Sk _ fun V3 hV=> ?_
   have HKt:Hid (ZR [73] V2 V3):=hid (by rw [hV];exact(ZR.Zx T2.out.Xr (by simp) _).trans (ZR.Zx (T2.out.Xr.setCell _ _) (by simp) _));have T3:Hid (ZP V3 wo.heap.size 73 [.string (Z9 t.Z8),.string (Z9 t.name),.string (Z9 t.ZL),.slice X2 t.ZX.length x2,.slice Y2 t.ZS.length y2]):=hid (by rw [hV];exact(T2.out.Zx 3 _).Zx 4 _);have HV3:Hid (Below wo.heap.size wo V3):=hid (by rw [hV];exact(HV2.out.setCell lr _).setCell lr _);clear hV;have HRo3:=hid (HRo2.out.keeps HKt.out (by decide));have HC3:=hid (HC2.out.keeps HKt.out (by decide));clear T2 HV2 HRo2 HC2 HKt HV1 HVl1 HBr;have p4:=ce T3 4;go_wp2;go_loopw [33] (fun i wr=> ∃ (m:Nat) (rs:List Yv),m≤t.ZS.length∧i= .int .i64 m∧Hid (rs.map (·.1)=t.ZS)∧Hid (wr.ownsRow wo.heap.size 40 8 (.slice Y2 t.ZS.length y2) t.ZS.length (rs.flatMap Yv.cs))∧Hid (wr.ownsRow wo.heap.size 119 3 (.slice X2 t.ZX.length x2) t.ZX.length (t.ZX.flatMap Cl.cs))∧
  Hid (∀ (i:Nat) (h:i<rs.length),i<m→ZV wr (Nw wr wo.heap.size [9]) [.Z9] (YU rs[i].1.ZX) rs[i].2.1∧QJ rs[i].1)∧Hid (∀ (i:Nat) (h:i<rs.length),m≤i→ZV wo (· < wo.heap.size) [.Z9] (YU rs[i].1.ZX) rs[i].2.1∧QJ rs[i].1)∧Hid (Below wo.heap.size wo wr)∧Hid (ZP wr wo.heap.size 73 [.string (Z9 t.Z8),.string (Z9 t.name),.string (Z9 t.ZL),.slice X2 t.ZX.length x2,.slice Y2 t.ZS.length y2])) (fun i _=>t.ZS.length - (intOf i).toNat)
   case atStart=>exact⟨0,rs0,Nat.zero_le _,rfl,HRs,HRo3,HC3,hid (fun i h h0=>absurd h0 (by omega)),hid (fun i h _=>HR2.out _ (List.getElem_mem h)),HV3,T3⟩
   case round=>
    clear HRo3 HC3 HV3 T3 p4 HRs HR1 HR2;obtain⟨m,rs,hm,rfl,HRm,HRo,HCo,HDn,HE,HBq,HTq⟩:=hrel;have hrl2:rs.length=t.ZS.length:=by rw [←HRm.out,List.length_map]
    by_cases hlt2:m<t.ZS.length
    ·have hjr:m<rs.length:=by omega
     obtain⟨hlo,hbd⟩:=HE.out m hjr lr;have HLt:=hid (X9 hlo);have HBd:=hid hbd;have hrt:=(HTr.out rs[m].1 (by rw [←HRm.out];exact List.mem_map.2 ⟨_,List.getElem_mem hjr,rfl⟩)).1;obtain⟨g,rfl⟩: ∃ g,Y2=some ⟨g,0,none⟩:=by
      obtain⟨g,cap,hv,_,_⟩:=HRo.out.form (by omega);exact⟨g,by injection hv⟩
     obtain⟨hg1,hg2,hg3,hg4,hg5⟩:=ZK HRo.out;have hcell:=hg5 (m*8+2) (.slice rs[m].2.1 rs[m].1.ZX.length rs[m].2.2) (by rw [Zj Yv.k rs m 2 hjr (by omega)];rfl)
     have hfr:=hg4 (m*8+2);have HGT:=hid hg3;have HSet:=hid (fun(A':Option Addr) (c':Nat)=>Yf Yv.k rs m 2 hjr (by omega) (.slice A' rs[m].1.ZX.length c') ((rs[m].1,A',c'):Yv) rfl);clear hlo hbd hg3 hg4 hg5;generalize hr:rs[m]=r at*;have p4:=ce HTq 4;have hlp:=HTq.out.lt;have hb1:(m:Int)< (t.ZS.length:Int):=by omega
     go_wp2_with fail;have hS0:Below wr.heap.size wr wr.drew∧wr.drew.cell? ⟨wo.heap.size,4,none⟩=some (.slice (some ⟨g,0,none⟩) t.ZS.length y2)∧wr.drew.cell? ⟨g,m*8+2,none⟩=some (.slice r.2.1 r.1.ZX.length r.2.2):=⟨br.drew,p4,hcell⟩
     have hkeep:Hid (∀ w',Below wr.heap.size wr w'→(fun w'=>Below wr.heap.size wr w'∧w'.cell? ⟨wo.heap.size,4,none⟩=some (.slice (some ⟨g,0,none⟩) t.ZS.length y2)∧w'.cell? ⟨g,m*8+2,none⟩=some (.slice r.2.1 r.1.ZX.length r.2.2)) w'):=hid fun w' h=>⟨h,ct p4 h hlp,ct hcell h hg2⟩
     refine YB 12 (S:=fun w'=>Below wr.heap.size wr w'∧w'.cell? ⟨wo.heap.size,4,none⟩=some (.slice (some ⟨g,0,none⟩) t.ZS.length y2)∧w'.cell? ⟨g,m*8+2,none⟩=some (.slice r.2.1 r.1.ZX.length r.2.2)) (by kernel_rfl) hS0 (fun HD'=> ?_)
     (try simp only [pp]);refine Xk 0 36 HD' ?_;refine Xk 1 37 HD' ?_;refine Xk 2 38 HD' ?_;refine Xk 3 39 HD' ?_;refine Xk 4 40 HD' ?_;refine Xk 5 41 HD' ?_;refine Xk 6 42 HD' ?_;refine Xk 7 43 HD' ?_;refine Xk 8 44 HD' ?_;refine Vd 9 45 fun K hK=> ?_
     go_simp;have hD1:Below wr.heap.size wr wr.drew:=br.drew;refine(XG r.2.1 r.2.2 r.1.ZX wr.drew (HLt.out.below HBq.out |>.JZ (by simpa using HBq.out.size)) hrt).mono ?_
     rintro e w5 ⟨A',c',rfl,ho5,hb⟩;have HB5:Hid (Below wr.heap.size wr w5):=hid (hD1.trans hb);have HS5:=hid (Tq ho5);clear hb ho5;have HD':=hkeep.out _ HB5.out;refine hK.out _ _ HD' ?_
     clear hK K;(try simp only [pp])
     refine Vd 10 46 fun K hK=> ?_
     go_simp;refine hK.out _ _ HD' ?_
     clear hK K;(try simp only [pp])
     refine Vd 11 47 fun K hK=> ?_
     go_simp;refine hK.out _ _ HD' ?_
     clear hK K;(try simp only [pp])
     refine YI.Xo (i:=12) (o:=⟨none,_,_,_,_,_⟩) (by kernel_rfl) rfl rfl (fun K hK=> ?_)
     have e5:w5.cell? ⟨g,m*8+2,none⟩=some (.slice r.2.1 r.1.ZX.length r.2.2):=HD'.2.2;have f5:w5.frozen? ⟨g,m*8+2,none⟩=false:=(HB5.out.frozen (p:=⟨g,m*8+2,none⟩) hg2).trans hfr;go_simp;refine hK.out _ _ (YI.done (by kernel_rfl) ?_ _);clear hK K;have R1:=hid (HRo.out.Zw (by exact HB5.out));have hi8:m*8+2< (rs.flatMap Yv.cs).length:=by rw [Zq Yv.k];omega
     have R2:Hid ((w5.setCell ⟨g,m*8+2,none⟩ (.slice A' r.1.ZX.length c')).ownsRow wo.heap.size 40 8 (.slice (some ⟨g,0,none⟩) t.ZS.length y2) t.ZS.length ((rs.set m (r.1,A',c')).flatMap Yv.cs)):=hid (by
      rw [←HSet.out A' c'];exact XU R1.out hi8 _)
     have hK5:ZR [40] w5 (w5.setCell ⟨g,m*8+2,none⟩ (.slice A' r.1.ZX.length c')):=ZR.Zx (HGT.out.Tt (HB5.out.block g hg2)) (by simp) _;have C2:=hid ((HCo.out.Zw (by exact HB5.out)).keeps hK5 (by decide));have D2:=hid (OW (a:=((r.1,A',c'):Yv)) (P:=fun z=>ZV (w5.setCell ⟨g,m*8+2,none⟩ (.slice A' r.1.ZX.length c')) (Nw (w5.setCell ⟨g,m*8+2,none⟩ (.slice A' r.1.ZX.length c')) wo.heap.size [9]) [.Z9] (YU z.1.ZX) z.2.1∧QJ z.1)
      (fun i h hij=>⟨((HDn.out i h hij).1.RC (by exact HB5.out)).WD hK5 (by decide),(HDn.out i h hij).2⟩)
      ⟨(HS5.out.UF (by simpa using HBq.out.size) (fun _ h=>h)).WD hK5 (by decide),HBd.out⟩)
     have E2:=hid (Ou (l:=rs) (j:=m) (P:=fun z:Yv=>ZV wo (· < wo.heap.size) [.Z9] (YU z.1.ZX) z.2.1∧QJ z.1) (a:=((r.1,A',c'):Yv)) HE.out);have M2:Hid ((rs.set m (r.1,A',c')).map (·.1)=t.ZS):=hid (by rw [List.map_set,←HRm.out,←hr,←List.getElem_map (f:=fun x:Yv=>x.1) (h:=by simpa using hjr),List.set_getElem_self]);have B2:Hid (Below wo.heap.size wo (w5.setCell ⟨g,m*8+2,none⟩ (.slice A' r.1.ZX.length c'))):=hid ((HBq.out.trans (HB5.out.mono HBq.out.size)).setCell (by show wo.heap.size≤g;omega) _)
     have P2':=hid ((HTq.out.below HB5.out hlp).keeps hK5 (by decide));clear HRm HRo HCo HDn HE HBq HTq HD' R1 hkeep hS0 p4 hcell hfr e5 f5 HB5 HS5 hK5 hD1 HLt HSet HGT;go_wp2;go_roundw
     case rel=>exact⟨m+1,rs.set m (r.1,A',c'),by omega,by go_num,M2,R2,C2,D2,E2,B2,P2'⟩
     case measure=>simp [intOf];omega
    ·obtain rfl:m=t.ZS.length:=by omega
     have HPq:=bl HP HBq.out;have kq3:=ce HPq 3;have HPa:Hid (ZP (wr.alloc (.cells #[.string (Z9 t.Z8),.string (Z9 t.name),.string (Z9 t.ZL),.slice X2 t.ZX.length x2,.slice Y2 t.ZS.length y2] 73)) w.heap.size 33 [.int .i64 c.ZO,.int .i64 c.ZU,.slice B0 c.ob.Z4.length l0,.slice B1 j l1,.slice a2 c.ro.ZW.length k2,.slice a3 c.ro.Z2.length k3,.slice a4 c.Z3.length k4]):=hid (HPq.out.alloc _);have HOa:=hid ((HTo.out.Zw HBq.out).Zw ((Below.refl wr.heap.size wr).alloc lr (.cells #[.string (Z9 t.Z8),.string (Z9 t.name),.string (Z9 t.ZL),.slice X2 t.ZX.length x2,.slice Y2 t.ZS.length y2] 73)));have HNew:=hid (ZP.news (ZP.new wr 73 [.string (Z9 t.Z8),.string (Z9 t.name),.string (Z9 t.ZL),.slice X2 t.ZX.length x2,.slice Y2 t.ZS.length y2]));obtain⟨i0,hi0,hz0,hz1,hz2⟩:=info_parts VX;have hbz:w.heap.size≤(wr.alloc (.cells #[.string (Z9 t.Z8),.string (Z9 t.name),.string (Z9 t.ZL),.slice X2 t.ZX.length x2,.slice Y2 t.ZS.length y2] 73)).heap.size:=by have:=HBq.out.size;simp;omega
     go_wp2_with (first | (refine lO HTq HI5 Tryz.underlying73 ?_) | (at_builtin;refine YW rfl _ _ _ rfl w.heap.size 73 i0 _ 5 96 Tryz.underlying24 hi0 hz0 hz1 hz2 rfl (by decide) (.slice B1 j l1) j _ rfl HOa.out ⟨wr.heap.size,0,none⟩ 1 1 [.string (Z9 t.Z8),.string (Z9 t.name),.string (Z9 t.ZL),.slice X2 t.ZX.length x2,.slice Y2 t.ZS.length y2] rfl rfl HNew.out (by simp [Value.oneCell']) (by unfold maxLen;omega) (by omega) hbz ?_;intro A9 c9 w9 HO9 hg9;have R9:=hid (HPa.out.keeps (ZR.grown HOa.out hg9.out (by simp) hg9.out.size) (by decide:33∉ [73]));have k9:w9.cell? ⟨w.heap.size,3,none⟩=some (.slice B1 j l1):=R9.out.cell 3;have f9:w9.frozen? ⟨w.heap.size,3,none⟩=false:=R9.out.frozen 3) | fail);have HK9:Hid (ZR [73] (wr.alloc (.cells #[.string (Z9 t.Z8),.string (Z9 t.name),.string (Z9 t.ZL),.slice X2 t.ZX.length x2,.slice Y2 t.ZS.length y2] 73)) w9):=hid (ZR.grown HOa.out hg9.out (by simp) hg9.out.size);have HBa:Hid (Below wo.heap.size wo (wr.alloc (.cells #[.string (Z9 t.Z8),.string (Z9 t.name),.string (Z9 t.ZL),.slice X2 t.ZX.length x2,.slice Y2 t.ZS.length y2] 73))):=hid (HBq.out.alloc HBq.out.size _);have HB9:Hid (Below w.heap.size w w9):=hid ((HBw.out.trans (HBa.out.mono HBw.out.size)).grown hg9.out hbz (Zu HOa.out));have HKz:Hid (ZR [33] w9 (w9.setCell ⟨w.heap.size,3,none⟩ (.slice A9 (j+1) c9))):=hid (ZR.Zx R9.out.Xr (by simp) _);have HKa:Hid (ZR [73,33] wo (w9.setCell ⟨w.heap.size,3,none⟩ (.slice A9 (j+1) c9))):=hid (((ZR.Zp HBa.out lr).trans (HK9.out.Ya (by simp))).trans (HKz.out.Ya (by simp)));have HPz:Hid (ZP (w9.setCell ⟨w.heap.size,3,none⟩ (.slice A9 (j+1) c9)) w.heap.size 33 [.int .i64 c.ZO,.int .i64 c.ZU,.slice B0 c.ob.Z4.length l0,.slice A9 (j+1) c9,.slice a2 c.ro.ZW.length k2,.slice a3 c.ro.Z2.length k3,.slice a4 c.Z3.length k4]):=hid (R9.out.Zx 3 _);have HQz:Hid (ZP (w9.setCell ⟨w.heap.size,3,none⟩ (.slice A9 (j+1) c9)) (w.heap.size+1) 33 [.int .i64 0,.int .i64 0,.slice none 0 0,.slice none 0 0,.slice none 0 0,.slice none 0 0,.slice none 0 0]):=hid (((HQ.out.below HBa.out hql).keeps HK9.out (by decide)).Wx (by show _≠w.heap.size;omega) _)
     have HBz:Hid (Below w.heap.size w (w9.setCell ⟨w.heap.size,3,none⟩ (.slice A9 (j+1) c9))):=hid (HB9.out.setCell lr _);have HSz:=hid (HSo.out.keeps HKa.out (by decide));have HTz:Hid ((w9.setCell ⟨w.heap.size,3,none⟩ (.slice A9 (j+1) c9)).ownsRow w.heap.size 73 5 (.slice A9 (j+1) c9) (j+1) ((ts ++ [((t,X2,x2,Y2,y2):Za)]).flatMap Za.cs)):=hid (by
      rw [List.flatMap_append];simpa [Za.cs,Tb.cs] using HO9.out.keeps HKz.out (by decide))
     have HDz:Hid ((ts ++ [((t,X2,x2,Y2,y2):Za)]).map (·.1)=c.ob.Z7.take (j+1)):=hid (by rw [List.map_append,HD.out,HTk.out];rfl);have HTab:Hid (X5 wr wo.heap.size wr.heap.size (t,X2,x2,Y2,y2)):=hid ⟨HCo.out,fun k hk=>XQ HCo.out hk,⟨rs,HRm.out,HRo.out,fun r hr=>by
      obtain⟨i,hi,rfl⟩:=List.getElem_of_mem hr;obtain⟨h1,h2⟩:=HDn.out i hi (by omega);exact⟨h1.Y6 (fun k hk=>⟨hk,hk.lt⟩) (fun _ _=>rfl),h2⟩⟩,fun k hk=>XQ HRo.out hk⟩
     have HKr:Hid (ZR [73,33] wr (w9.setCell ⟨w.heap.size,3,none⟩ (.slice A9 (j+1) c9))):=hid (((ZR.Zp ((Below.refl wr.heap.size wr).alloc lr _) lr).trans (HK9.out.Ya (by simp))).trans (HKz.out.Ya (by simp)));have HCz:Hid (∀ z∈ts ++ [((t,X2,x2,Y2,y2):Za)],ZH (w9.setCell ⟨w.heap.size,3,none⟩ (.slice A9 (j+1) c9)) (Xn (w9.setCell ⟨w.heap.size,3,none⟩ (.slice A9 (j+1) c9)) KR) Zt z.1.da (Za.cs z)):=hid (by
      intro z hz;rcases List.mem_append.1 hz with h1 | h1
      ·exact(HCe.out z h1).keeps HKa.out (by decide)
      ·rw [List.mem_singleton.1 h1];exact ZH.Y6 (fun k hk=>hk.Sz (fun _ h=>h)) (fun _ _=>rfl) _ _ _ ((HTab.out.keeps HKr.out (by decide) (by decide) (by decide)).VH))
     go_roundw
     case rel=>exact⟨j+1,_,A9,c9,by omega,by go_num,HDz,HSz,HTz,HCz,HBz,HPz,HQz⟩
     case measure=>simp [intOf];omega
  ·obtain rfl:j=c.ob.Z7.length:=by omega
   rw [List.take_length] at HD;have htsl:ts.length=c.ob.Z7.length:=by rw [←HD.out,List.length_map]
   have HTbT:Hid (ZV wr (Xn wr CT) Zt (c.ob.Z7.map Tb.da) B1):=hid (by
    have h1:=Yk (S:=Xn wr CT) (sh:=Zt) Tb.da (·.1) Za.k HTo.out htsl.symm (fun a ha=>ZH.Y6 (fun _ ⟨t,ht,hp⟩=>⟨t,(by decide: ∀ t,t∈KR→t∈CT) t ht,hp⟩) (fun _ _=>rfl) _ _ _ (HCe.out a ha));rw [HD.out] at h1;exact h1.Y6 (fun k hk=>by
     rcases hk with hk | hk
     ·exact hk
     ·exact hk.Sz (by decide)) (fun _ _=>rfl))
   have HScT:Hid (ZV wr (Xn wr CT) Zh (c.ob.Z4.map Sc.da) B0):=hid (Pv HSo.out);clear HTo HCe HSo HD hlt;go_wp2_with fail;have hS9:wr.drew.cell? ⟨w.heap.size,4,none⟩=some (.slice a2 c.ro.ZW.length k2)∧wr.drew.cell? ⟨w.heap.size,5,none⟩=some (.slice a3 c.ro.Z2.length k3):=⟨HP.out.cell 4,HP.out.cell 5⟩
   refine Zy 10 (S:=fun w'=>w'.cell? ⟨w.heap.size,4,none⟩=some (.slice a2 c.ro.ZW.length k2)∧w'.cell? ⟨w.heap.size,5,none⟩=some (.slice a3 c.ro.Z2.length k3)) (by kernel_rfl) hS9 (fun HD'=> ?_)
   (try simp only [pp]);refine Y9 0 58 HD' ?_;refine Y9 1 59 HD' ?_;refine Y9 2 60 HD' ?_;refine Y9 4 62 HD' ?_;refine Y9 5 63 HD' ?_;refine Y9 6 64 HD' ?_;refine Re 3 61 fun K hK=> ?_
   go_simp;refine(XG a2 k2 c.ro.ZW wr.drew (X9 (HNm.out.later HBw.out.drew)) hnl).mono ?_
   rintro e V1 ⟨B2,l2,rfl,ho,hb⟩;have HN1:=hid (ho.Yn (show w.heap.size≤wr.drew.heap.size from HBw.out.size));have HVb1:Hid (Below wr.heap.size wr V1):=hid (br.drew.trans hb);have PV1:=bl HP HVb1.out;have HDf:V1.cell? ⟨w.heap.size,4,none⟩=some (.slice a2 c.ro.ZW.length k2)∧V1.cell? ⟨w.heap.size,5,none⟩=some (.slice a3 c.ro.Z2.length k3):=⟨PV1.out.cell 4,PV1.out.cell 5⟩
   clear ho hb;refine hK.out _ _ HDf ?_
   clear hK K;(try simp only [pp])
   clear HD';have HD':=HDf;refine Re 7 65 fun K hK=> ?_
   go_simp;refine(Xy a3 k3 c.ro.Z2 V1 (Mb.Yj (HMb.out.later (HBw.out.trans (HVb1.out.mono HBw.out.size)))) hml).mono ?_
   rintro e V2 ⟨B3,l3,rfl,ho,hb⟩;have HVb2:=bt HVb1 hb;have HM2:=hid (ho.Yn (Nat.le_trans HBw.out.size HVb1.out.size));have HN2:=hid (HN1.out.Zw hb);have PV2:=bl HP HVb2.out;have HDg:V2.cell? ⟨w.heap.size,4,none⟩=some (.slice a2 c.ro.ZW.length k2)∧V2.cell? ⟨w.heap.size,5,none⟩=some (.slice a3 c.ro.Z2.length k3):=⟨PV2.out.cell 4,PV2.out.cell 5⟩
   clear ho hb;refine hK.out _ _ HDg ?_
   clear hK K;(try simp only [pp])
   clear HD';have HD':=HDg;refine U7 8 66 (fun _=>HD') ?_;refine U7 9 67 (fun _=>HD') ?_;refine ZC.Xo (i:=10) (o:=⟨none,_,_,_,_,_⟩) (by kernel_rfl) (by kernel_rfl) rfl (fun K hK=> ?_)
   have e4:V2.cell? ⟨w.heap.size,4,none⟩=some (.slice a2 c.ro.ZW.length k2):=HDg.1;have e5:V2.cell? ⟨w.heap.size,5,none⟩=some (.slice a3 c.ro.Z2.length k3):=HDg.2;have f4:=PV2.out.frozen 4;have f5:=PV2.out.frozen 5;go_simp;refine hK.out _ _ (ZC.done (by kernel_rfl) ?_ _);clear hK K HD' HDg HDf hS9 e4 e5 f4 f5;refine Sk _ fun V3 hV=> ?_
   have HK3:Hid (ZR [33] V2 V3):=hid (by rw [hV];exact(ZR.Zx PV2.out.Xr (by simp) _).trans (ZR.Zx (PV2.out.Xr.setCell _ _) (by simp) _));have PV3:Hid (ZP V3 w.heap.size 33 [.int .i64 c.ZO,.int .i64 c.ZU,.slice B0 c.ob.Z4.length l0,.slice B1 c.ob.Z7.length l1,.slice B2 c.ro.ZW.length l2,.slice B3 c.ro.Z2.length l3,.slice a4 c.Z3.length k4]):=hid (by rw [hV];exact(PV2.out.Zx 4 _).Zx 5 _);have QV3:Hid (ZP V3 (w.heap.size+1) 33 [.int .i64 0,.int .i64 0,.slice none 0 0,.slice none 0 0,.slice none 0 0,.slice none 0 0,.slice none 0 0]):=hid (by rw [hV];exact((HQ.out.below HVb2.out HQ.out.lt).Wx (by show _≠w.heap.size;omega) _).Wx (by show _≠w.heap.size;omega) _)
   have HBV3:Hid (Below w.heap.size w V3):=hid (by rw [hV];exact((HBw.out.trans (HVb2.out.mono HBw.out.size)).setCell lr _).setCell lr _);clear hV;have g6:=ce PV3 6;go_wp2_with fail;refine(VP a4 k4 c.Z3 V3 (Gr.Yj (HGr.out.later HBV3.out)) hgl).mono ?_
   rintro e V4 ⟨B4,l4,rfl,ho,hb⟩;have HG4:=hid (ho.Yn HBV3.out.size);have HBV4:=bt HBV3 hb;have PV4:=bl PV3 hb;have QV4:=bl QV3 hb;have HK4:Hid (ZR [33] wr V4):=hid (((ZR.Zp HVb2.out lr).trans HK3.out).trans (ZR.Zp hb lr));have HN4:=hid ((HN2.out.keeps HK3.out (by decide)).Zw hb);have HM4:=hid ((HM2.out.keeps HK3.out (by decide)).Zw hb);clear ho hb g6 PV3 QV3 HN2 HM2 HK3 HBV3;have g6:=ce PV4 6;have f6:=PV4.out.frozen 6;have PV5:Hid (ZP (V4.setCell ⟨w.heap.size,6,none⟩ (.slice B4 c.Z3.length l4)) w.heap.size 33 [.int .i64 c.ZO,.int .i64 c.ZU,.slice B0 c.ob.Z4.length l0,.slice B1 c.ob.Z7.length l1,.slice B2 c.ro.ZW.length l2,.slice B3 c.ro.Z2.length l3,.slice B4 c.Z3.length l4]):=hid (PV4.out.Zx 6 _);have QV5:Hid (ZP (V4.setCell ⟨w.heap.size,6,none⟩ (.slice B4 c.Z3.length l4)) (w.heap.size+1) 33 [.int .i64 0,.int .i64 0,.slice none 0 0,.slice none 0 0,.slice none 0 0,.slice none 0 0,.slice none 0 0]):=hid (QV4.out.Wx (by show _≠w.heap.size;omega) _)
   have HBV5:Hid (Below w.heap.size w (V4.setCell ⟨w.heap.size,6,none⟩ (.slice B4 c.Z3.length l4))):=hid (HBV4.out.setCell lr _);have HK5:Hid (ZR [33] V4 (V4.setCell ⟨w.heap.size,6,none⟩ (.slice B4 c.Z3.length l4))):=hid (ZR.Zx PV4.out.Xr (by simp) _);go_wp2_with (first | (refine lO PV5 HI7 Tryz.underlying33 ?_) | ((refine sO QV5 HI7 ?_);intro wZ HZ) | fail);refine bodyPost_ret (rS (hid HZ.out.X8) Tryz.underlying33 HI7) rfl ?_
   have hKz:=HK5.out.trans HZ.out.keeps;have hKw:=HK4.out.trans hKz;exact⟨⟨B0,l0,B1,l1,B2,l2,B3,l3,B4,l4⟩,rfl,⟨ZB HScT.out hKw (by decide),ZB HTbT.out hKw (by decide),ZB (VN (us:=CT) HN4.out) hKz (by decide),ZB (Sv (us:=CT) HM4.out) hKz (by decide),ZB (XL (us:=CT) HG4.out) hKz (by decide)⟩,HZ.out.below HBV5.out (by omega)⟩
end Go.Proofs.YtnhmoibjlakhjaaGreat
