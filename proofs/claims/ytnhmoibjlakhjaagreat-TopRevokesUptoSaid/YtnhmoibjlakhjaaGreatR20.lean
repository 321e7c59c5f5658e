/- Lemmas of the proof. No condition but each theorem's own. -/
import Derived.Test.YtnhmoibjlakhjaaGreatR19
import Derived.Deep.DeepCutAuto
import Derived.Test.YtnhmoibjlakhjaaGreatR03
import Derived.Test.YtnhmoibjlakhjaaGreatR10
import Derived.Deep.AppendLies
import Derived.Lib.SliceRun
import Derived.Test.YtnhmoibjlakhjaaGreatR17
import Derived.Test.YtnhmoibjlakhjaaGreatR18
set_option linter.unusedVariables false
set_option linter.unusedSimpArgs false
namespace Go.Proofs.YtnhmoibjlakhjaaGreat
open Lib (hid)
set_option maxRecDepth 100000
set_option maxHeartbeats 16000000
open Go.RowKit
def RV (o:Ob):Int:=if YT o=true then 0 else 63
theorem Rh (o:Ob)(s:List UInt8):(o.Z7.map Tb.da).countP (fun d=>tx d 0 == s)=XC o s:=by
 unfold XC;rw [List.countP_map,List.countP_eq_length_filter];rfl
def Rt (o:Ob)(s:Sc):Bool:=Zr s.name && Zr s.ZL && decide (XC o s.name≤8)
theorem UI (o:Ob)(A0:Option Addr)(k0:Nat)(A1:Option Addr)(k1:Nat)(w:World)(hS:ZV w (· < w.heap.size) Zh (o.Z4.map Sc.da) A0)(hT:ZV w (· < w.heap.size) Zt (o.Z7.map Tb.da) A1)(ho:o.Zv 1099511627776):
  Calls Tryz.prog 48 #[.agg #[.slice A0 o.Z4.length k0,.slice A1 o.Z7.length k1]] w fun e w'=>e= .returned (.int .i64 (RV o))∧Below w.heap.size w w':=by
 have HS:=hid hS;have HT:=hid hT;have HO:=hid ho;have hsl:=ho.1;have htl:=ho.2.1;clear hS hT ho;have HR:Hid (YT o=(decide (o.Z4.length≤8) && decide (o.Z7.length≤64) && Zo Xm o.Z7 && Zo WO o.Z4 && o.Z4.all (Rt o) && o.Z7.all (YV o))):=hid rfl;have HE0:Hid (RV o=if YT o=true then 0 else 63):=hid rfl;generalize RV o=err at*;generalize YT o=res at*;have c1:=fun W h=>On o.Z7 A1 k1 W h htl
 have c2:=fun W h=>Pr o.Z4 A0 k0 W h hsl
 generalize Zo Xm o.Z7=p3 at*;generalize Zo WO o.Z4=p4 at*;have HF:Hid (∃ b,b=(decide (o.Z4.length≤8) && decide (o.Z7.length≤64) && p3 && p4)):=hid ⟨_,rfl⟩;go_enter Tryz.func48,Tryz.ntmps48
 go_upto_region 1 with fail
 refine Uv _ fun W0 hW=> ?_
 have HB0:=bP hW;have X0:=nC hW;clear hW;have a0:=ce X0 0;have a1:=ce X0 1;go_cut [3] (fun v W=> ∃ b,v= .bool b∧Hid (b=(decide (o.Z4.length≤8) && decide (o.Z7.length≤64) && p3))∧Hid (Below w.heap.size w W)∧Hid (ZP W w.heap.size 26 [.slice A0 o.Z4.length k0,.slice A1 o.Z7.length k1]))
 case first=>
  by_cases h1:o.Z4.length≤8
  ·have h1':(o.Z4.length:Int)≤8:=by omega
   by_cases h2:o.Z7.length≤64
   ·have h2':(o.Z7.length:Int)≤64:=by omega
    go_wp2_with fail;refine(c1 W0 (HT.out.later HB0.out)).mono ?_
    rintro e W1 ⟨rfl,hb⟩;have HB1:=bt HB0 hb;have X1:=bl X0 hb;clear hb;go_wp2;go_meet
    case rel=>exact⟨p3,rfl,hid (by simp [h1,h2]),HB1,X1⟩
   ·have h2': ¬ (o.Z7.length:Int)≤64:=by omega
    go_wp2;go_meet
    case rel=>exact⟨false,rfl,hid (by simp [h2]),HB0,X0⟩
  ·have h1': ¬ (o.Z4.length:Int)≤8:=by omega
   go_wp2;go_meet
   case rel=>exact⟨false,rfl,hid (by simp [h1]),HB0,X0⟩
 case rest=>
 clear a0 a1 HB0 X0;obtain⟨b,rfl,HB,HB0,X0⟩:=hcut;go_upto_region 2 with fail
 have a0:=ce X0 0;go_cut [3] (fun v W=> ∃ b,v= .bool b∧Hid (b=(decide (o.Z4.length≤8) && decide (o.Z7.length≤64) && p3 && p4))∧Hid (Below w.heap.size w W)∧Hid (ZP W w.heap.size 26 [.slice A0 o.Z4.length k0,.slice A1 o.Z7.length k1]))
 case first=>
  cases b
  ·go_wp2;go_meet
   case rel=>exact⟨false,rfl,hid (by rw [←HB.out];rfl),HB0,X0⟩
  ·go_wp2_with fail;refine(c2 wc (HS.out.later HB0.out)).mono ?_
   rintro e W1 ⟨rfl,hb⟩;have HB1:=bt HB0 hb;have X1:=bl X0 hb;clear hb;go_wp2;go_meet
   case rel=>exact⟨p4,rfl,hid (by rw [←HB.out];rfl),HB1,X1⟩
 case rest=>
 clear a0 HB0 X0 HB c1 c2;obtain⟨b,rfl,HB,HB0,X0⟩:=hcut;have HR1:Hid (res=(b && o.Z4.all (Rt o) && o.Z7.all (YV o))):=hid (by rw [HR.out,HB.out]);clear HR HB HF;go_wp2;go_loopw [3,4] (fun v i wr=> ∃ (b:Bool) (j:Nat),j≤o.Z4.length∧v= .bool b∧i= .int .i64 j∧Hid (res=(b && (o.Z4.drop j).all (Rt o) && o.Z7.all (YV o)))∧Hid (Below w.heap.size w wr)∧Hid (ZP wr w.heap.size 26 [.slice A0 o.Z4.length k0,.slice A1 o.Z7.length k1])) (fun _ i _=>o.Z4.length - (intOf i).toNat)
 case atStart=>exact⟨b,0,Nat.zero_le _,rfl,rfl,hid (by rw [List.drop_zero];exact HR1.out),HB0,X0⟩
 case round=>
  clear HB0 X0 HR1;obtain⟨b,j,hj,rfl,rfl,HR1,HBw,HX⟩:=hrel
  cases b
  ·have HR2:Hid (res=(false && o.Z7.all (YV o))):=hid (by rw [HR1.out];rfl);clear HR1;go_wp2;go_loopw [3,6] (fun v i wr=> ∃ (b:Bool) (j:Nat),j≤o.Z7.length∧v= .bool b∧i= .int .i64 j∧Hid (res=(b && (o.Z7.drop j).all (YV o)))∧Hid (Below w.heap.size w wr)∧Hid (ZP wr w.heap.size 26 [.slice A0 o.Z4.length k0,.slice A1 o.Z7.length k1])) (fun _ i _=>o.Z7.length - (intOf i).toNat)
   case atStart=>exact⟨false,0,Nat.zero_le _,rfl,rfl,hid (by rw [List.drop_zero];exact HR2.out),HBw,HX⟩
   case round=>
    clear HBw HX HR2;obtain⟨b,j,hj,rfl,rfl,HR3,HBw,HX⟩:=hrel
    cases b
    ·obtain rfl:res=false:=HR3.out;obtain rfl:err=63:=HE0.out;go_wp2;go_ret;exact⟨rfl,HBw.out⟩
    by_cases hlt:j<o.Z7.length
    ·have HQ:Hid (res=(YV o o.Z7[j] && (o.Z7.drop (j+1)).all (YV o))):=hid (by rw [HR3.out,Bool.true_and,Wb (YV o) o.Z7 j hlt]);have hta:=HO.out.2.2 o.Z7[j] (List.getElem_mem hlt);obtain⟨ad,vs,e1,hv,hr⟩:=(HT.out.later HBw.out).at_ (j:=j) (by simpa using hlt);rw [List.getElem_map] at hv;generalize o.Z7[j]=t at*;obtain⟨X,x,Y,y,rfl,hX,hY⟩:=Tb.YO hv;have HXr:=hid hX;have HYr:=hid hY;have HTa:=hid hta;have HT':=HT;subst e1;have f0:=e0 (m:=j*5) hr;have f1:=ef (m:=j*5) hr 1;have f2:=ef (m:=j*5) hr 2;have f3:=ef (m:=j*5) hr 3;have f4:=ef (m:=j*5) hr 4;clear hv hr hX hY hta;have a0:=ce HX 0;have a1:=ce HX 1;have hb1:(j:Int)< (o.Z7.length:Int):=by omega
     have hz:=World.block_lt_of_cell? wr _ f0;have hlx:=HX.out.lt;have hW0:Below wr.heap.size wr wr.drew:=Below.drew br;have hkeep:Hid (∀ w1 w2,(fun w'=>Below wr.heap.size wr w'∧w'.cell? ⟨w.heap.size,0,none⟩=some (.slice A0 o.Z4.length k0)∧w'.cell? ⟨w.heap.size,1,none⟩=some (.slice (some ad) o.Z7.length k1)∧w'.cell? (ad.add (j*5))=some (.string (Z9 t.Z8))∧w'.cell? ⟨(ad.add (j*5)).block,(ad.add (j*5)).off+1,none⟩=some (.string (Z9 t.name))∧w'.cell? ⟨(ad.add (j*5)).block,(ad.add (j*5)).off+2,none⟩=some (.string (Z9 t.ZL))∧w'.cell? ⟨(ad.add (j*5)).block,(ad.add (j*5)).off+3,none⟩=some (.slice X t.ZX.length x)∧w'.cell? ⟨(ad.add (j*5)).block,(ad.add (j*5)).off+4,none⟩=some (.slice Y t.ZS.length y)) w1→Below w1.heap.size w1 w2→(fun w'=>Below wr.heap.size wr w'∧w'.cell? ⟨w.heap.size,0,none⟩=some (.slice A0 o.Z4.length k0)∧w'.cell? ⟨w.heap.size,1,none⟩=some (.slice (some ad) o.Z7.length k1)∧w'.cell? (ad.add (j*5))=some (.string (Z9 t.Z8))∧w'.cell? ⟨(ad.add (j*5)).block,(ad.add (j*5)).off+1,none⟩=some (.string (Z9 t.name))∧w'.cell? ⟨(ad.add (j*5)).block,(ad.add (j*5)).off+2,none⟩=some (.string (Z9 t.ZL))∧w'.cell? ⟨(ad.add (j*5)).block,(ad.add (j*5)).off+3,none⟩=some (.slice X t.ZX.length x)∧w'.cell? ⟨(ad.add (j*5)).block,(ad.add (j*5)).off+4,none⟩=some (.slice Y t.ZS.length y)) w2):=hid (by
      intro w1 w2 ⟨h1,_⟩ h2;have h3:Below wr.heap.size wr w2:=h1.trans (h2.mono h1.size);exact⟨h3,ct a0 h3 hlx,ct a1 h3 hlx,(h3.cell (p:=(ad.add (j*5))) hz).trans f0,ct f1 h3 hz,ct f2 h3 hz,ct f3 h3 hz,ct f4 h3 hz⟩)
     have hrt:Hid (∀ W,Below wr.heap.size wr W→Calls Tryz.prog 109 #[.agg #[.slice A0 o.Z4.length k0,.slice (some ad) o.Z7.length k1],.agg (t.cs X x Y y).toArray] W fun e w'=>e= .returned (.bool (YV o t))∧Below W.heap.size W w'):=hid fun W h=>
      Ql o A0 k0 (some ad) k1 t X x Y y W (HS.out.later (HBw.out.trans (h.mono HBw.out.size))) (HT.out.later (HBw.out.trans (h.mono HBw.out.size))) (HXr.out.later h) (HYr.out.later h) HO.out HTa.out
     unfold Tb.cs at hrt;generalize YV o t=q at*;go_wp2_with fail;go_region_held_law (fun w'=>Below wr.heap.size wr w'∧w'.cell? ⟨w.heap.size,0,none⟩=some (.slice A0 o.Z4.length k0)∧w'.cell? ⟨w.heap.size,1,none⟩=some (.slice (some ad) o.Z7.length k1)∧w'.cell? (ad.add (j*5))=some (.string (Z9 t.Z8))∧w'.cell? ⟨(ad.add (j*5)).block,(ad.add (j*5)).off+1,none⟩=some (.string (Z9 t.name))∧w'.cell? ⟨(ad.add (j*5)).block,(ad.add (j*5)).off+2,none⟩=some (.string (Z9 t.ZL))∧w'.cell? ⟨(ad.add (j*5)).block,(ad.add (j*5)).off+3,none⟩=some (.slice X t.ZX.length x)∧w'.cell? ⟨(ad.add (j*5)).block,(ad.add (j*5)).off+4,none⟩=some (.slice Y t.ZS.length y))
      (first | exact hkeep.out _ _ (by assumption) (by assumption) | exact⟨hW0,a0,a1,f0,f1,f2,f3,f4⟩)
      (first | (go_at_call 109;refine(hrt.out _ (by first | exact hW0 | assumption)).mono ?_;rintro e w' ⟨rfl,hb⟩))
     rename_i hS;have HB2:=bt HBw hS.1;have HX2:=bl HX hS.1;clear hS;go_wp2;go_roundw
     case rel=>exact⟨q,j+1,by omega,rfl,by go_num,HQ,HB2,HX2⟩
     case measure=>simp [intOf];omega
    ·obtain rfl:j=o.Z7.length:=by omega
     rw [List.drop_length] at HR3;obtain rfl:res=true:=HR3.out;obtain rfl:err=0:=HE0.out;have a1:=ce HX 1;go_wp2;go_ret;exact⟨rfl,HBw.out⟩
  by_cases hlt:j<o.Z4.length
  ·have a0:=ce HX 0;have HQ:Hid (res=(Rt o o.Z4[j] && (o.Z4.drop (j+1)).all (Rt o) && o.Z7.all (YV o))):=hid (by rw [HR1.out,Bool.true_and,Wb (Rt o) o.Z4 j hlt]);obtain⟨ad,vs,rfl,hv,hr⟩:=(HS.out.later HBw.out).at_ (j:=j) (by simpa using hlt);rw [List.getElem_map] at hv;generalize o.Z4[j]=sc at*;obtain rfl:=Sc.YO hv;have f0:=e0 (m:=j*2) hr;have f1:=ef (m:=j*2) hr 1;clear hv hr HR1;have hb1:(j:Int)< (o.Z4.length:Int):=by omega
   have HSc:Hid (Rt o sc=(Zr sc.name && Zr sc.ZL && decide (XC o sc.name≤8))):=hid rfl;generalize Rt o sc=q at*;go_wp2_with fail;refine Zm _ fun W1 hW=> ?_
   have HB1:=rL hW (HBw.out.alloc HBw.out.size _);have HX1:=rB hW (HX.out.alloc _);have HY1:=nC hW;clear hW HX HBw a0 f0 f1;refine(YL sc.name W1).mono ?_
   rintro e W2 ⟨rfl,m1,rfl⟩;have HB2:=hid (below_drewN HB1.out m1);have HX2:=hid (HX1.out.drewN m1);have HY2:=hid (HY1.out.drewN m1);clear HB1 HX1 HY1;generalize W1.drewN m1=W2 at*;generalize Zr sc.name=n1 at*
   cases n1
   ·have HR':Hid (res=(false && (o.Z4.drop (j+1)).all (Rt o) && o.Z7.all (YV o))):=hid (by rw [HQ.out,HSc.out];rfl);go_wp2;go_roundw
    case rel=>exact⟨false,j+1,by omega,rfl,by go_num,HR',HB2,HX2⟩
    case measure=>simp [intOf];omega
   have b1:=ce HY2 1;go_wp2_with fail;refine(YL sc.ZL W2).mono ?_
   rintro e W3 ⟨rfl,m2,rfl⟩;have HB3:=hid (below_drewN HB2.out m2);have HX3:=hid (HX2.out.drewN m2);have HY3:=hid (HY2.out.drewN m2);clear HB2 HX2 HY2 b1;generalize W2.drewN m2=W3 at*;generalize Zr sc.ZL=n2 at*
   cases n2
   ·have HR':Hid (res=(false && (o.Z4.drop (j+1)).all (Rt o) && o.Z7.all (YV o))):=hid (by rw [HQ.out,HSc.out];rfl);go_wp2;go_roundw
    case rel=>exact⟨false,j+1,by omega,rfl,by go_num,HR',HB3,HX3⟩
    case measure=>simp [intOf];omega
   have b0:=ce HY3 0;have a0:=ce HX3 0;have a1:=ce HX3 1;go_wp2_with fail;have cW:=TY (o.Z4.map Sc.da) (o.Z7.map Tb.da) (some ad) k0 A1 k1 sc.name W3 (HT.out.later HB3.out) (by simpa using htl);rw [List.length_map,List.length_map,Rh] at cW;refine cW.mono ?_
   rintro e W4 ⟨rfl,hb⟩;have HB4:=bt HB3 hb;have HX4:=bl HX3 hb;clear hb cW HB3 HX3 HY3 b0 a0 a1;generalize XC o sc.name=nn at*;have hdec:decide (nn≤8)=decide ((nn:Int)≤8):=decide_eq_decide.2 (by omega);have HR':Hid (res=(decide ((nn:Int)≤8) && (o.Z4.drop (j+1)).all (Rt o) && o.Z7.all (YV o))):=hid (by rw [HQ.out,HSc.out,hdec];rfl)
   clear hdec;go_wp2;go_roundw
   case rel=>exact⟨decide ((nn:Int)≤8),j+1,by omega,rfl,by go_num,HR',HB4,HX4⟩
   case measure=>simp [intOf];omega
  ·have a0:=ce HX 0;have HR2:Hid (res=(true && o.Z7.all (YV o))):=hid (by
    rw [HR1.out,List.drop_eq_nil_of_le (by omega)];rfl)
   clear HR1;go_wp2;go_loopw [3,6] (fun v i wr=> ∃ (b:Bool) (j:Nat),j≤o.Z7.length∧v= .bool b∧i= .int .i64 j∧Hid (res=(b && (o.Z7.drop j).all (YV o)))∧Hid (Below w.heap.size w wr)∧Hid (ZP wr w.heap.size 26 [.slice A0 o.Z4.length k0,.slice A1 o.Z7.length k1])) (fun _ i _=>o.Z7.length - (intOf i).toNat)
   case atStart=>exact⟨true,0,Nat.zero_le _,rfl,rfl,hid (by rw [List.drop_zero];exact HR2.out),HBw,HX⟩
   case round=>
    clear HBw HX HR2;obtain⟨b,j,hj,rfl,rfl,HR3,HBw,HX⟩:=hrel
    cases b
    ·obtain rfl:res=false:=HR3.out;obtain rfl:err=63:=HE0.out;go_wp2;go_ret;exact⟨rfl,HBw.out⟩
    by_cases hlt:j<o.Z7.length
    ·have HQ:Hid (res=(YV o o.Z7[j] && (o.Z7.drop (j+1)).all (YV o))):=hid (by rw [HR3.out,Bool.true_and,Wb (YV o) o.Z7 j hlt]);have hta:=HO.out.2.2 o.Z7[j] (List.getElem_mem hlt);obtain⟨ad,vs,e1,hv,hr⟩:=(HT.out.later HBw.out).at_ (j:=j) (by simpa using hlt);rw [List.getElem_map] at hv;generalize o.Z7[j]=t at*;obtain⟨X,x,Y,y,rfl,hX,hY⟩:=Tb.YO hv;have HXr:=hid hX;have HYr:=hid hY;have HTa:=hid hta;have HT':=HT;subst e1;have f0:=e0 (m:=j*5) hr;have f1:=ef (m:=j*5) hr 1;have f2:=ef (m:=j*5) hr 2;have f3:=ef (m:=j*5) hr 3;have f4:=ef (m:=j*5) hr 4;clear hv hr hX hY hta;have a0:=ce HX 0;have a1:=ce HX 1;have hb1:(j:Int)< (o.Z7.length:Int):=by omega
     have hz:=World.block_lt_of_cell? wr _ f0;have hlx:=HX.out.lt;have hW0:Below wr.heap.size wr wr.drew:=Below.drew br;have hkeep:Hid (∀ w1 w2,(fun w'=>Below wr.heap.size wr w'∧w'.cell? ⟨w.heap.size,0,none⟩=some (.slice A0 o.Z4.length k0)∧w'.cell? ⟨w.heap.size,1,none⟩=some (.slice (some ad) o.Z7.length k1)∧w'.cell? (ad.add (j*5))=some (.string (Z9 t.Z8))∧w'.cell? ⟨(ad.add (j*5)).block,(ad.add (j*5)).off+1,none⟩=some (.string (Z9 t.name))∧w'.cell? ⟨(ad.add (j*5)).block,(ad.add (j*5)).off+2,none⟩=some (.string (Z9 t.ZL))∧w'.cell? ⟨(ad.add (j*5)).block,(ad.add (j*5)).off+3,none⟩=some (.slice X t.ZX.length x)∧w'.cell? ⟨(ad.add (j*5)).block,(ad.add (j*5)).off+4,none⟩=some (.slice Y t.ZS.length y)) w1→Below w1.heap.size w1 w2→(fun w'=>Below wr.heap.size wr w'∧w'.cell? ⟨w.heap.size,0,none⟩=some (.slice A0 o.Z4.length k0)∧w'.cell? ⟨w.heap.size,1,none⟩=some (.slice (some ad) o.Z7.length k1)∧w'.cell? (ad.add (j*5))=some (.string (Z9 t.Z8))∧w'.cell? ⟨(ad.add (j*5)).block,(ad.add (j*5)).off+1,none⟩=some (.string (Z9 t.name))∧w'.cell? ⟨(ad.add (j*5)).block,(ad.add (j*5)).off+2,none⟩=some (.string (Z9 t.ZL))∧w'.cell? ⟨(ad.add (j*5)).block,(ad.add (j*5)).off+3,none⟩=some (.slice X t.ZX.length x)∧w'.cell? ⟨(ad.add (j*5)).block,(ad.add (j*5)).off+4,none⟩=some (.slice Y t.ZS.length y)) w2):=hid (by
      intro w1 w2 ⟨h1,_⟩ h2;have h3:Below wr.heap.size wr w2:=h1.trans (h2.mono h1.size);exact⟨h3,ct a0 h3 hlx,ct a1 h3 hlx,(h3.cell (p:=(ad.add (j*5))) hz).trans f0,ct f1 h3 hz,ct f2 h3 hz,ct f3 h3 hz,ct f4 h3 hz⟩)
     have hrt:Hid (∀ W,Below wr.heap.size wr W→Calls Tryz.prog 109 #[.agg #[.slice A0 o.Z4.length k0,.slice (some ad) o.Z7.length k1],.agg (t.cs X x Y y).toArray] W fun e w'=>e= .returned (.bool (YV o t))∧Below W.heap.size W w'):=hid fun W h=>
      Ql o A0 k0 (some ad) k1 t X x Y y W (HS.out.later (HBw.out.trans (h.mono HBw.out.size))) (HT.out.later (HBw.out.trans (h.mono HBw.out.size))) (HXr.out.later h) (HYr.out.later h) HO.out HTa.out
     unfold Tb.cs at hrt;generalize YV o t=q at*;go_wp2_with fail;go_region_held_law (fun w'=>Below wr.heap.size wr w'∧w'.cell? ⟨w.heap.size,0,none⟩=some (.slice A0 o.Z4.length k0)∧w'.cell? ⟨w.heap.size,1,none⟩=some (.slice (some ad) o.Z7.length k1)∧w'.cell? (ad.add (j*5))=some (.string (Z9 t.Z8))∧w'.cell? ⟨(ad.add (j*5)).block,(ad.add (j*5)).off+1,none⟩=some (.string (Z9 t.name))∧w'.cell? ⟨(ad.add (j*5)).block,(ad.add (j*5)).off+2,none⟩=some (.string (Z9 t.ZL))∧w'.cell? ⟨(ad.add (j*5)).block,(ad.add (j*5)).off+3,none⟩=some (.slice X t.ZX.length x)∧w'.cell? ⟨(ad.add (j*5)).block,(ad.add (j*5)).off+4,none⟩=some (.slice Y t.ZS.length y))
      (first | exact hkeep.out _ _ (by assumption) (by assumption) | exact⟨hW0,a0,a1,f0,f1,f2,f3,f4⟩)
      (first | (go_at_call 109;refine(hrt.out _ (by first | exact hW0 | assumption)).mono ?_;rintro e w' ⟨rfl,hb⟩))
     rename_i hS;have HB2:=bt HBw hS.1;have HX2:=bl HX hS.1;clear hS;go_wp2;go_roundw
     case rel=>exact⟨q,j+1,by omega,rfl,by go_num,HQ,HB2,HX2⟩
     case measure=>simp [intOf];omega
    ·obtain rfl:j=o.Z7.length:=by omega
     rw [List.drop_length] at HR3;obtain rfl:res=true:=HR3.out;obtain rfl:err=0:=HE0.out;have a1:=ce HX 1;go_wp2;go_ret;exact⟨rfl,HBw.out⟩
end Go.Proofs.YtnhmoibjlakhjaaGreat
namespace Go.Proofs.YtnhmoibjlakhjaaGreat
set_option maxRecDepth 100000
set_option maxHeartbeats 16000000
open Go.RowKit
section
variable {α β : Type} {enc : α → List Value} {k : Nat}
theorem Zq (hk: ∀ x,(enc x).length=k): ∀ l:List α,(l.flatMap enc).length=l.length*k
 | []=>by simp
 | a ::l=>by
  rw [List.flatMap_cons,List.length_append,hk,Zq hk l,List.length_cons,Nat.add_mul,Nat.one_mul];omega
theorem Zj (hk: ∀ x,(enc x).length=k): ∀ (l:List α)(j i:Nat)(hj:j<l.length)(hi:i<k),(l.flatMap enc)[j*k+i]?=(enc l[j])[i]?
 | [],j,i,hj,hi=>absurd hj (by simp)
 | a ::l,0,i,hj,hi=>by
  rw [List.flatMap_cons,Nat.zero_mul,Nat.zero_add,List.getElem?_append_left (by rw [hk];exact hi)];rfl
 | a ::l,j+1,i,hj,hi=>by
  have h:=Zj hk l j i (by simpa using hj) hi;rw [List.flatMap_cons,List.getElem?_append_right (by rw [hk,Nat.add_mul,Nat.one_mul];omega),hk,List.getElem_cons_succ,←h]
  congr 1
  rw [Nat.add_mul,Nat.one_mul];omega
theorem LG (hk: ∀ x,(enc x).length=k)(l:List α)(i:Nat)(u:Value)(h:(l.flatMap enc)[i]?=some u): ∃ j i',∃ hj:j<l.length,i'<k∧i=j*k+i'∧(enc l[j])[i']?=some u:=by
 have hl:i<l.length*k:=by
  rw [←Zq hk];exact(List.getElem?_eq_some_iff.1 h).1
 have hk0:0<k:=by
  rcases Nat.eq_zero_or_pos k with h0 | h0
  ·subst h0;simp at hl
  ·exact h0
 have hj:i / k<l.length:=Nat.div_lt_of_lt_mul (by rwa [Nat.mul_comm]);have hi:=Nat.mod_lt i hk0;have he:i=i / k*k+i % k:=by rw [Nat.mul_comm];exact(Nat.div_add_mod i k).symm
 refine⟨i / k,i % k,hj,hi,he,?_⟩
 rw [←Zj hk l _ _ hj hi,←he];exact h
theorem Yg (h1: ∀ x,∀ v∈enc x,v.oneCell'=true)(l:List α): ∀ v∈l.flatMap enc,v.oneCell'=true:=by
 intro v hv;obtain⟨a,_,hv⟩:=List.mem_flatMap.1 hv;exact h1 a v hv
def Ze (w:World)(B:Nat)(A:Option Addr)(enc:α→List Value)(l:List α):Prop:=
 0<l.length→ ∃ ad,A=some ad∧ad.block<B∧ ∀ (i:Nat) (u:Value),(l.flatMap enc)[i]?=some u→w.cell? (ad.add i)=some u
theorem Ze.below {w w':World}{B:Nat}{A:Option Addr}{l:List α}(h:Ze w B A enc l)(hb:Below B w w'):Ze w' B A enc l:=fun hn=>by
 obtain⟨ad,e,hB,h⟩:=h hn;exact⟨ad,e,hB,fun i u hu=>(hb.cell (by rw [Zs];exact hB)).trans (h i u hu)⟩
theorem Ze.later {w w':World}{A:Option Addr}{l:List α}(h:Ze w w.heap.size A enc l)(hb:Below w.heap.size w w'):Ze w' w'.heap.size A enc l:=fun hn=>by
 obtain⟨ad,e,hB,h⟩:=h.below hb hn;exact⟨ad,e,Nat.lt_of_lt_of_le hB hb.size,h⟩
theorem Qp {P:Nat→α→Prop} : ∀ (n:Nat),(∀ j,j<n→ ∃ a,P j a)→ ∃ l:List α,l.length=n∧ ∀ (j:Nat)(h:j<l.length),P j l[j]
 | 0,_=>⟨[],rfl,fun j h=>absurd h (by simp)⟩
 | n+1,h=>by
  obtain⟨l,hl,hP⟩:=Qp n fun j hj=>h j (by omega)
  obtain⟨a,ha⟩:=h n (by omega);refine⟨l ++ [a],by simp [hl],fun j hj=> ?_⟩
  by_cases hlt:j<l.length
  ·rw [List.getElem_append_left hlt];exact hP j hlt
  ·have hje:j=l.length:=by simp at hj;omega
   subst hje;rw [List.getElem_append_right lr];simp only [Nat.sub_self,List.getElem_cons_zero];rw [hl];exact ha
theorem WP {w:World}{B:Nat}{sh:List Sh}{A:Option Addr}(da:β→List Da)(prj:α→β)(good:α→Prop)(hpick: ∀ x vs,ZH w (· < B) sh (da x) vs→ ∃ a,prj a=x∧vs=enc a∧good a)
  (hk: ∀ x,(enc x).length=sh.length) {l0:List β} (h:ZV w (· < B) sh (l0.map da) A): ∃ l:List α,l.map prj=l0∧Ze w B A enc l∧ ∀ a∈l,good a:=by
 rcases Nat.eq_zero_or_pos l0.length with h0 | h0
 ·obtain rfl:=List.eq_nil_of_length_eq_zero h0;exact⟨[],rfl,fun hn=>absurd hn (by simp),fun a ha=>absurd ha (by simp)⟩
 obtain⟨ad,rfl,hB,hc⟩:=h (by simpa using h0);obtain⟨l,hl,hP⟩:=Qp (P:=fun j a=> ∃ hj:j<l0.length,prj a=l0[j]∧good a∧ ∀ (i:Nat) (u:Value),(enc a)[i]?=some u→w.cell? (ad.add (j*sh.length+i))=some u) l0.length (by
  intro j hj;obtain⟨vs,h1,h2⟩:=hc j (da l0[j]) (by simp [hj]);obtain⟨a,ha,rfl,hg⟩:=hpick _ _ h1;exact⟨a,hj,ha,hg,h2⟩)
 refine⟨l,?_,fun _=>⟨ad,rfl,hB,fun i u hu=> ?_⟩,fun a ha=> ?_⟩
 ·apply List.ext_getElem
  ·simpa using hl
  ·intro j h1 h2;rw [List.getElem_map];obtain⟨_,h3,_⟩:=hP j (by simpa using h1);exact h3
 ·obtain⟨j,i',hj,hi',rfl,hu2⟩:=LG hk l i u hu;obtain⟨_,_,_,h3⟩:=hP j hj;exact h3 i' u hu2
 ·obtain⟨j,hj,rfl⟩:=List.getElem_of_mem ha;obtain⟨_,_,h3,_⟩:=hP j hj;exact h3
theorem Yk {w:World}{base c n:Nat}{T:TypeId}{sh:List Sh}{A:Option Addr}{S:Nat→Prop}(da:β→List Da)(prj:α→β)(hk: ∀ x,(enc x).length=sh.length){l:List α}(h:w.ownsRow base T sh.length (.slice A n c) n (l.flatMap enc))(hn:n=l.length)
  (hc: ∀ a∈l,ZH w S sh (da (prj a)) (enc a)):ZV w (fun g=>S g∨Nw w base [T] g) sh ((l.map prj).map da) A:=by
 intro h0;have h0':0<l.length:=by simpa using h0
 obtain⟨g,cap,hv,_,hlt⟩:=h.form (by omega);have hA:A=some ⟨g,0,none⟩:=by injection hv
 subst hA;refine⟨_,rfl,Or.inr ?_,fun j d hd=> ?_⟩
 ·rcases h.2 with ⟨h1,_⟩ | ⟨g',cap',cur,hv',hg',hh,_⟩
  ·omega
  ·injection hv' with hv'
   injection hv' with hv'
   injection hv' with hv'
   subst hv';exact⟨hg',T,by simp,cur,hh⟩
 ·rw [List.getElem?_map,List.getElem?_map] at hd
  cases hj:l[j]? with
  | none=>rw [hj] at hd;simp at hd
  | some a=>
   rw [hj] at hd;simp only [Option.map_some,Option.some.injEq] at hd;subst hd;obtain⟨hj1,rfl⟩:=List.getElem?_eq_some_iff.1 hj
   refine⟨enc l[j],ZH.Y6 (fun _ h=>Or.inl h) (fun _ _=>rfl) _ _ _ (hc _ (List.getElem_mem hj1)),fun i u hu=> ?_⟩
   have hi:i<sh.length:=by rw [←hk l[j]];exact(List.getElem?_eq_some_iff.1 hu).1
   exact h.cells (g:=g) rfl _ u (by rw [Zj hk l j i hj1 hi];exact hu)
theorem XA {w:World}{base c n:Nat}{T:TypeId}{A:Option Addr}{l:List α}(h:w.ownsRow base T k (.slice A n c) n (l.flatMap enc))(hn:n=l.length):Ze w w.heap.size A enc l:=by
 intro h0;obtain⟨g,cap,hv,_,hlt⟩:=h.form (by omega);have hA:A=some ⟨g,0,none⟩:=by injection hv
 subst hA;exact⟨_,rfl,hlt,fun i u hu=>h.cells (g:=g) rfl _ u hu⟩
end
theorem YW {P:Program}{w:World}{ops:Array Oper}{rest:List Oper}{o:Oper}{a:Act}{Q:Exit→Act→World→Prop}(hgd:o.guard=none)(s x:Operand)(t:TypeId)
  (ho:o.op= .call { callee:= .builtin .append,args:= #[s,x],argTypes:= #[t,t]})
  (base:Nat) (e:TypeId) (i:TypeInfo) (z:Value) (size bytes:Nat) (ht:P.underlying t=some (.slice e)) (hi:P.info? e=some i) (hz:i.zero=some z)
  (hsize:i.size=size) (hby:i.bytes=bytes) (hzs:z.cells.size=size) (hsz:0<size)
  (v:Value) (n:Nat) (xs:List Value) (hs:a.eval s=v) (hown:w.ownsRow base e size v n xs)
  (ad:Addr) (m c:Nat) (news:List Value) (hx:a.eval x= .slice (some ad) m c) (hl:news.length=m*size) (hnews: ∀ j u,news[j]?=some u→w.cell? (ad.add j)=some u) (h1: ∀ u∈news,u.oneCell'=true)
  (h63:n+m≤maxLen) (hbytes:(n+m)*bytes≤140737488355328) (hbase:base≤w.heap.size)
  (h: ∀ A' c' w',Hid (w'.ownsRow base e size (.slice A' (n+m) c') (n+m) (xs ++news))→Hid (w.grownBy w' v.ownBlock)→wpList P ops Q rest (a.put o.dst (.slice A' (n+m) c')) w'):wpList P ops Q (o ::rest) a w:=by
 refine wpList_plain hgd fun K hK=> ?_
 obtain⟨v',w',hrun,h2,h3,_⟩:=run_append_own (P:=P) w base t o.type e i z size bytes ht hi hz hsize hby hzs hsz v n xs hown ad m c news hl hnews h1 h63 hbytes hbase;unfold Oper.wp execOp;simp only [ho,resolve,invoke,builtin,Sem.run_bind,Sem.run_pure,Result.andThen_ok,List.map_toArray,List.map_cons,List.map_nil,hs,hx,hrun];obtain⟨A',c',rfl⟩:=Wi h2;exact hK _ _ (h A' c' w' h2 h3)
end Go.Proofs.YtnhmoibjlakhjaaGreat
namespace Go.Proofs.YtnhmoibjlakhjaaGreat
open Lib (hid)
set_option maxRecDepth 100000
set_option maxHeartbeats 16000000
open Go.RowKit
abbrev Yv:=Ru×Option Addr×Nat
def Yv.cs (r:Yv):List Value:=r.1.cs r.2.1 r.2.2
abbrev Za:=Tb×Option Addr×Nat×Option Addr×Nat
def Za.cs (t:Za):List Value:=t.1.cs t.2.1 t.2.2.1 t.2.2.2.1 t.2.2.2.2
def YS (b:List UInt8):List Value:= [.string (Z9 b)]
theorem Sc.k (x:Sc):(Sc.cs x).length=2:=rfl
theorem Cl.k (x:Cl):(Cl.cs x).length=3:=rfl
theorem Yv.k (x:Yv):(Yv.cs x).length=8:=rfl
theorem Za.k (x:Za):(Za.cs x).length=5:=rfl
theorem Mb.k (x:Mb):(Mb.cs x).length=2:=rfl
theorem Gr.k (x:Gr):(Gr.cs x).length=6:=rfl
theorem YS.k (x:List UInt8):(YS x).length=1:=rfl
theorem Sc.one (x:Sc): ∀ v∈Sc.cs x,v.oneCell'=true:=by simp [Sc.cs,Value.oneCell']
theorem Cl.one (x:Cl): ∀ v∈Cl.cs x,v.oneCell'=true:=by simp [Cl.cs,Value.oneCell']
theorem Yv.one (x:Yv): ∀ v∈Yv.cs x,v.oneCell'=true:=by simp [Yv.cs,Ru.cs,Value.oneCell']
theorem Za.one (x:Za): ∀ v∈Za.cs x,v.oneCell'=true:=by simp [Za.cs,Tb.cs,Value.oneCell']
theorem Mb.one (x:Mb): ∀ v∈Mb.cs x,v.oneCell'=true:=by simp [Mb.cs,Value.oneCell']
theorem Gr.one (x:Gr): ∀ v∈Gr.cs x,v.oneCell'=true:=by simp [Gr.cs,Value.oneCell']
theorem YS.one (x:List UInt8): ∀ v∈YS x,v.oneCell'=true:=by simp [YS,Value.oneCell']
theorem Xv {α:Type}{w:World}{base:Nat}{T:TypeId}{k:Nat}(enc:α→List Value):w.ownsRow base T k (.slice none 0 0) ([]:List α).length (([]:List α).flatMap enc):=World.ownsRow_nil _ _ _ _
theorem UX:(Tryz.prog.info? 89).map (fun i=>(i.zero,i.size,i.bytes))=some (some (.agg #[.string ⟨#[]⟩,.string ⟨#[]⟩]),2,32):=by kernel_rfl
theorem Vn (A:Option Addr)(c:Nat)(l:List Sc)(w:World)(h:Ze w w.heap.size A Sc.cs l)(hl:l.length≤1099511627776):
  Calls Tryz.prog 74 #[.slice A l.length c] w fun e w'=> ∃ A' c',e= .returned (.slice A' l.length c')∧w'.ownsRow w.heap.size 89 2 (.slice A' l.length c') l.length (l.flatMap Sc.cs)∧Below w.heap.size w w':=by
 obtain⟨i0,hi0,hz0,hz1,hz2⟩:=info_parts UX;have HH:=hid h;clear h
 cases A with
 | none=>
  obtain rfl:l= []:=by
   rcases Nat.eq_zero_or_pos l.length with h0 | h0
   ·exact List.eq_nil_of_length_eq_zero h0
   ·obtain⟨ad,h1,_⟩:=HH.out h0
    cases h1
  have kn: ∀ w,(binOp .eql 23 (.slice none 0 c) (.slice none 0 0)).run Tryz.prog w= .ok (.bool true) w:=fun w=>Lib.run_eql_slice_nil w _ _ _ _ _ _ _ Tryz.underlying23
  go_enter Tryz.func74,Tryz.ntmps74
  go_wp2;go_ret;exact⟨none,0,rfl,Xv _,Below.refl _ _⟩
 | some ad=>
  have kn: ∀ w,(binOp .eql 23 (.slice (some ad) l.length c) (.slice none 0 0)).run Tryz.prog w= .ok (.bool false) w:=fun w=>Lib.run_eql_slice_nil w _ _ _ _ _ _ _ Tryz.underlying23
  have HR:Hid (∀ (i:Nat) (u:Value),(l.flatMap Sc.cs)[i]?=some u→(w.alloc (.cells #[] 89)).cell? (ad.add i)=some u):=hid (by
   intro i u hu;have h0:0<l.length:=by
    have:=(List.getElem?_eq_some_iff.1 hu).1;rw [Zq Sc.k] at this;rcases Nat.eq_zero_or_pos l.length with h0 | h0
    ·rw [h0] at this;omega
    ·exact h0
   obtain⟨ad',e,hB,h1⟩:=HH.out h0;injection e with e
   subst e;rw [World.cell?_alloc_lt w _ _ (by rw [Zs];exact hB)];exact h1 i u hu)
  have HF:=hid (Zq Sc.k l);have HO:=hid (Yg Sc.one l);clear HH;generalize l.flatMap Sc.cs=xs at*;generalize l.length=n at*;go_enter Tryz.func74,Tryz.ntmps74
  go_wp2_with (at_builtin;refine YW rfl _ _ _ rfl w.heap.size 89 i0 _ 2 32 Tryz.underlying23 hi0 hz0 hz1 hz2 rfl (by decide) (.slice (some ⟨w.heap.size,0,none⟩) 0 0) 0 [] rfl (WR w _ _ _ lr) ad n c xs rfl HF.out HR.out HO.out (by unfold maxLen;omega) (by omega) (by simp) ?_;intro A3 c3 w3 HO3 hg3);have HB3:Hid (Below w.heap.size w w3):=hid (Below.grown ((Below.refl w.heap.size w).alloc lr _) hg3.out (by simp) (fun k hk=>by simp [Value.ownBlock] at hk;omega))
  go_ret;refine⟨A3,c3,rfl,?_,HB3.out⟩
  have h:=HO3.out;rwa [Nat.zero_add,List.nil_append] at h
theorem UZ:(Tryz.prog.info? 119).map (fun i=>(i.zero,i.size,i.bytes))=some (some (.agg #[.string ⟨#[]⟩,.int .i64 0,.bool false]),3,32):=by kernel_rfl
theorem TK (A:Option Addr)(c:Nat)(l:List Cl)(w:World)(h:Ze w w.heap.size A Cl.cs l)(hl:l.length≤1099511627776):
  Calls Tryz.prog 75 #[.slice A l.length c] w fun e w'=> ∃ A' c',e= .returned (.slice A' l.length c')∧w'.ownsRow w.heap.size 119 3 (.slice A' l.length c') l.length (l.flatMap Cl.cs)∧Below w.heap.size w w':=by
 obtain⟨i0,hi0,hz0,hz1,hz2⟩:=info_parts UZ;have HH:=hid h;clear h
 cases A with
 | none=>
  obtain rfl:l= []:=by
   rcases Nat.eq_zero_or_pos l.length with h0 | h0
   ·exact List.eq_nil_of_length_eq_zero h0
   ·obtain⟨ad,h1,_⟩:=HH.out h0
    cases h1
  have kn: ∀ w,(binOp .eql 37 (.slice none 0 c) (.slice none 0 0)).run Tryz.prog w= .ok (.bool true) w:=fun w=>Lib.run_eql_slice_nil w _ _ _ _ _ _ _ Tryz.underlying37
  go_enter Tryz.func75,Tryz.ntmps75
  go_wp2;go_ret;exact⟨none,0,rfl,Xv _,Below.refl _ _⟩
 | some ad=>
  have kn: ∀ w,(binOp .eql 37 (.slice (some ad) l.length c) (.slice none 0 0)).run Tryz.prog w= .ok (.bool false) w:=fun w=>Lib.run_eql_slice_nil w _ _ _ _ _ _ _ Tryz.underlying37
  have HR:Hid (∀ (i:Nat) (u:Value),(l.flatMap Cl.cs)[i]?=some u→(w.alloc (.cells #[] 119)).cell? (ad.add i)=some u):=hid (by
   intro i u hu;have h0:0<l.length:=by
    have:=(List.getElem?_eq_some_iff.1 hu).1;rw [Zq Cl.k] at this;rcases Nat.eq_zero_or_pos l.length with h0 | h0
    ·rw [h0] at this;omega
    ·exact h0
   obtain⟨ad',e,hB,h1⟩:=HH.out h0;injection e with e
   subst e;rw [World.cell?_alloc_lt w _ _ (by rw [Zs];exact hB)];exact h1 i u hu)
  have HF:=hid (Zq Cl.k l);have HO:=hid (Yg Cl.one l);clear HH;generalize l.flatMap Cl.cs=xs at*;generalize l.length=n at*;go_enter Tryz.func75,Tryz.ntmps75
  go_wp2_with (at_builtin;refine YW rfl _ _ _ rfl w.heap.size 119 i0 _ 3 32 Tryz.underlying37 hi0 hz0 hz1 hz2 rfl (by decide) (.slice (some ⟨w.heap.size,0,none⟩) 0 0) 0 [] rfl (WR w _ _ _ lr) ad n c xs rfl HF.out HR.out HO.out (by unfold maxLen;omega) (by omega) (by simp) ?_;intro A3 c3 w3 HO3 hg3);have HB3:Hid (Below w.heap.size w w3):=hid (Below.grown ((Below.refl w.heap.size w).alloc lr _) hg3.out (by simp) (fun k hk=>by simp [Value.ownBlock] at hk;omega))
  go_ret;refine⟨A3,c3,rfl,?_,HB3.out⟩
  have h:=HO3.out;rwa [Nat.zero_add,List.nil_append] at h
theorem UG:(Tryz.prog.info? 40).map (fun i=>(i.zero,i.size,i.bytes))=some (some (.agg #[.string ⟨#[]⟩,.int .i64 0,.slice none 0 0,.int .i64 0,.int .i64 0,.string ⟨#[]⟩,.string ⟨#[]⟩,.string ⟨#[]⟩]),8,112):=by kernel_rfl
theorem Sf (A:Option Addr)(c:Nat)(l:List Yv)(w:World)(h:Ze w w.heap.size A Yv.cs l)(hl:l.length≤1099511627776):
  Calls Tryz.prog 76 #[.slice A l.length c] w fun e w'=> ∃ A' c',e= .returned (.slice A' l.length c')∧w'.ownsRow w.heap.size 40 8 (.slice A' l.length c') l.length (l.flatMap Yv.cs)∧Below w.heap.size w w':=by
 obtain⟨i0,hi0,hz0,hz1,hz2⟩:=info_parts UG;have HH:=hid h;clear h
 cases A with
 | none=>
  obtain rfl:l= []:=by
   rcases Nat.eq_zero_or_pos l.length with h0 | h0
   ·exact List.eq_nil_of_length_eq_zero h0
   ·obtain⟨ad,h1,_⟩:=HH.out h0
    cases h1
  have kn: ∀ w,(binOp .eql 71 (.slice none 0 c) (.slice none 0 0)).run Tryz.prog w= .ok (.bool true) w:=fun w=>Lib.run_eql_slice_nil w _ _ _ _ _ _ _ Tryz.underlying71
  go_enter Tryz.func76,Tryz.ntmps76
  go_wp2;go_ret;exact⟨none,0,rfl,Xv _,Below.refl _ _⟩
 | some ad=>
  have kn: ∀ w,(binOp .eql 71 (.slice (some ad) l.length c) (.slice none 0 0)).run Tryz.prog w= .ok (.bool false) w:=fun w=>Lib.run_eql_slice_nil w _ _ _ _ _ _ _ Tryz.underlying71
  have HR:Hid (∀ (i:Nat) (u:Value),(l.flatMap Yv.cs)[i]?=some u→(w.alloc (.cells #[] 40)).cell? (ad.add i)=some u):=hid (by
   intro i u hu;have h0:0<l.length:=by
    have:=(List.getElem?_eq_some_iff.1 hu).1;rw [Zq Yv.k] at this;rcases Nat.eq_zero_or_pos l.length with h0 | h0
    ·rw [h0] at this;omega
    ·exact h0
   obtain⟨ad',e,hB,h1⟩:=HH.out h0;injection e with e
   subst e;rw [World.cell?_alloc_lt w _ _ (by rw [Zs];exact hB)];exact h1 i u hu)
  have HF:=hid (Zq Yv.k l);have HO:=hid (Yg Yv.one l);clear HH;generalize l.flatMap Yv.cs=xs at*;generalize l.length=n at*;go_enter Tryz.func76,Tryz.ntmps76
  go_wp2_with (at_builtin;refine YW rfl _ _ _ rfl w.heap.size 40 i0 _ 8 112 Tryz.underlying71 hi0 hz0 hz1 hz2 rfl (by decide) (.slice (some ⟨w.heap.size,0,none⟩) 0 0) 0 [] rfl (WR w _ _ _ lr) ad n c xs rfl HF.out HR.out HO.out (by unfold maxLen;omega) (by omega) (by simp) ?_;intro A3 c3 w3 HO3 hg3);have HB3:Hid (Below w.heap.size w w3):=hid (Below.grown ((Below.refl w.heap.size w).alloc lr _) hg3.out (by simp) (fun k hk=>by simp [Value.ownBlock] at hk;omega))
  go_ret;refine⟨A3,c3,rfl,?_,HB3.out⟩
  have h:=HO3.out;rwa [Nat.zero_add,List.nil_append] at h
theorem VX:(Tryz.prog.info? 73).map (fun i=>(i.zero,i.size,i.bytes))=some (some (.agg #[.string ⟨#[]⟩,.string ⟨#[]⟩,.string ⟨#[]⟩,.slice none 0 0,.slice none 0 0]),5,96):=by kernel_rfl
theorem O0 (A:Option Addr)(c:Nat)(l:List Za)(w:World)(h:Ze w w.heap.size A Za.cs l)(hl:l.length≤1099511627776):
  Calls Tryz.prog 251 #[.slice A l.length c] w fun e w'=> ∃ A' c',e= .returned (.slice A' l.length c')∧w'.ownsRow w.heap.size 73 5 (.slice A' l.length c') l.length (l.flatMap Za.cs)∧Below w.heap.size w w':=by
 obtain⟨i0,hi0,hz0,hz1,hz2⟩:=info_parts VX;have HH:=hid h;clear h
 cases A with
 | none=>
  obtain rfl:l= []:=by
   rcases Nat.eq_zero_or_pos l.length with h0 | h0
   ·exact List.eq_nil_of_length_eq_zero h0
   ·obtain⟨ad,h1,_⟩:=HH.out h0
    cases h1
  have kn: ∀ w,(binOp .eql 24 (.slice none 0 c) (.slice none 0 0)).run Tryz.prog w= .ok (.bool true) w:=fun w=>Lib.run_eql_slice_nil w _ _ _ _ _ _ _ Tryz.underlying24
  go_enter Tryz.func251,Tryz.ntmps251
  go_wp2;go_ret;exact⟨none,0,rfl,Xv _,Below.refl _ _⟩
 | some ad=>
  have kn: ∀ w,(binOp .eql 24 (.slice (some ad) l.length c) (.slice none 0 0)).run Tryz.prog w= .ok (.bool false) w:=fun w=>Lib.run_eql_slice_nil w _ _ _ _ _ _ _ Tryz.underlying24
  have HR:Hid (∀ (i:Nat) (u:Value),(l.flatMap Za.cs)[i]?=some u→(w.alloc (.cells #[] 73)).cell? (ad.add i)=some u):=hid (by
   intro i u hu;have h0:0<l.length:=by
    have:=(List.getElem?_eq_some_iff.1 hu).1;rw [Zq Za.k] at this;rcases Nat.eq_zero_or_pos l.length with h0 | h0
    ·rw [h0] at this;omega
    ·exact h0
   obtain⟨ad',e,hB,h1⟩:=HH.out h0;injection e with e
   subst e;rw [World.cell?_alloc_lt w _ _ (by rw [Zs];exact hB)];exact h1 i u hu)
  have HF:=hid (Zq Za.k l);have HO:=hid (Yg Za.one l);clear HH;generalize l.flatMap Za.cs=xs at*;generalize l.length=n at*;go_enter Tryz.func251,Tryz.ntmps251
  go_wp2_with (at_builtin;refine YW rfl _ _ _ rfl w.heap.size 73 i0 _ 5 96 Tryz.underlying24 hi0 hz0 hz1 hz2 rfl (by decide) (.slice (some ⟨w.heap.size,0,none⟩) 0 0) 0 [] rfl (WR w _ _ _ lr) ad n c xs rfl HF.out HR.out HO.out (by unfold maxLen;omega) (by omega) (by simp) ?_;intro A3 c3 w3 HO3 hg3);have HB3:Hid (Below w.heap.size w w3):=hid (Below.grown ((Below.refl w.heap.size w).alloc lr _) hg3.out (by simp) (fun k hk=>by simp [Value.ownBlock] at hk;omega))
  go_ret;refine⟨A3,c3,rfl,?_,HB3.out⟩
  have h:=HO3.out;rwa [Nat.zero_add,List.nil_append] at h
theorem UY:(Tryz.prog.info? 147).map (fun i=>(i.zero,i.size,i.bytes))=some (some (.agg #[.string ⟨#[]⟩,.string ⟨#[]⟩]),2,32):=by kernel_rfl
theorem Xy (A:Option Addr)(c:Nat)(l:List Mb)(w:World)(h:Ze w w.heap.size A Mb.cs l)(hl:l.length≤1099511627776):
  Calls Tryz.prog 78 #[.slice A l.length c] w fun e w'=> ∃ A' c',e= .returned (.slice A' l.length c')∧w'.ownsRow w.heap.size 147 2 (.slice A' l.length c') l.length (l.flatMap Mb.cs)∧Below w.heap.size w w':=by
 obtain⟨i0,hi0,hz0,hz1,hz2⟩:=info_parts UY;have HH:=hid h;clear h
 cases A with
 | none=>
  obtain rfl:l= []:=by
   rcases Nat.eq_zero_or_pos l.length with h0 | h0
   ·exact List.eq_nil_of_length_eq_zero h0
   ·obtain⟨ad,h1,_⟩:=HH.out h0
    cases h1
  have kn: ∀ w,(binOp .eql 28 (.slice none 0 c) (.slice none 0 0)).run Tryz.prog w= .ok (.bool true) w:=fun w=>Lib.run_eql_slice_nil w _ _ _ _ _ _ _ Tryz.underlying28
  go_enter Tryz.func78,Tryz.ntmps78
  go_wp2;go_ret;exact⟨none,0,rfl,Xv _,Below.refl _ _⟩
 | some ad=>
  have kn: ∀ w,(binOp .eql 28 (.slice (some ad) l.length c) (.slice none 0 0)).run Tryz.prog w= .ok (.bool false) w:=fun w=>Lib.run_eql_slice_nil w _ _ _ _ _ _ _ Tryz.underlying28
  have HR:Hid (∀ (i:Nat) (u:Value),(l.flatMap Mb.cs)[i]?=some u→(w.alloc (.cells #[] 147)).cell? (ad.add i)=some u):=hid (by
   intro i u hu;have h0:0<l.length:=by
    have:=(List.getElem?_eq_some_iff.1 hu).1;rw [Zq Mb.k] at this;rcases Nat.eq_zero_or_pos l.length with h0 | h0
    ·rw [h0] at this;omega
    ·exact h0
   obtain⟨ad',e,hB,h1⟩:=HH.out h0;injection e with e
   subst e;rw [World.cell?_alloc_lt w _ _ (by rw [Zs];exact hB)];exact h1 i u hu)
  have HF:=hid (Zq Mb.k l);have HO:=hid (Yg Mb.one l);clear HH;generalize l.flatMap Mb.cs=xs at*;generalize l.length=n at*;go_enter Tryz.func78,Tryz.ntmps78
  go_wp2_with (at_builtin;refine YW rfl _ _ _ rfl w.heap.size 147 i0 _ 2 32 Tryz.underlying28 hi0 hz0 hz1 hz2 rfl (by decide) (.slice (some ⟨w.heap.size,0,none⟩) 0 0) 0 [] rfl (WR w _ _ _ lr) ad n c xs rfl HF.out HR.out HO.out (by unfold maxLen;omega) (by omega) (by simp) ?_;intro A3 c3 w3 HO3 hg3);have HB3:Hid (Below w.heap.size w w3):=hid (Below.grown ((Below.refl w.heap.size w).alloc lr _) hg3.out (by simp) (fun k hk=>by simp [Value.ownBlock] at hk;omega))
  go_ret;refine⟨A3,c3,rfl,?_,HB3.out⟩
  have h:=HO3.out;rwa [Nat.zero_add,List.nil_append] at h
theorem Vj:(Tryz.prog.info? 53).map (fun i=>(i.zero,i.size,i.bytes))=some (some (.agg #[.string ⟨#[]⟩,.string ⟨#[]⟩,.int .i64 0,.string ⟨#[]⟩,.string ⟨#[]⟩,.bool false]),6,80):=by kernel_rfl
theorem VP (A:Option Addr)(c:Nat)(l:List Gr)(w:World)(h:Ze w w.heap.size A Gr.cs l)(hl:l.length≤1099511627776):
  Calls Tryz.prog 79 #[.slice A l.length c] w fun e w'=> ∃ A' c',e= .returned (.slice A' l.length c')∧w'.ownsRow w.heap.size 53 6 (.slice A' l.length c') l.length (l.flatMap Gr.cs)∧Below w.heap.size w w':=by
 obtain⟨i0,hi0,hz0,hz1,hz2⟩:=info_parts Vj;have HH:=hid h;clear h
 cases A with
 | none=>
  obtain rfl:l= []:=by
   rcases Nat.eq_zero_or_pos l.length with h0 | h0
   ·exact List.eq_nil_of_length_eq_zero h0
   ·obtain⟨ad,h1,_⟩:=HH.out h0
    cases h1
  have kn: ∀ w,(binOp .eql 31 (.slice none 0 c) (.slice none 0 0)).run Tryz.prog w= .ok (.bool true) w:=fun w=>Lib.run_eql_slice_nil w _ _ _ _ _ _ _ Tryz.underlying31
  go_enter Tryz.func79,Tryz.ntmps79
  go_wp2;go_ret;exact⟨none,0,rfl,Xv _,Below.refl _ _⟩
 | some ad=>
  have kn: ∀ w,(binOp .eql 31 (.slice (some ad) l.length c) (.slice none 0 0)).run Tryz.prog w= .ok (.bool false) w:=fun w=>Lib.run_eql_slice_nil w _ _ _ _ _ _ _ Tryz.underlying31
  have HR:Hid (∀ (i:Nat) (u:Value),(l.flatMap Gr.cs)[i]?=some u→(w.alloc (.cells #[] 53)).cell? (ad.add i)=some u):=hid (by
   intro i u hu;have h0:0<l.length:=by
    have:=(List.getElem?_eq_some_iff.1 hu).1;rw [Zq Gr.k] at this;rcases Nat.eq_zero_or_pos l.length with h0 | h0
    ·rw [h0] at this;omega
    ·exact h0
   obtain⟨ad',e,hB,h1⟩:=HH.out h0;injection e with e
   subst e;rw [World.cell?_alloc_lt w _ _ (by rw [Zs];exact hB)];exact h1 i u hu)
  have HF:=hid (Zq Gr.k l);have HO:=hid (Yg Gr.one l);clear HH;generalize l.flatMap Gr.cs=xs at*;generalize l.length=n at*;go_enter Tryz.func79,Tryz.ntmps79
  go_wp2_with (at_builtin;refine YW rfl _ _ _ rfl w.heap.size 53 i0 _ 6 80 Tryz.underlying31 hi0 hz0 hz1 hz2 rfl (by decide) (.slice (some ⟨w.heap.size,0,none⟩) 0 0) 0 [] rfl (WR w _ _ _ lr) ad n c xs rfl HF.out HR.out HO.out (by unfold maxLen;omega) (by omega) (by simp) ?_;intro A3 c3 w3 HO3 hg3);have HB3:Hid (Below w.heap.size w w3):=hid (Below.grown ((Below.refl w.heap.size w).alloc lr _) hg3.out (by simp) (fun k hk=>by simp [Value.ownBlock] at hk;omega))
  go_ret;refine⟨A3,c3,rfl,?_,HB3.out⟩
  have h:=HO3.out;rwa [Nat.zero_add,List.nil_append] at h
theorem Ty:(Tryz.prog.info? 9).map (fun i=>(i.zero,i.size,i.bytes))=some (some (.string ⟨#[]⟩),1,16):=by kernel_rfl
theorem XG (A:Option Addr)(c:Nat)(l:List (List UInt8))(w:World)(h:Ze w w.heap.size A YS l)(hl:l.length≤1099511627776):
  Calls Tryz.prog 77 #[.slice A l.length c] w fun e w'=> ∃ A' c',e= .returned (.slice A' l.length c')∧w'.ownsRow w.heap.size 9 1 (.slice A' l.length c') l.length (l.flatMap YS)∧Below w.heap.size w w':=by
 obtain⟨i0,hi0,hz0,hz1,hz2⟩:=info_parts Ty;have HH:=hid h;clear h
 cases A with
 | none=>
  obtain rfl:l= []:=by
   rcases Nat.eq_zero_or_pos l.length with h0 | h0
   ·exact List.eq_nil_of_length_eq_zero h0
   ·obtain⟨ad,h1,_⟩:=HH.out h0
    cases h1
  have kn: ∀ w,(binOp .eql 27 (.slice none 0 c) (.slice none 0 0)).run Tryz.prog w= .ok (.bool true) w:=fun w=>Lib.run_eql_slice_nil w _ _ _ _ _ _ _ Tryz.underlying27
  go_enter Tryz.func77,Tryz.ntmps77
  go_wp2;go_ret;exact⟨none,0,rfl,Xv _,Below.refl _ _⟩
 | some ad=>
  have kn: ∀ w,(binOp .eql 27 (.slice (some ad) l.length c) (.slice none 0 0)).run Tryz.prog w= .ok (.bool false) w:=fun w=>Lib.run_eql_slice_nil w _ _ _ _ _ _ _ Tryz.underlying27
  have HR:Hid (∀ (i:Nat) (u:Value),(l.flatMap YS)[i]?=some u→(w.alloc (.cells #[] 9)).cell? (ad.add i)=some u):=hid (by
   intro i u hu;have h0:0<l.length:=by
    have:=(List.getElem?_eq_some_iff.1 hu).1;rw [Zq YS.k] at this;rcases Nat.eq_zero_or_pos l.length with h0 | h0
    ·rw [h0] at this;omega
    ·exact h0
   obtain⟨ad',e,hB,h1⟩:=HH.out h0;injection e with e
   subst e;rw [World.cell?_alloc_lt w _ _ (by rw [Zs];exact hB)];exact h1 i u hu)
  have HF:=hid (Zq YS.k l);have HO:=hid (Yg YS.one l);clear HH;generalize l.flatMap YS=xs at*;generalize l.length=n at*;go_enter Tryz.func77,Tryz.ntmps77
  go_wp2_with (at_builtin;refine YW rfl _ _ _ rfl w.heap.size 9 i0 _ 1 16 Tryz.underlying27 hi0 hz0 hz1 hz2 rfl (by decide) (.slice (some ⟨w.heap.size,0,none⟩) 0 0) 0 [] rfl (WR w _ _ _ lr) ad n c xs rfl HF.out HR.out HO.out (by unfold maxLen;omega) (by omega) (by simp) ?_;intro A3 c3 w3 HO3 hg3);have HB3:Hid (Below w.heap.size w w3):=hid (Below.grown ((Below.refl w.heap.size w).alloc lr _) hg3.out (by simp) (fun k hk=>by simp [Value.ownBlock] at hk;omega))
  go_ret;refine⟨A3,c3,rfl,?_,HB3.out⟩
  have h:=HO3.out;rwa [Nat.zero_add,List.nil_append] at h
def QJ (r:Ru):Prop:=(-9223372036854775808≤r.low∧r.low≤9223372036854775807)∧(-9223372036854775808≤r.ZF∧r.ZF≤9223372036854775807)
theorem OW {α:Type}{P:α→Prop}{l:List α}{j:Nat}{a:α}(h: ∀ (i:Nat)(h:i<l.length),i<j→P l[i])(h':P a): ∀ (i:Nat)(h:i< (l.set j a).length),i<j+1→P (l.set j a)[i]:=fun i hi hij=>by
 rw [List.getElem_set];split
 ·exact h'
 ·exact h i (by simpa using hi) (by omega)
theorem Ou {α:Type}{P:α→Prop}{l:List α}{j:Nat}{a:α}(h: ∀ (i:Nat)(h:i<l.length),j≤i→P l[i]): ∀ (i:Nat)(h:i< (l.set j a).length),j+1≤i→P (l.set j a)[i]:=fun i hi hij=>by
 rw [List.getElem_set];split
 ·omega
 ·exact h i (by simpa using hi) (by omega)
theorem XU {w:World}{base g n c k:Nat}{T:TypeId}{xs:List Value}(h:w.ownsRow base T k (.slice (some ⟨g,0,none⟩) n c) n xs){i:Nat}(hi:i<xs.length)(u:Value):(w.setCell ⟨g,i,none⟩ u).ownsRow base T k (.slice (some ⟨g,0,none⟩) n c) n (xs.set i u):=by
 obtain⟨hl,h2⟩:=h;refine⟨by simpa using hl,?_⟩
 rcases h2 with ⟨h0,_⟩ | ⟨g',cap,cur,hv,hb,hh,h3,h4,h5,h6⟩
 ·cases h0
 ·injection hv with hv1 hv2 hv3
  injection hv1 with hv1
  injection hv1 with hv1
  subst hv1;subst hv3;have hB:ZP w g T cur.toList:=by simpa [ZP] using hh
  have hB2:=hB.Zx i u;refine .inr ⟨g,c,(cur.toList.set i u).toArray,rfl,hb,hB2,h3,h4,by simpa using h5,?_⟩
  rw [←h6,List.take_set]
theorem ZK {w:World}{base g n c k:Nat}{T:TypeId}{xs:List Value}(h:w.ownsRow base T k (.slice (some ⟨g,0,none⟩) n c) n xs):base≤g∧g<w.heap.size∧Zc w g T∧(∀ i,w.frozen? ⟨g,i,none⟩=false)∧ ∀ i u,xs[i]?=some u→w.cell? ⟨g,i,none⟩=some u:=by
 obtain⟨hl,h2⟩:=h;rcases h2 with ⟨h0,_⟩ | ⟨g',cap,cur,hv,hb,hh,h3,h4,h5,h6⟩
 ·cases h0
 ·injection hv with hv1 hv2 hv3
  injection hv1 with hv1
  injection hv1 with hv1
  subst hv1;have hB:ZP w g T cur.toList:=by simpa [ZP] using hh
  refine⟨hb,hB.lt,hB.Xr,fun i=>hB.frozen i,fun i u hu=> ?_⟩
  rw [hB.cell];rw [←h6,List.getElem?_take] at hu;split at hu
  ·exact hu
  ·cases hu
theorem _root_.Go.World.ownsRow.Yn {w:World}{base base':Nat}{e:TypeId}{size n:Nat}{v:Value}{xs:List Value}(h:w.ownsRow base e size v n xs)(hb:base'≤base):w.ownsRow base' e size v n xs:=by
 refine⟨h.1,?_⟩
 rcases h.2 with h | ⟨g,cap,cur,hv,hg,rest⟩
 ·exact .inl h
 ·exact .inr ⟨g,cap,cur,hv,Nat.le_trans hb hg,rest⟩
theorem XQ {w:World}{base:Nat}{e:TypeId}{size n:Nat}{v:Value}{xs:List Value}(h:w.ownsRow base e size v n xs){k:Nat}(hk:v.ownBlock=some k):k<w.heap.size:=(YC h hk).lt
theorem Yf {α:Type}{enc:α→List Value}{k:Nat}(hk: ∀ x,(enc x).length=k): ∀ (l:List α)(j i:Nat)(hj:j<l.length)(hi:i<k)(u:Value)(a':α),enc a'=(enc l[j]).set i u→(l.flatMap enc).set (j*k+i) u=(l.set j a').flatMap enc
 | [],j,i,hj,hi,u,a',h=>absurd hj (by simp)
 | a ::l,0,i,hj,hi,u,a',h=>by
  rw [List.flatMap_cons,Nat.zero_mul,Nat.zero_add,List.set_cons_zero,List.flatMap_cons,h,List.set_append_left _ _ (by rw [hk];exact hi)];rfl
 | a ::l,j+1,i,hj,hi,u,a',h=>by
  have h2:=Yf hk l j i (by simpa using hj) hi u a' h;rw [List.flatMap_cons,List.set_cons_succ,List.flatMap_cons,←h2,List.set_append_right _ _ (by rw [hk,Nat.add_mul,Nat.one_mul];omega),hk]
  congr 2
  rw [Nat.add_mul,Nat.one_mul];omega
theorem Ze.JZ {α:Type}{enc:α→List Value}{w:World}{B B':Nat}{A:Option Addr}{l:List α}(h:Ze w B A enc l)(hb:B≤B'):Ze w B' A enc l:=fun hn=>by
 obtain⟨ad,e,hB,h⟩:=h hn;exact⟨ad,e,Nat.lt_of_lt_of_le hB hb,h⟩
theorem X9 {w:World}{B:Nat}{l:List (List UInt8)}{A:Option Addr}(h:ZV w (· < B) [.Z9] (YU l) A):Ze w B A YS l:=by
 obtain⟨l',h1,h2,_⟩:=WP (enc:=YS) (sh:= [.Z9]) (fun b=> [Da.Z9 b]) id (fun _=>True) (fun x vs hv=>⟨x,rfl,by
  obtain⟨d0,ds0,v0,vs0,e,rfl,h0,r0⟩:=hv.cons;injection e with e1 e2
  subst e1;subst e2;obtain⟨_,rfl⟩:=r0.nil;obtain⟨b,hb0,rfl⟩:=h0.T0;injection hb0 with hb0
  subst hb0;rfl,trivial⟩) YS.k h
 rw [List.map_id] at h1;subst h1;exact h2
theorem Cl.Yj {w:World}{B:Nat}{l:List Cl}{A:Option Addr}(h:ZV w (· < B) Zl (l.map Cl.da) A):Ze w B A Cl.cs l:=by
 obtain⟨l',h1,h2,_⟩:=WP (enc:=Cl.cs) Cl.da id (fun _=>True) (fun x vs hv=>⟨x,rfl,Cl.YO hv,trivial⟩) Cl.k h;rw [List.map_id] at h1;subst h1;exact h2
theorem Sc.Yj {w:World}{B:Nat}{l:List Sc}{A:Option Addr}(h:ZV w (· < B) Zh (l.map Sc.da) A):Ze w B A Sc.cs l:=by
 obtain⟨l',h1,h2,_⟩:=WP (enc:=Sc.cs) Sc.da id (fun _=>True) (fun x vs hv=>⟨x,rfl,Sc.YO hv,trivial⟩) Sc.k h;rw [List.map_id] at h1;subst h1;exact h2
theorem Ru.Yj {w:World}{B:Nat}{l:List Ru}{A:Option Addr}(h:ZV w (· < B) Yx (l.map Ru.da) A): ∃ rs:List Yv,rs.map (·.1)=l∧Ze w B A Yv.cs rs∧ ∀ r∈rs,ZV w (· < B) [.Z9] (YU r.1.ZX) r.2.1∧QJ r.1:=
 WP (enc:=Yv.cs) (sh:=Yx) Ru.da (·.1) _ (fun x vs hv=>by
  obtain⟨X,n,rfl,hX⟩:=Ru.YO hv;exact⟨(x,X,n),rfl,rfl,hX⟩) Yv.k h
theorem Tq {w:World}{base c:Nat}{l:List (List UInt8)}{A:Option Addr}(h:w.ownsRow base 9 1 (.slice A l.length c) l.length (l.flatMap YS)):ZV w (Nw w base [9]) [.Z9] (YU l) A:=by
 have h1:=Yk (S:=fun _=>False) (sh:= [.Z9]) (fun b=> [Da.Z9 b]) id YS.k h rfl (fun a _=>ZH.one (YK.YZ a));rw [List.map_id] at h1;exact h1.Y6 (fun k hk=>hk.elim (fun h=>h.elim) id) (fun _ _=>rfl)
structure X5 (w:World) (lo hi:Nat) (t:Za):Prop where
 ZX:w.ownsRow lo 119 3 (.slice t.2.1 t.1.ZX.length t.2.2.1) t.1.ZX.length (t.1.ZX.flatMap Cl.cs)
 MQ: ∀ g,(Value.slice t.2.1 t.1.ZX.length t.2.2.1).ownBlock=some g→g<hi
 ZS: ∃ rs:List Yv,rs.map (·.1)=t.1.ZS∧w.ownsRow lo 40 8 (.slice t.2.2.2.1 t.1.ZS.length t.2.2.2.2) t.1.ZS.length (rs.flatMap Yv.cs)∧
  ∀ r∈rs,ZV w (fun g=>Nw w lo [9] g∧g<hi) [.Z9] (YU r.1.ZX) r.2.1∧QJ r.1
 Qy: ∀ g,(Value.slice t.2.2.2.1 t.1.ZS.length t.2.2.2.2).ownBlock=some g→g<hi
theorem Uf (t:Tb)(X:Option Addr)(x:Nat)(Y:Option Addr)(y:Nat)(w:World)(hX:ZV w (· < w.heap.size) Zl (t.ZX.map Cl.da) X)(hY:ZV w (· < w.heap.size) Yx (t.ZS.map Ru.da) Y)(ht:t.Zv 1099511627776):
  Calls Tryz.prog 58 #[.agg #[.string (Z9 t.Z8),.string (Z9 t.name),.string (Z9 t.ZL),.slice X t.ZX.length x,.slice Y t.ZS.length y]] w fun e w'=> ∃ X' x' Y' y',e= .returned (.agg (t.cs X' x' Y' y').toArray)∧X5 w' w.heap.size w'.heap.size (t,X',x',Y',y')∧Below w.heap.size w w':=by
 have HX:=hid (Cl.Yj hX);obtain⟨rs0,hrs,hr1,hr2⟩:=Ru.Yj hY;have HRs:=hid hrs;have HR1:=hid hr1;have HR2:=hid hr2;have hcl:=ht.1;have hrl:=ht.2.1;have HT:=hid ht.2.2;have hrn:rs0.length=t.ZS.length:=by rw [←hrs,List.length_map]
 have HI:=iN 73 5;clear hX hY hrs hr1 hr2 ht;go_enter Tryz.func58,Tryz.ntmps58
 go_wp2_with fail;refine Zm _ fun W hW=> ?_
 have HB1:=bQ hW;have P1:=nD hW;have Q1:=nF hW;clear hW;refine(TK X x t.ZX W (HX.out.later HB1.out) hcl).mono ?_
 rintro e W2 ⟨X2,x2,rfl,ho,hb⟩;have HB2:=bt HB1 hb;have HC2:=hid ho;have P2:=bl P1 hb;have Q2:=bl Q1 hb;have HS1:=hid HB1.out.size;have hW1l:w.heap.size+1<W.heap.size:=Q1.out.lt;have hz2:=hb.size;clear ho hb HB1 P1 Q1;have p3:=ce P2 3;have f3:=P2.out.frozen 3;have p4:=ce P2 4;go_wp2_with fail;refine Zm _ fun W3 hW=> ?_
 have HB3:Hid (Below w.heap.size w W3):=hid (by rw [hW];exact HB2.out.setCell lr _);have HC3:Hid (W3.ownsRow W.heap.size 119 3 (.slice X2 t.ZX.length x2) t.ZX.length (t.ZX.flatMap Cl.cs)):=hid (by rw [hW];exact ownsRow_setCell_below HC2.out (by show w.heap.size<_;omega) _)
 have P3:=rB hW (P2.out.Zx 3 _);have Q3:Hid (ZP W3 (w.heap.size+1) 73 [.string ⟨#[]⟩,.string ⟨#[]⟩,.string ⟨#[]⟩,.slice none 0 0,.slice none 0 0]):=hid (by rw [hW];exact Q2.out.Wx (by show _≠w.heap.size;omega) _)
 have hz3:W2.heap.size≤W3.heap.size:=by rw [hW];simp [World.setCell]
 clear hW P2 Q2 HC2 HB2 p3 f3 p4;have hcR:=Sf Y y rs0 W3 (HR1.out.later HB3.out) (by omega);rw [hrn] at hcR;refine hcR.mono ?_
 rintro e W4 ⟨Y2,y2,rfl,ho,hb⟩;have HB4:=bt HB3 hb;have HR4:=hid ho;have HC4:=hid (HC3.out.Zw hb);have P4:=bl P3 hb;have hz4:=hb.size;have Q4:=bl Q3 hb;clear ho hb HB3 P3 Q3 HC3 hcR;have p4:=ce P4 4;have f4:=P4.out.frozen 4;have W5z:W4.heap.size=(W4.setCell ⟨w.heap.size,4,none⟩ (.slice Y2 t.ZS.length y2)).heap.size:=by simp [World.setCell]
 have HB5:Hid (Below w.heap.size w (W4.setCell ⟨w.heap.size,4,none⟩ (.slice Y2 t.ZS.length y2))):=hid (HB4.out.setCell lr _);have HC5:Hid ((W4.setCell ⟨w.heap.size,4,none⟩ (.slice Y2 t.ZS.length y2)).ownsRow W.heap.size 119 3 (.slice X2 t.ZX.length x2) t.ZX.length (t.ZX.flatMap Cl.cs)):=hid (ownsRow_setCell_below HC4.out (by show w.heap.size<_;omega) _)
 have HR5:Hid ((W4.setCell ⟨w.heap.size,4,none⟩ (.slice Y2 t.ZS.length y2)).ownsRow W3.heap.size 40 8 (.slice Y2 t.ZS.length y2) t.ZS.length (rs0.flatMap Yv.cs)):=hid (ownsRow_setCell_below HR4.out (by show w.heap.size<_;omega) _);have P5:Hid (ZP (W4.setCell ⟨w.heap.size,4,none⟩ (.slice Y2 t.ZS.length y2)) w.heap.size 73 [.string (Z9 t.Z8),.string (Z9 t.name),.string (Z9 t.ZL),.slice X2 t.ZX.length x2,.slice Y2 t.ZS.length y2]):=hid (P4.out.Zx 4 _);have Q5:Hid (ZP (W4.setCell ⟨w.heap.size,4,none⟩ (.slice Y2 t.ZS.length y2)) (w.heap.size+1) 73 [.string ⟨#[]⟩,.string ⟨#[]⟩,.string ⟨#[]⟩,.slice none 0 0,.slice none 0 0]):=hid (Q4.out.Wx (by show _≠w.heap.size;omega) _)
 have p5:(W4.setCell ⟨w.heap.size,4,none⟩ (.slice Y2 t.ZS.length y2)).cell? ⟨w.heap.size,4,none⟩=some (.slice Y2 t.ZS.length y2):=P5.out.cell 4;clear HB4 HC4 HR4 P4 Q4;go_wp2;go_loopw [15] (fun i wr=> ∃ (j:Nat) (rs:List Yv),j≤t.ZS.length∧i= .int .i64 j∧Hid (rs.map (·.1)=t.ZS)∧Hid (wr.ownsRow W3.heap.size 40 8 (.slice Y2 t.ZS.length y2) t.ZS.length (rs.flatMap Yv.cs))∧Hid (wr.ownsRow W.heap.size 119 3 (.slice X2 t.ZX.length x2) t.ZX.length (t.ZX.flatMap Cl.cs))∧
  Hid (∀ (i:Nat) (h:i<rs.length),i<j→ZV wr (Nw wr w.heap.size [9]) [.Z9] (YU rs[i].1.ZX) rs[i].2.1∧QJ rs[i].1)∧Hid (∀ (i:Nat) (h:i<rs.length),j≤i→ZV w (· < w.heap.size) [.Z9] (YU rs[i].1.ZX) rs[i].2.1∧QJ rs[i].1)∧Hid (Below w.heap.size w wr)∧Hid (ZP wr w.heap.size 73 [.string (Z9 t.Z8),.string (Z9 t.name),.string (Z9 t.ZL),.slice X2 t.ZX.length x2,.slice Y2 t.ZS.length y2])∧Hid (ZP wr (w.heap.size+1) 73 [.string ⟨#[]⟩,.string ⟨#[]⟩,.string ⟨#[]⟩,.slice none 0 0,.slice none 0 0])) (fun i _=>t.ZS.length - (intOf i).toNat)
 case atStart=>exact⟨0,rs0,Nat.zero_le _,rfl,HRs,HR5,HC5,hid (fun i h h0=>absurd h0 (by omega)),hid (fun i h _=>HR2.out _ (List.getElem_mem h)),HB5,P5,Q5⟩
 case round=>
  clear HB5 HC5 HR5 P5 Q5 p5 p4 f4 W5z;obtain⟨j,rs,hj,rfl,HRm,HRo,HCo,HD,HE,HBw,HP,HQ⟩:=hrel;by_cases hlt:j<t.ZS.length
  ·have hrl2:rs.length=t.ZS.length:=by rw [←HRm.out,List.length_map]
   have hjr:j<rs.length:=by omega
   obtain⟨hlo,hbd⟩:=HE.out j hjr lr;have HL:=hid (X9 hlo);have HBd:=hid hbd;have hrt:=(HT.out rs[j].1 (by rw [←HRm.out];exact List.mem_map.2 ⟨_,List.getElem_mem hjr,rfl⟩)).1;obtain⟨g,rfl⟩: ∃ g,Y2=some ⟨g,0,none⟩:=by
    obtain⟨g,cap,hv,_,_⟩:=HRo.out.form (by omega);exact⟨g,by injection hv⟩
   obtain⟨hg1,hg2,hg3,hg4,hg5⟩:=ZK HRo.out;have hcell:=hg5 (j*8+2) (.slice rs[j].2.1 rs[j].1.ZX.length rs[j].2.2) (by rw [Zj Yv.k rs j 2 hjr (by omega)];rfl)
   have hfr:=hg4 (j*8+2);have HGT:=hid hg3;have HSet:=hid (fun(A':Option Addr) (c':Nat)=>Yf Yv.k rs j 2 hjr (by omega) (.slice A' rs[j].1.ZX.length c') ((rs[j].1,A',c'):Yv) rfl);clear hlo hbd hg3 hg4 hg5;generalize hr:rs[j]=r at*;have p4:=ce HP 4;have hlp:=HP.out.lt;have hb1:(j:Int)< (t.ZS.length:Int):=by omega
   go_wp2_with fail;have hS0:(fun w'=>Below wr.heap.size wr w'∧w'.cell? ⟨w.heap.size,4,none⟩=some (.slice (some ⟨g,0,none⟩) t.ZS.length y2)∧w'.cell? ⟨g,j*8+2,none⟩=some (.slice r.2.1 r.1.ZX.length r.2.2)) wr.drew:=⟨br.drew,p4,hcell⟩
   have hkeep:Hid (∀ w',Below wr.heap.size wr w'→(fun w'=>Below wr.heap.size wr w'∧w'.cell? ⟨w.heap.size,4,none⟩=some (.slice (some ⟨g,0,none⟩) t.ZS.length y2)∧w'.cell? ⟨g,j*8+2,none⟩=some (.slice r.2.1 r.1.ZX.length r.2.2)) w'):=hid fun w' h=>⟨h,ct p4 h hlp,ct hcell h hg2⟩
   refine YB 12 (S:=fun w'=>Below wr.heap.size wr w'∧w'.cell? ⟨w.heap.size,4,none⟩=some (.slice (some ⟨g,0,none⟩) t.ZS.length y2)∧w'.cell? ⟨g,j*8+2,none⟩=some (.slice r.2.1 r.1.ZX.length r.2.2)) (by kernel_rfl) hS0 (fun HD'=> ?_)
   (try simp only [pp]);refine Xk 0 18 HD' ?_;refine Xk 1 19 HD' ?_;refine Xk 2 20 HD' ?_;refine Xk 3 21 HD' ?_;refine Xk 4 22 HD' ?_;refine Xk 5 23 HD' ?_;refine Xk 6 24 HD' ?_;refine Xk 7 25 HD' ?_;refine Xk 8 26 HD' ?_;refine Vd 9 27 fun K hK=> ?_
   go_simp;go_at_call 77
   have hD1:Below wr.heap.size wr wr.drew:=br.drew;refine(XG r.2.1 r.2.2 r.1.ZX wr.drew (HL.out.below HBw.out |>.JZ (by simpa using HBw.out.size)) hrt).mono ?_
   rintro e w5 ⟨A',c',rfl,ho5,hb⟩;have HB5:Hid (Below wr.heap.size wr w5):=hid (hD1.trans hb);have HS5:=hid (Tq ho5);have hz5:=hb.size;clear hb ho5;have HD':=hkeep.out _ HB5.out;refine hK.out _ _ HD' ?_
   clear hK K;(try simp only [pp])
   refine Vd 10 28 fun K hK=> ?_
   go_simp;refine hK.out _ _ HD' ?_
   clear hK K;(try simp only [pp])
   refine Vd 11 29 fun K hK=> ?_
   go_simp;refine hK.out _ _ HD' ?_
   clear hK K;(try simp only [pp])
   refine YI.Xo (i:=12) (o:=⟨none,_,_,_,_,_⟩) (by kernel_rfl) rfl rfl (fun K hK=> ?_)
   have e5:w5.cell? ⟨g,j*8+2,none⟩=some (.slice r.2.1 r.1.ZX.length r.2.2):=HD'.2.2;have f5:w5.frozen? ⟨g,j*8+2,none⟩=false:=(HB5.out.frozen (p:=⟨g,j*8+2,none⟩) hg2).trans hfr;go_simp;refine hK.out _ _ (YI.done (by kernel_rfl) ?_ _);clear hK K;have hgw:w.heap.size<g:=by omega
   have R1:=hid (HRo.out.Zw (by exact HB5.out));have hi8:j*8+2< (rs.flatMap Yv.cs).length:=by rw [Zq Yv.k];omega
   have R2:Hid ((w5.setCell ⟨g,j*8+2,none⟩ (.slice A' r.1.ZX.length c')).ownsRow W3.heap.size 40 8 (.slice (some ⟨g,0,none⟩) t.ZS.length y2) t.ZS.length ((rs.set j (r.1,A',c')).flatMap Yv.cs)):=hid (by
    rw [←HSet.out A' c'];exact XU R1.out hi8 _)
   have hK5:ZR [40] w5 (w5.setCell ⟨g,j*8+2,none⟩ (.slice A' r.1.ZX.length c')):=ZR.Zx (HGT.out.Tt (HB5.out.block g hg2)) (by simp) _;have C2:=hid ((HCo.out.Zw (by exact HB5.out)).keeps hK5 (by decide));have D2:=hid (OW (a:=((r.1,A',c'):Yv)) (P:=fun z=>ZV (w5.setCell ⟨g,j*8+2,none⟩ (.slice A' r.1.ZX.length c')) (Nw (w5.setCell ⟨g,j*8+2,none⟩ (.slice A' r.1.ZX.length c')) w.heap.size [9]) [.Z9] (YU z.1.ZX) z.2.1∧QJ z.1)
    (fun i h hij=>⟨((HD.out i h hij).1.RC (by exact HB5.out)).WD hK5 (by decide),(HD.out i h hij).2⟩)
    ⟨(HS5.out.UF (by simpa using HBw.out.size) (fun _ h=>h)).WD hK5 (by decide),HBd.out⟩)
   have E2:=hid (Ou (l:=rs) (j:=j) (P:=fun z:Yv=>ZV w (· < w.heap.size) [.Z9] (YU z.1.ZX) z.2.1∧QJ z.1) (a:=((r.1,A',c'):Yv)) HE.out);have M2:Hid ((rs.set j (r.1,A',c')).map (·.1)=t.ZS):=hid (by rw [List.map_set,←HRm.out,←hr,←List.getElem_map (f:=fun x:Yv=>x.1) (h:=by simpa using hjr),List.set_getElem_self]);have B2:Hid (Below w.heap.size w (w5.setCell ⟨g,j*8+2,none⟩ (.slice A' r.1.ZX.length c'))):=hid ((HBw.out.trans (HB5.out.mono HBw.out.size)).setCell (by show w.heap.size≤g;omega) _)
   have P2':=hid ((HP.out.below HB5.out hlp).keeps hK5 (by decide));have Q2':=hid ((HQ.out.below HB5.out HQ.out.lt).keeps hK5 (by decide));clear HRm HRo HCo HD HE HBw HP HQ HD' R1 hkeep hS0 p4 hcell hfr e5 f5 HB5 HS5 hK5 hD1 HL HSet HGT;go_wp2;go_roundw
   case rel=>exact⟨j+1,rs.set j (r.1,A',c'),by omega,by go_num,M2,R2,C2,D2,E2,B2,P2',Q2'⟩
   case measure=>simp [intOf];omega
  ·obtain rfl:j=t.ZS.length:=by omega
   go_wp2_with (first
    |(refine lO HP HI Tryz.underlying73 ?_)
    |((refine sO HQ HI ?_);intro w6 H6))
   refine bodyPost_ret (rS (hid H6.out.X8) Tryz.underlying73 HI) rfl ?_
   have hrl2:rs.length=t.ZS.length:=by rw [←HRm.out,List.length_map]
   have K6:=H6.out.keeps;refine⟨X2,x2,Y2,y2,rfl,⟨?_,?_,⟨rs,HRm.out,?_,?_⟩,?_⟩,H6.out.below HBw.out (by omega)⟩
   ·exact(HCo.out.Yn (by omega)).keeps K6 (by decide)
   ·exact fun k hk=>by have:=XQ ((HCo.out.Yn (base':=w.heap.size) (by omega)).keeps K6 (by decide)) hk;omega
   ·exact(HRo.out.Yn (by omega)).keeps K6 (by decide)
   ·intro r hr;obtain⟨i,hi,rfl⟩:=List.getElem_of_mem hr;obtain⟨h1,h2⟩:=HD.out i hi (by omega);exact⟨(h1.WD K6 (by decide)).Y6 (fun k hk=>⟨hk,hk.lt⟩) (fun _ _=>rfl),h2⟩
   ·exact fun k hk=>by have:=XQ ((HRo.out.Yn (base':=w.heap.size) (by omega)).keeps K6 (by decide)) hk;omega
theorem X5.keeps {us:List TypeId}{w w':World}{lo hi:Nat}{t:Za}(h:X5 w lo hi t)(hk:ZR us w w')(h1:119∉us)(h2:40∉us)(h3:9∉us):X5 w' lo hi t:=by
 obtain⟨hc,MQ,⟨rs,hm,hr,ha⟩,Qy⟩:=h;have hd: ∀ t,t∈ [9]→t∉us:=fun t ht=>by rw [List.mem_singleton.1 ht];exact h3
 exact⟨hc.keeps hk h1,MQ,⟨rs,hm,hr.keeps hk h2,fun r hr'=>⟨(ha r hr').1.Y6 (fun k hk'=>⟨(hk'.1.keeps hk hd).1,hk'.2⟩) (fun _ hp=>World.cell?_of_block (hp.1.keeps hk hd).2),(ha r hr').2⟩⟩,Qy⟩
theorem X5.below {w w':World}{lo hi:Nat}{t:Za}(h:X5 w lo hi t)(hb:Below w.heap.size w w'):X5 w' lo hi t:=h.keeps (us:= []) (ZR.Zp hb lr) (by simp) (by simp) (by simp)
theorem X5.mono {w:World}{lo hi lo' hi':Nat}{t:Za}(h:X5 w lo hi t)(h1:lo'≤lo)(h2:hi≤hi'):X5 w lo' hi' t:=by
 obtain⟨hc,MQ,⟨rs,hm,hr,ha⟩,Qy⟩:=h;exact⟨hc.Yn h1,fun g hg=>Nat.lt_of_lt_of_le (MQ g hg) h2,⟨rs,hm,hr.Yn h1,fun r hr'=>⟨(ha r hr').1.Y6 (fun k hk'=>⟨hk'.1.mono h1 (fun _ h=>h),Nat.lt_of_lt_of_le hk'.2 h2⟩) (fun _ _=>rfl),(ha r hr').2⟩⟩,fun g hg=>Nat.lt_of_lt_of_le (Qy g hg) h2⟩
theorem X5.VH {w:World}{lo hi:Nat}{t:Za}(h:X5 w lo hi t):ZH w (Nw w lo [119,40,9]) Zt t.1.da (Za.cs t):=by
 obtain⟨hc,MQ,⟨rs,hm,hr,ha⟩,Qy⟩:=h;have h1:=Yk (S:=fun _=>False) (sh:=Zl) Cl.da id Cl.k hc rfl (fun a _=>Cl.VH a);rw [List.map_id] at h1;have h2:=Yk (S:=Nw w lo [9]) (sh:=Yx) Ru.da (·.1) Yv.k hr (by rw [←hm,List.length_map]) (fun a hr'=>by
  obtain⟨h3,h4⟩:=ha a hr';have h5:=YK.WJ (c:=a.2.2) (h3.Y6 (S':=Nw w lo [9]) (fun _ h=>h.1) (fun _ _=>rfl));have h6:ZH w (Nw w lo [9]) Yx a.1.da [.string (Z9 a.1.name),.int .i64 a.1.ZQ,.slice a.2.1 (YU a.1.ZX).length a.2.2,.int .i64 a.1.low,.int .i64 a.1.ZF,.string (Z9 a.1.Z8),.string (Z9 a.1.ZY),.string (Z9 a.1.key)]:=
   ZH.mk (YK.YZ _) (ZH.mk (YK.Xq _) (ZH.mk h5 (ZH.mk (YK.UU h4.1) (ZH.mk (YK.UU h4.2) (ZH.mk (YK.YZ _) (ZH.mk (YK.YZ _) (ZH.one (YK.YZ _))))))))
  have e:(YU a.1.ZX).length=a.1.ZX.length:=by simp [YU]
  rw [e] at h6;exact h6)
 rw [hm] at h2;have h3:=YK.WJ (c:=t.2.2.1) (h1.Y6 (S':=Nw w lo [119,40,9]) (fun k hk=>by
  rcases hk with hk | hk
  ·exact hk.elim
  ·exact hk.mono lr (by simp)) (fun _ _=>rfl))
 have h4:=YK.WJ (c:=t.2.2.2.2) (h2.Y6 (S':=Nw w lo [119,40,9]) (fun k hk=>by
  rcases hk with hk | hk
  ·exact hk.mono lr (by simp)
  ·exact hk.mono lr (by simp)) (fun _ _=>rfl))
 rw [List.length_map] at h3 h4;exact ZH.mk (YK.YZ _) (ZH.mk (YK.YZ _) (ZH.mk (YK.YZ _) (ZH.mk h3 (ZH.one h4))))
structure WH (w:World) (base:Nat) (o:Ob) (A0:Option Addr) (k0:Nat) (A1:Option Addr) (k1:Nat) (ts:List Za) (b:Nat→Nat):Prop where
 data:ts.map (·.1)=o.Z7
 Z4:w.ownsRow base 89 2 (.slice A0 o.Z4.length k0) o.Z4.length (o.Z4.flatMap Sc.cs)
 Z7:w.ownsRow base 73 5 (.slice A1 o.Z7.length k1) o.Z7.length (ts.flatMap Za.cs)
 low:base≤b 0
 tab: ∀ (j:Nat) (h:j<ts.length),b j≤b (j+1)∧X5 w (b j) (b (j+1)) ts[j]
theorem WH.sc {w:World}{base:Nat}{o:Ob}{A0:Option Addr}{k0:Nat}{A1:Option Addr}{k1:Nat}{ts:List Za}{b:Nat→Nat}(h:WH w base o A0 k0 A1 k1 ts b):ZV w (Nw w base [89]) Zh (o.Z4.map Sc.da) A0:=by
 have h1:=Yk (S:=fun _=>False) (sh:=Zh) Sc.da id Sc.k h.Z4 rfl (fun a _=>Sc.VH a);rw [List.map_id] at h1;exact h1.Y6 (fun k hk=>hk.elim (fun h=>h.elim) id) (fun _ _=>rfl)
theorem WH.Ur {w:World}{base:Nat}{o:Ob}{A0:Option Addr}{k0:Nat}{A1:Option Addr}{k1:Nat}{ts:List Za}{b:Nat→Nat}(h:WH w base o A0 k0 A1 k1 ts b): ∀ (j i:Nat),i≤j→j≤ts.length→b i≤b j
 | 0,i,hi,_=>by rw [Nat.le_zero.1 hi];exact Nat.le_refl _
 | j+1,i,hi,hj=>by
  rcases Nat.eq_or_lt_of_le hi with e | e
  ·rw [e];exact Nat.le_refl _
  ·exact Nat.le_trans (h.Ur j i (by omega) (by omega)) (h.tab j (by omega)).1
theorem WH.tb {w:World}{base:Nat}{o:Ob}{A0:Option Addr}{k0:Nat}{A1:Option Addr}{k1:Nat}{ts:List Za}{b:Nat→Nat}(h:WH w base o A0 k0 A1 k1 ts b):ZV w (Nw w base [73,119,40,9]) Zt (o.Z7.map Tb.da) A1:=by
 have hl:ts.length=o.Z7.length:=by rw [←h.data,List.length_map]
 have h1:=Yk (S:=Nw w base [119,40,9]) (sh:=Zt) Tb.da (·.1) Za.k h.Z7 hl.symm (fun a ha=>by
  obtain⟨j,hj,rfl⟩:=List.getElem_of_mem ha;exact((h.tab j hj).2.VH).UF (Nat.le_trans h.low (h.Ur j 0 (Nat.zero_le _) (by omega))) (fun _ h=>h))
 rw [h.data] at h1;exact h1.Y6 (fun k hk=>by
  rcases hk with hk | hk
  ·exact hk.mono lr (by simp)
  ·exact hk.mono lr (by simp)) (fun _ _=>rfl)
theorem WH.below {w w':World}{base:Nat}{o:Ob}{A0:Option Addr}{k0:Nat}{A1:Option Addr}{k1:Nat}{ts:List Za}{b:Nat→Nat}(h:WH w base o A0 k0 A1 k1 ts b)(hb:Below w.heap.size w w'):WH w' base o A0 k0 A1 k1 ts b:=
 ⟨h.data,h.Z4.Zw hb,h.Z7.Zw hb,h.low,fun j hj=>⟨(h.tab j hj).1,(h.tab j hj).2.below hb⟩⟩
theorem JC {K:Act→World→Prop}{a:Act}(wX:World)(k: ∀ W,W=wX→K a W):K a wX:=k _ rfl
theorem Sk {Q:Exit→Act→World→Prop}{e:Exit}{a:Act}(wX:World)(k: ∀ W,W=wX→Q e a W):Q e a wX:=k _ rfl
theorem Uz {P:Program}{w:World}{ops:Array Oper}{o:Oper}{a:Act}{K:Act→World→Prop}{Q:Exit→Act→World→Prop}{E':Prop}(hgd:o.guard=none)(s x:Operand)(t:TypeId)
  (ho:o.op= .call { callee:= .builtin .append,args:= #[s,x],argTypes:= #[t,t]})
  (base:Nat) (e:TypeId) (i:TypeInfo) (z:Value) (size bytes:Nat) (ht:P.underlying t=some (.slice e)) (hi:P.info? e=some i) (hz:i.zero=some z)
  (hsize:i.size=size) (hby:i.bytes=bytes) (hzs:z.cells.size=size) (hsz:0<size)
  (v:Value) (n:Nat) (xs:List Value) (hs:a.eval s=v) (hown:w.ownsRow base e size v n xs)
  (ad:Addr) (m c:Nat) (news:List Value) (hx:a.eval x= .slice (some ad) m c) (hl:news.length=m*size) (hnews: ∀ j u,news[j]?=some u→w.cell? (ad.add j)=some u) (h1: ∀ u∈news,u.oneCell'=true)
  (h63:n+m≤maxLen) (hbytes:(n+m)*bytes≤140737488355328) (hbase:base≤w.heap.size)
  (h: ∀ A' c' w',Hid (w'.ownsRow base e size (.slice A' (n+m) c') (n+m) (xs ++news))→Hid (w.grownBy w' v.ownBlock)→K (a.put o.dst (.slice A' (n+m) c')) w'):if Region.wanted o (yielded ops a.tmps)=true then Oper.wp P o a w K Q else E':=by
 have hw:Region.wanted o (yielded ops a.tmps)=true:=by simp [Region.wanted,hgd]
 rw [if_pos hw];obtain⟨v',w',hrun,h2,h3,_⟩:=run_append_own (P:=P) w base t o.type e i z size bytes ht hi hz hsize hby hzs hsz v n xs hown ad m c news hl hnews h1 h63 hbytes hbase;unfold Oper.wp execOp;simp only [ho,resolve,invoke,builtin,Sem.run_bind,Sem.run_pure,Result.andThen_ok,List.map_toArray,List.map_cons,List.map_nil,hs,hx,hrun];obtain⟨A',c',rfl⟩:=Wi h2;exact h A' c' w' h2 h3
theorem Kg (o:Ob)(A0:Option Addr)(k0:Nat)(A1:Option Addr)(k1:Nat)(w:World)(hS:ZV w (· < w.heap.size) Zh (o.Z4.map Sc.da) A0)(hT:ZV w (· < w.heap.size) Zt (o.Z7.map Tb.da) A1)(ho:o.Zv 1099511627776):
  Calls Tryz.prog 245 #[.agg #[.slice A0 o.Z4.length k0,.slice A1 o.Z7.length k1]] w fun e w'=> ∃ B0 l0 B1 l1 ts b,e= .returned (.agg #[.slice B0 o.Z4.length l0,.slice B1 o.Z7.length l1])∧WH w' w.heap.size o B0 l0 B1 l1 ts b∧Below w.heap.size w w':=by
 have HS:=hid (Sc.Yj hS);have HT:=hid hT;have HO:=hid ho;have hsl:=ho.1;have htl:=ho.2.1;have HI:=iN 73 5;have HI2:=iN 26 2;obtain⟨i0,hi0,hz0,hz1,hz2⟩:=info_parts VX;clear hS hT ho;go_enter Tryz.func245,Tryz.ntmps245
 go_wp2_with fail;refine Zm _ fun W hW=> ?_
 have HB1:=bQ hW;have P1:=nD hW;have Q1:=nF hW;clear hW;refine(Vn A0 k0 o.Z4 W (HS.out.later HB1.out) hsl).mono ?_
 rintro e W2 ⟨B0,l0,rfl,ho,hb⟩;have HB2:=bt HB1 hb;have HC2:=hid ho;have P2:=bl P1 hb;have Q2:=bl Q1 hb;have hW1l:w.heap.size+1<W.heap.size:=Q1.out.lt;have hz2':=hb.size;clear ho hb HB1 P1 Q1;have p1:(W2.alloc (.cells #[.slice B0 o.Z4.length l0,.slice none 0 0] 26)).cell? ⟨w.heap.size,1,none⟩=some (.slice A1 o.Z7.length k1):=(P2.out.alloc _).cell 1;have HB3:Hid (Below w.heap.size w (W2.alloc (.cells #[.slice B0 o.Z4.length l0,.slice none 0 0] 26))):=hid (HB2.out.alloc HB2.out.size _);have HC3:Hid ((W2.alloc (.cells #[.slice B0 o.Z4.length l0,.slice none 0 0] 26)).ownsRow W.heap.size 89 2 (.slice B0 o.Z4.length l0) o.Z4.length (o.Z4.flatMap Sc.cs)):=hid (HC2.out.Zw (br.alloc lr _));have R3:Hid (ZP (W2.alloc (.cells #[.slice B0 o.Z4.length l0,.slice none 0 0] 26)) W2.heap.size 26 [.slice B0 o.Z4.length l0,.slice none 0 0]):=hid (ZP.new W2 _ _);have Q3:Hid (ZP (W2.alloc (.cells #[.slice B0 o.Z4.length l0,.slice none 0 0] 26)) (w.heap.size+1) 26 [.slice none 0 0,.slice none 0 0]):=hid (Q2.out.alloc _);clear HB2 HC2 P2 Q2;go_wp2;go_loopw [13] (fun i wr=> ∃ (j:Nat) (ts:List Za) (B1:Option Addr) (l1:Nat) (b:Nat→Nat),j≤o.Z7.length∧i= .int .i64 j∧Hid (ts.map (·.1)=o.Z7.take j)∧Hid (wr.ownsRow W.heap.size 89 2 (.slice B0 o.Z4.length l0) o.Z4.length (o.Z4.flatMap Sc.cs))∧
  Hid (wr.ownsRow w.heap.size 73 5 (.slice B1 j l1) j (ts.flatMap Za.cs))∧Hid (w.heap.size≤b 0∧b ts.length≤wr.heap.size∧ ∀ (i:Nat) (h:i<ts.length),b i≤b (i+1)∧X5 wr (b i) (b (i+1)) ts[i])∧Hid (Below w.heap.size w wr)∧Hid (ZP wr W2.heap.size 26 [.slice B0 o.Z4.length l0,.slice B1 j l1])∧Hid (ZP wr (w.heap.size+1) 26 [.slice none 0 0,.slice none 0 0])) (fun i _=>o.Z7.length - (intOf i).toNat)
 case atStart=>exact⟨0,[],none,0,fun _=>w.heap.size,Nat.zero_le _,rfl,hid (by simp),HC3,hid (World.ownsRow_nil _ _ _ _),hid ⟨Nat.le_refl _,HB3.out.size,fun i h=>absurd h (by simp)⟩,HB3,R3,Q3⟩
 case round=>
  clear HB3 HC3 R3 Q3 p1;obtain⟨j,ts,B1,l1,b,hj,rfl,HD,HSc,HTb,HBn,HBw,HR,HQ⟩:=hrel;by_cases hlt:j<o.Z7.length
  ·have htt:=HO.out.2.2 o.Z7[j] (List.getElem_mem hlt);have HTk:Hid (o.Z7.take (j+1)=o.Z7.take j ++ [o.Z7[j]]):=hid (List.take_succ_eq_append_getElem hlt);have htsl:ts.length=j:=by have:=congrArg List.length HD.out;simpa [Nat.min_eq_left hj] using this
   obtain⟨ad,vs,rfl,hv,hr⟩:=(HT.out.later HBw.out).at_ (j:=j) (by simpa using hlt);rw [List.getElem_map] at hv;generalize o.Z7[j]=t at*;obtain⟨X,x,Y,y,rfl,hX,hY⟩:=Tb.YO hv;have HXr:=hid hX;have HYr:=hid hY;have HTm:=hid htt;have HG:Hid (∀ i u,(t.cs X x Y y)[i]?=some u→wr.cell? ((ad.add (j*5)).add i)=some u):=hid fun i u hu=>by rw [ZG];exact hr i u hu
   clear hv hr hX hY htt;unfold Tb.cs at HG;have HL:Hid ((Tryz.prog.info? 73).map (·.size)=some ([.string (Z9 t.Z8),.string (Z9 t.name),.string (Z9 t.ZL),.slice X t.ZX.length x,.slice Y t.ZS.length y]:List Value).length):=HI;go_wp2_with (first | (with_reducible refine ZI rfl 73 _ rfl (ad.add (j*5)) rfl [.string (Z9 t.Z8),.string (Z9 t.name),.string (Z9 t.ZL),.slice X t.ZX.length x,.slice Y t.ZS.length y] _ HG.out Tryz.underlying73 rfl HL.out ?_) | fail);refine Uv _ fun Wl hW=> ?_
   have HBl:=rL hW (HBw.out.alloc HBw.out.size _);have HBr:=bP hW;have T5:=nC hW;clear hW;have RL:=bl HR HBr.out;have hrl:=RL.out.lt;have htl5:=T5.out.lt;have hS0:(fun w'=>w'.cell? ⟨W2.heap.size,1,none⟩=some (.slice B1 j l1)∧w'.cell? ⟨wr.heap.size,0,none⟩=some (.string (Z9 t.Z8))∧w'.cell? ⟨wr.heap.size,1,none⟩=some (.string (Z9 t.name))∧w'.cell? ⟨wr.heap.size,2,none⟩=some (.string (Z9 t.ZL))∧w'.cell? ⟨wr.heap.size,3,none⟩=some (.slice X t.ZX.length x)∧w'.cell? ⟨wr.heap.size,4,none⟩=some (.slice Y t.ZS.length y)) Wl.drew:=⟨RL.out.drew.cell 1,T5.out.drew.cell 0,T5.out.drew.cell 1,T5.out.drew.cell 2,T5.out.drew.cell 3,T5.out.drew.cell 4⟩
   have hkeep:Hid (∀ w',ZP w' W2.heap.size 26 [.slice B0 o.Z4.length l0,.slice B1 j l1]→ZP w' wr.heap.size 73 [.string (Z9 t.Z8),.string (Z9 t.name),.string (Z9 t.ZL),.slice X t.ZX.length x,.slice Y t.ZS.length y]→(fun w'=>w'.cell? ⟨W2.heap.size,1,none⟩=some (.slice B1 j l1)∧w'.cell? ⟨wr.heap.size,0,none⟩=some (.string (Z9 t.Z8))∧w'.cell? ⟨wr.heap.size,1,none⟩=some (.string (Z9 t.name))∧w'.cell? ⟨wr.heap.size,2,none⟩=some (.string (Z9 t.ZL))∧w'.cell? ⟨wr.heap.size,3,none⟩=some (.slice X t.ZX.length x)∧w'.cell? ⟨wr.heap.size,4,none⟩=some (.slice Y t.ZS.length y)) w'):=hid fun w' h1 h2=>⟨h1.cell 1,h2.cell 0,h2.cell 1,h2.cell 2,h2.cell 3,h2.cell 4⟩
   refine YB 7 (S:=fun w'=>w'.cell? ⟨W2.heap.size,1,none⟩=some (.slice B1 j l1)∧w'.cell? ⟨wr.heap.size,0,none⟩=some (.string (Z9 t.Z8))∧w'.cell? ⟨wr.heap.size,1,none⟩=some (.string (Z9 t.name))∧w'.cell? ⟨wr.heap.size,2,none⟩=some (.string (Z9 t.ZL))∧w'.cell? ⟨wr.heap.size,3,none⟩=some (.slice X t.ZX.length x)∧w'.cell? ⟨wr.heap.size,4,none⟩=some (.slice Y t.ZS.length y)) (by kernel_rfl) hS0 (fun HD'=> ?_)
   (try simp only [pp]);refine Xk 0 17 HD' ?_;refine Xk 1 18 HD' ?_;refine Xk 2 19 HD' ?_;refine Vd 3 20 fun K hK=> ?_
   go_simp;go_at_call 58
   have hD1:Below Wl.heap.size Wl Wl.drew:=br.drew;refine(Uf t X x Y y Wl.drew (HXr.out.later (HBr.out.trans (hD1.mono HBr.out.size))) (HYr.out.later (HBr.out.trans (hD1.mono HBr.out.size))) HTm.out).mono ?_
   rintro e w5 ⟨X',x',Y',y',rfl,ht5,hb⟩;have HB5:Hid (Below Wl.heap.size Wl w5):=hid (hD1.trans hb);have HBr5:=bt HBr HB5.out;have HN:=hid ht5;have R5:=bl RL HB5.out;have T6:=bl T5 HB5.out;clear hb ht5 RL T5;have HD':=hkeep.out _ R5.out T6.out;unfold Tb.cs;dsimp only;refine hK.out _ _ HD' ?_
   clear hK K;(try simp only [pp])
   refine Vd 4 21 fun K hK=> ?_
   go_simp;refine JC _ fun w6 h6=> ?_
   have HB56:=bP h6;have N6:=nC h6;clear h6;have R6:=bl R5 HB56.out;have T7:=bl T6 HB56.out;have HBr6:=bt HBr5 HB56.out;have HN6:=hid (HN.out.below HB56.out);clear R5 T6 HN;have HD':=hkeep.out _ R6.out T7.out;refine hK.out _ _ HD' ?_
   clear hK K;(try simp only [pp])
   refine Vd 5 22 fun K hK=> ?_
   have O6:=hid (HTb.out.Zw HBr6.out);have hs6:=HBr6.out.size;refine Uz rfl _ _ _ rfl w.heap.size 73 i0 _ 5 96 Tryz.underlying24 hi0 hz0 hz1 hz2 rfl (by decide) (.slice B1 j l1) j _ rfl O6.out ⟨w5.heap.size,0,none⟩ 1 1 [.string (Z9 t.Z8),.string (Z9 t.name),.string (Z9 t.ZL),.slice X' t.ZX.length x',.slice Y' t.ZS.length y'] rfl rfl (ZP.news N6.out) (by simp [Value.oneCell']) (by unfold maxLen;omega) (by omega) (by have:=HBw.out.size;omega) ?_
   intro A7 c7 w7 HO7 hg7;have K7:ZR [73] w6 w7:=ZR.grown O6.out hg7.out (by simp) hg7.out.size;have hgne:some wr.heap.size≠(Value.slice B1 j l1).ownBlock:=fun e=>by have:=XQ HTb.out e.symm;omega
   have R7:=hid (R6.out.keeps K7 (by decide));have T8:=hid (T7.out.grown hg7.out hgne);have HB7:Hid (Below w.heap.size w w7):=hid ((HBw.out.trans (HBr6.out.mono HBw.out.size)).grown hg7.out (by have:=HBw.out.size;omega) (Zu O6.out))
   have HSc7:=hid ((HSc.out.Zw HBr6.out).keeps K7 (by decide));have HQ7:=hid ((HQ.out.below HBr6.out HQ.out.lt).keeps K7 (by decide));have HN7:=hid (HN6.out.keeps K7 (by decide) (by decide) (by decide));have HBn7:Hid (∀ (i:Nat) (h:i<ts.length),b i≤b (i+1)∧X5 w7 (b i) (b (i+1)) ts[i]):=hid fun i h=>⟨(HBn.out.2.2 i h).1,(((HBn.out.2.2 i h).2.below HBr6.out).keeps K7 (by decide) (by decide) (by decide))⟩
   have hs7:=hg7.out.size;have hs56:=HB56.out.size;have hs5:=HB5.out.size;have hsl':=HBr.out.size;have HD':=hkeep.out _ R7.out T8.out;refine hK.out _ _ HD' ?_
   clear hK K;(try simp only [pp])
   refine Vd 6 23 fun K hK=> ?_
   go_simp;refine hK.out _ _ HD' ?_
   clear hK K;(try simp only [pp])
   refine YI.Xo (i:=7) (o:=⟨none,_,_,_,_,_⟩) (by kernel_rfl) rfl rfl (fun K hK=> ?_)
   have e5:w7.cell? ⟨W2.heap.size,1,none⟩=some (.slice B1 j l1):=HD'.1;have f5:=R7.out.frozen 1;go_simp;refine hK.out _ _ (YI.done (by kernel_rfl) ?_ _);clear hK K;refine Sk _ fun w8 h8=> ?_
   have hgw:w.heap.size≤W2.heap.size:=by omega
   have K8:ZR [26] w7 w8:=by rw [h8];exact ZR.Zx R7.out.Xr (by simp) _
   have R8:=rB h8 (R7.out.Zx 1 _);have HQ8:Hid (ZP w8 (w.heap.size+1) 26 [.slice none 0 0,.slice none 0 0]):=hid (by rw [h8];exact HQ7.out.Wx (by show _≠W2.heap.size;omega) _)
   have HB8:Hid (Below w.heap.size w w8):=hid (by rw [h8];exact HB7.out.setCell (by show w.heap.size≤W2.heap.size;omega) _);have hs8:w7.heap.size≤w8.heap.size:=K8.size;clear h8;have HSc8:=hid (HSc7.out.keeps K8 (by decide));have HTb8:Hid (w8.ownsRow w.heap.size 73 5 (.slice A7 (j+1) c7) (j+1) ((ts ++ [(t,X',x',Y',y')]).flatMap Za.cs)):=hid (by
    rw [List.flatMap_append];simpa [Za.cs,Tb.cs] using HO7.out.keeps K8 (by decide))
   have HD8:Hid ((ts ++ [((t,X',x',Y',y'):Za)]).map (·.1)=o.Z7.take (j+1)):=hid (by rw [List.map_append,HD.out,HTk.out];rfl);have HBn8:Hid (w.heap.size≤(fun i=>if i≤j then b i else w8.heap.size) 0∧(fun i=>if i≤j then b i else w8.heap.size) (ts ++ [((t,X',x',Y',y'):Za)]).length≤w8.heap.size∧ ∀ (i:Nat) (h:i< (ts ++ [((t,X',x',Y',y'):Za)]).length),(fun i=>if i≤j then b i else w8.heap.size) i≤(fun i=>if i≤j then b i else w8.heap.size) (i+1)∧X5 w8 ((fun i=>if i≤j then b i else w8.heap.size) i) ((fun i=>if i≤j then b i else w8.heap.size) (i+1)) (ts ++ [((t,X',x',Y',y'):Za)])[i]):=hid (by
    have hb0:=HBn.out.1;have hbl:=HBn.out.2.1;refine⟨by simpa using hb0,by simp [htsl];rw [if_neg (by omega)];exact Nat.le_refl _,fun i h=> ?_⟩;by_cases hij:i<j
    ·have hi1:i<ts.length:=by omega
     obtain⟨h1,h2⟩:=HBn7.out i hi1;rw [List.getElem_append_left hi1];simp only [if_pos (show i≤j by omega),if_pos (show i+1≤j by omega)];exact⟨h1,h2.keeps K8 (by decide) (by decide) (by decide)⟩
    ·have hie:i=ts.length:=by simp at h;omega
     subst hie;rw [List.getElem_append_right lr];simp only [Nat.sub_self,List.getElem_cons_zero,if_pos (show ts.length≤j by omega),if_neg (show ¬ ts.length+1≤j by omega)];refine⟨by omega,(HN7.out.keeps K8 (by decide) (by decide) (by decide)).mono (by simp;omega) (by omega)⟩)
   clear HD HSc HTb HBn HBw HR HQ HD' hkeep hS0 e5 f5 HO7 hg7 K7 K8 O6 R6 R7 T7 T8 HB7 HSc7 HQ7 HN6 HN7 HBn7 HBr HBr5 HBr6 HB5 HB56 HBl N6 hD1 HG HL HTk HXr HYr HTm;go_wp2;go_roundw
   case rel=>exact⟨j+1,ts ++ [(t,X',x',Y',y')],A7,c7,fun i=>if i≤j then b i else w8.heap.size,by omega,by go_num,HD8,HSc8,HTb8,HBn8,HB8,R8,HQ8⟩
   case measure=>simp [intOf];omega
  ·obtain rfl:j=o.Z7.length:=by omega
   rw [List.take_length] at HD;go_wp2_with (first
    |(refine lO HR HI2 Tryz.underlying26 ?_)
    |((refine sO HQ HI2 ?_);intro w6 H6))
   refine bodyPost_ret (rS (hid H6.out.X8) Tryz.underlying26 HI2) rfl ?_
   have K6:=H6.out.keeps;refine⟨B0,l0,B1,l1,ts,b,rfl,⟨HD.out,(HSc.out.Yn (by omega)).keeps K6 (by decide),HTb.out.keeps K6 (by decide),HBn.out.1,fun i h=>⟨(HBn.out.2.2 i h).1,(HBn.out.2.2 i h).2.keeps K6 (by decide) (by decide) (by decide)⟩⟩,H6.out.below HBw.out (by omega)⟩
theorem YM {P:Program}{fn:Func}{t u:Tmp}{ty:TypeId}(h:fn.results= #[.cell t ty,.tmp u])(tmps:Array Value)(w:World)(b:Nat)(hb:tmps.getD t undef= .pointer (some ⟨b,0,none⟩)){t':TypeId}{cs:List Value}(hB:Hid (ZP w b t' cs)){n:Nat}(hn:cs.length=n){d:TypeDesc}
  (hu:P.underlying ty=some d) (hd:d.isRow=true) (hi:Hid ((P.info? ty).map (·.size)=some n)):(results fn tmps).run P w= .ok (.tuple #[.agg cs.toArray,tmps.getD u undef]) w:=by
 have hl:=run_loadVar_mid w b 0 ty cs d hB.out.YQ hu hd (hn▸hi.out);have hb':tmps[t]?.getD undef= .pointer (some ⟨b,0,none⟩):=by simpa using hb
 simp [results,h,hb',hl,asAddr]
def QW (o:Ob)(s n:List UInt8):Int:=if YT o=true then(if(Xs o s n).isSome=true then 0 else 61) else 63
theorem X5.rows {w:World}{lo hi:Nat}{t:Za}(h:X5 w lo hi t):ZV w (· < w.heap.size) Zl (t.1.ZX.map Cl.da) t.2.1∧ZV w (· < w.heap.size) Yx (t.1.ZS.map Ru.da) t.2.2.2.1:=by
 obtain⟨X,x,Y,y,h1,h2,h3⟩:=Tb.YO h.VH;have e:Za.cs t=t.1.cs X x Y y:=h1;unfold Za.cs Tb.cs at e;injection e with _ e
 injection e with _ e
 injection e with _ e
 injection e with e1 e
 injection e with e2 e
 injection e1 with e1
 injection e2 with e2
 rw [e1,e2];exact⟨h2.Oz,h3.Oz⟩
theorem ON (o:Ob)(A0:Option Addr)(k0:Nat)(A1:Option Addr)(k1:Nat)(s n:List UInt8)(w:World)(hS:ZV w (· < w.heap.size) Zh (o.Z4.map Sc.da) A0)(hT:ZV w (· < w.heap.size) Zt (o.Z7.map Tb.da) A1)(ho:o.Zv 1099511627776):
  Calls Tryz.prog 19 #[.agg #[.slice A0 o.Z4.length k0,.slice A1 o.Z7.length k1],.string (Z9 s),.string (Z9 n)] w fun e w'=> ∃ t' X x Y y er,e= .returned (.tuple #[.agg (Tb.cs t' X x Y y).toArray,.int .i64 er])∧er=QW o s n∧Below w.heap.size w w'∧
   ZV w' (· < w'.heap.size) Zl (t'.ZX.map Cl.da) X∧ZV w' (· < w'.heap.size) Yx (t'.ZS.map Ru.da) Y∧(er=0→(∃ i,∃ hi:i<o.Z7.length,Xs o s n=some i∧t'=o.Z7[i])∧X5 w' w.heap.size w'.heap.size (t',X,x,Y,y)):=by
 have HS:=hid hS;have HT:=hid hT;have HO:=hid ho;have htl:=ho.2.1;have HI:=iN 73 5;have HEr:Hid (QW o s n=if YT o=true then(if(Xs o s n).isSome=true then 0 else 61) else 63):=hid rfl;have HE0:Hid (RV o=if YT o=true then 0 else 63):=hid rfl;clear hS hT ho;go_enter Tryz.func19,Tryz.ntmps19
 go_wp2_with fail;refine Zm _ fun W hW=> ?_
 have HB1:=bQ hW;have P1:=nD hW;have Q1:=nF hW;clear hW;refine(UI o A0 k0 A1 k1 W (HS.out.later HB1.out) (HT.out.later HB1.out) HO.out).mono ?_
 rintro e W2 ⟨rfl,hb⟩;have HB2:=bt HB1 hb;have P2:=bl P1 hb;have Q2:=bl Q1 hb;clear hb HB1 P1 Q1;generalize RV o=eo at*
 cases hc:YT o
 ·rw [hc] at HEr HE0;obtain rfl:eo=63:=HE0.out;have HEr':Hid (QW o s n=63):=hid HEr.out;go_wp2_with (first | ((refine sO Q2 HI ?_);intro wS HS) | fail);refine bodyPost_ret (YM rfl _ _ (w.heap.size+1) rfl (hid HS.out.X8) (n:=5) rfl Tryz.underlying73 rfl HI) rfl ?_
  exact⟨⟨[],[],[],[],[]⟩,none,0,none,0,63,rfl,HEr'.out.symm,HS.out.below HB2.out (by omega),ZV.nil,ZV.nil,fun h=>absurd h (by decide)⟩
 rw [hc] at HEr HE0;obtain rfl:eo=0:=HE0.out;have p0:=ce P2 0;have p1:=ce P2 1;go_wp2_with fail;have cW:=Vt (o.Z4.map Sc.da) (o.Z7.map Tb.da) A0 k0 A1 k1 s n W2 (HT.out.later HB2.out) (by simpa using htl);rw [List.length_map,List.length_map,Vu,UM] at cW;refine cW.mono ?_
 rintro e W3 ⟨rfl,hb⟩;have HB3:=bt HB2 hb;have P3:=bl P2 hb;have Q3:=bl Q2 hb;clear hb cW HB2 P2 Q2 p0 p1
 cases ht:Xs o s n with
 | none=>
  rw [ht] at HEr;have HEr':Hid (QW o s n=61):=hid HEr.out;go_wp2_with (first | ((refine sO Q3 HI ?_);intro wS HS) | fail);refine bodyPost_ret (YM rfl _ _ (w.heap.size+1) rfl (hid HS.out.X8) (n:=5) rfl Tryz.underlying73 rfl HI) rfl ?_
  exact⟨⟨[],[],[],[],[]⟩,none,0,none,0,61,rfl,HEr'.out.symm,HS.out.below HB3.out (by omega),ZV.nil,ZV.nil,fun h=>absurd h (by decide)⟩
 | some i=>
  rw [ht] at HEr;have HEr':Hid (QW o s n=0):=hid HEr.out;obtain⟨hi,_⟩:=Xa (show o.Z7.findIdx? (fun x=>x.Z8 == s && x.name == n)=some i from ht);have htt:=HO.out.2.2 o.Z7[i] (List.getElem_mem hi);have HX:Hid (∀ t' er,t'=o.Z7[i]→(er=(0:Int)→ ∃ i,∃ hi:i<o.Z7.length,some i=some i∧t'=o.Z7[i])):=hid fun t' er h _=>⟨i,hi,rfl,h⟩
  have HX2:Hid (∀ t',t'=o.Z7[i]→ ∃ i',∃ hi:i'<o.Z7.length,Xs o s n=some i'∧t'=o.Z7[i']):=hid fun t' h=>⟨i,hi,ht,h⟩
  obtain⟨ad,vs,rfl,hv,hr⟩:=(HT.out.later HB3.out).at_ (j:=i) (by simpa using hi);rw [List.getElem_map] at hv;generalize o.Z7[i]=t at*;obtain⟨X,x,Y,y,rfl,hX,hY⟩:=Tb.YO hv;have HXr:=hid hX;have HYr:=hid hY;have HTm:=hid htt;have HG:Hid (∀ i' u,(t.cs X x Y y)[i']?=some u→W3.cell? ((ad.add (i*5)).add i')=some u):=hid fun i' u hu=>by rw [ZG];exact hr i' u hu
  clear hv hr hX hY htt;unfold Tb.cs at HG;have HL:Hid ((Tryz.prog.info? 73).map (·.size)=some ([.string (Z9 t.Z8),.string (Z9 t.name),.string (Z9 t.ZL),.slice X t.ZX.length x,.slice Y t.ZS.length y]:List Value).length):=HI;have p1:=ce P3 1;rw [show Xe (some i)=(i:Int) from rfl];have hi1:(0:Int)≤(i:Int):=by omega
  have hi2:(i:Int)< (o.Z7.length:Int):=by omega
  go_wp2_with (first | (with_reducible refine ZI rfl 73 _ rfl (ad.add (i*5)) rfl [.string (Z9 t.Z8),.string (Z9 t.name),.string (Z9 t.ZL),.slice X t.ZX.length x,.slice Y t.ZS.length y] _ HG.out Tryz.underlying73 rfl HL.out ?_) | fail);refine(Uf t X x Y y W3 HXr.out HYr.out HTm.out).mono ?_
  rintro e W4 ⟨X2,x2,Y2,y2,rfl,ht4,hb⟩;have HB4:=bt HB3 hb;have Q4:=bl Q3 hb;have HT4:=hid ht4;have hz4:=hb.size;have HB3':=hid HB3.out.size;have hq4:=Q3.out.lt;clear hb ht4 HB3 P3 Q3 p1;unfold Tb.cs;go_wp2_with (first | ((refine sO Q4 HI ?_);intro wS HS) | fail);refine bodyPost_ret (YM rfl _ _ (w.heap.size+1) rfl (hid HS.out.X8) (n:=5) rfl Tryz.underlying73 rfl HI) rfl ?_
  have hr:=(HT4.out.keeps HS.out.keeps (by decide) (by decide) (by decide)).rows;exact⟨t,X2,x2,Y2,y2,0,rfl,HEr'.out.symm,HS.out.below HB4.out (by omega),hr.1,hr.2,fun _=>⟨HX2.out t rfl,(HT4.out.keeps HS.out.keeps (by decide) (by decide) (by decide)).mono (by have:=HB3'.out;omega) (by rw [HS.out.size];exact Nat.le_refl _)⟩⟩
end Go.Proofs.YtnhmoibjlakhjaaGreat
namespace Go.Proofs.YtnhmoibjlakhjaaGreat
set_option maxRecDepth 100000
set_option maxHeartbeats 16000000
open Go.RowKit
theorem rt {P:Program}{fn:Func}{t u:Tmp}{ty:TypeId}{tmps:Array Value}{w:World}{b:Nat}{t':TypeId}{cs:List Value}{n:Nat}{d:TypeDesc}(hB:Hid (ZP w b t' cs))(hu:P.underlying ty=some d)(hi:Hid ((P.info? ty).map (·.size)=some n))
  (h:fn.results= #[.cell t ty,.tmp u]:=by exact rfl) (hb:tmps.getD t undef= .pointer (some ⟨b,0,none⟩):=by exact rfl) (hn:cs.length=n:=by exact rfl) (hd:d.isRow=true:=by exact rfl):(results fn tmps).run P w= .ok (.tuple #[.agg cs.toArray,tmps.getD u undef]) w:=
 YM h tmps w b hb hB hn hu hd hi
end Go.Proofs.YtnhmoibjlakhjaaGreat
