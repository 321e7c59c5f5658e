/- Lemmas of the proof. No condition but each theorem's own. -/
import Derived.Test.YtnhmoibjlakhjaaGreatM19
import Derived.Deep.DeepCutAuto
import Derived.Test.YtnhmoibjlakhjaaGreatM03
import Derived.Test.YtnhmoibjlakhjaaGreatM10
import Derived.Deep.AppendLies
import Derived.Lib.SliceRun
import Derived.Test.YtnhmoibjlakhjaaGreatM17
import Derived.Test.YtnhmoibjlakhjaaGreatM18
set_option linter.unusedVariables false
set_option linter.unusedSimpArgs false
namespace Go.Proofs.YtnhmoibjlakhjaaGreat
open Lib (hid)
set_option maxRecDepth 100000
set_option maxHeartbeats 16000000
open Go.RowKit
def RV (o:Ob):Int:=if YR o=true then 0 else 63
theorem Rg (o:Ob)(s:List UInt8):(o.Z7.map Tb.da).countP (fun d=>tx d 0 == s)=XC o s:=by
 unfold XC;rw [List.countP_map,List.countP_eq_length_filter];rfl
def Rs (o:Ob)(s:Sc):Bool:=Zq s.name && Zq s.ZN && decide (XC o s.name≤8)
theorem UE (o:Ob)(A0:Option Addr)(k0:Nat)(A1:Option Addr)(k1:Nat)(w:World)(hS:ZV w (· < w.heap.size) Zm (o.Z4.map Sc.da) A0)(hT:ZV w (· < w.heap.size) Zv (o.Z7.map Tb.da) A1)(ho:o.Zs 1099511627776):
  Calls Tryz.prog 48 #[.agg #[.slice A0 o.Z4.length k0,.slice A1 o.Z7.length k1]] w fun e w'=>e= .returned (.int .i64 (RV o))∧Below w.heap.size w w':=by
 have HS:=hid hS;have HT:=hid hT;have HO:=hid ho;have hsl:=ho.1;have htl:=ho.2.1;clear hS hT ho;have HR:Hid (YR o=(decide (o.Z4.length≤8) && decide (o.Z7.length≤64) && Zn Xn o.Z7 && Zn WM o.Z4 && o.Z4.all (Rs o) && o.Z7.all (YS o))):=hid rfl;have HE0:Hid (RV o=if YR o=true then 0 else 63):=hid rfl;generalize RV o=err at*;generalize YR o=res at*;have c1:=fun W h=>Of o.Z7 A1 k1 W h htl
 have c2:=fun W h=>Pk o.Z4 A0 k0 W h hsl
 generalize Zn Xn o.Z7=p3 at*;generalize Zn WM o.Z4=p4 at*;have HF:Hid (∃ b,b=(decide (o.Z4.length≤8) && decide (o.Z7.length≤64) && p3 && p4)):=hid ⟨_,rfl⟩;go_enter Tryz.func48,Tryz.ntmps48
 go_upto_region 1 with fail
 refine VP _ fun W0 hW=> ?_
 have HB0:=bP hW;have X0:=nC hW;clear hW;have a0:=ce X0 0;have a1:=ce X0 1;go_cut [3] (fun v W=> ∃ b,v= .bool b∧Hid (b=(decide (o.Z4.length≤8) && decide (o.Z7.length≤64) && p3))∧Hid (Below w.heap.size w W)∧Hid (ZP W w.heap.size 26 [.slice A0 o.Z4.length k0,.slice A1 o.Z7.length k1]))
 case first=>
  by_cases h1:o.Z4.length≤8
  ·have h1':(o.Z4.length:Int)≤8:=by omega
   by_cases h2:o.Z7.length≤64
   ·have h2':(o.Z7.length:Int)≤64:=by omega
    go_wp2_with fail;refine(c1 W0 (HT.out.later HB0.out)).mono ?_
    rintro e W1 ⟨rfl,hb⟩;have HB1:=bt HB0 hb;have X1:=bl X0 hb;clear hb;go_wp2;go_meet
    case rel=>exact⟨p3,rfl,hid (by simp [h1,h2]),HB1,X1⟩
   ·have h2': ¬ (o.Z7.length:Int)≤64:=by omega
    go_wp2;go_meet
    case rel=>exact⟨false,rfl,hid (by simp [h2]),HB0,X0⟩
  ·have h1': ¬ (o.Z4.length:Int)≤8:=by omega
   go_wp2;go_meet
   case rel=>exact⟨false,rfl,hid (by simp [h1]),HB0,X0⟩
 case rest=>
 clear a0 a1 HB0 X0;obtain⟨b,rfl,HB,HB0,X0⟩:=hcut;go_upto_region 2 with fail
 have a0:=ce X0 0;go_cut [3] (fun v W=> ∃ b,v= .bool b∧Hid (b=(decide (o.Z4.length≤8) && decide (o.Z7.length≤64) && p3 && p4))∧Hid (Below w.heap.size w W)∧Hid (ZP W w.heap.size 26 [.slice A0 o.Z4.length k0,.slice A1 o.Z7.length k1]))
 case first=>
  cases b
  ·go_wp2;go_meet
   case rel=>exact⟨false,rfl,hid (by rw [←HB.out];rfl),HB0,X0⟩
  ·go_wp2_with fail;refine(c2 wc (HS.out.later HB0.out)).mono ?_
   rintro e W1 ⟨rfl,hb⟩;have HB1:=bt HB0 hb;have X1:=bl X0 hb;clear hb;go_wp2;go_meet
   case rel=>exact⟨p4,rfl,hid (by rw [←HB.out];rfl),HB1,X1⟩
 case rest=>
 clear a0 HB0 X0 HB c1 c2;obtain⟨b,rfl,HB,HB0,X0⟩:=hcut;have HR1:Hid (res=(b && o.Z4.all (Rs o) && o.Z7.all (YS o))):=hid (by rw [HR.out,HB.out]);clear HR HB HF;go_wp2;go_loopw [3,4] (fun v i wr=> ∃ (b:Bool) (j:Nat),j≤o.Z4.length∧v= .bool b∧i= .int .i64 j∧Hid (res=(b && (o.Z4.drop j).all (Rs o) && o.Z7.all (YS o)))∧Hid (Below w.heap.size w wr)∧Hid (ZP wr w.heap.size 26 [.slice A0 o.Z4.length k0,.slice A1 o.Z7.length k1])) (fun _ i _=>o.Z4.length - (intOf i).toNat)
 case atStart=>exact⟨b,0,Nat.zero_le _,rfl,rfl,hid (by rw [List.drop_zero];exact HR1.out),HB0,X0⟩
 case round=>
  clear HB0 X0 HR1;obtain⟨b,j,hj,rfl,rfl,HR1,HBw,HX⟩:=hrel
  cases b
  ·have HR2:Hid (res=(false && o.Z7.all (YS o))):=hid (by rw [HR1.out];rfl);clear HR1;go_wp2;go_loopw [3,6] (fun v i wr=> ∃ (b:Bool) (j:Nat),j≤o.Z7.length∧v= .bool b∧i= .int .i64 j∧Hid (res=(b && (o.Z7.drop j).all (YS o)))∧Hid (Below w.heap.size w wr)∧Hid (ZP wr w.heap.size 26 [.slice A0 o.Z4.length k0,.slice A1 o.Z7.length k1])) (fun _ i _=>o.Z7.length - (intOf i).toNat)
   case atStart=>exact⟨false,0,Nat.zero_le _,rfl,rfl,hid (by rw [List.drop_zero];exact HR2.out),HBw,HX⟩
   case round=>
    clear HBw HX HR2;obtain⟨b,j,hj,rfl,rfl,HR3,HBw,HX⟩:=hrel
    cases b
    ·obtain rfl:res=false:=HR3.out;obtain rfl:err=63:=HE0.out;go_wp2;go_ret;exact⟨rfl,HBw.out⟩
    by_cases hlt:j<o.Z7.length
    ·have HQ:Hid (res=(YS o o.Z7[j] && (o.Z7.drop (j+1)).all (YS o))):=hid (by rw [HR3.out,Bool.true_and,Wb (YS o) o.Z7 j hlt]);have hta:=HO.out.2.2 o.Z7[j] (List.getElem_mem hlt);obtain⟨ad,vs,e1,hv,hr⟩:=(HT.out.later HBw.out).at_ (j:=j) (by simpa using hlt);rw [List.getElem_map] at hv;generalize o.Z7[j]=t at*;obtain⟨X,x,Y,y,rfl,hX,hY⟩:=Tb.Y4 hv;have HXr:=hid hX;have HYr:=hid hY;have HTa:=hid hta;have HT':=HT;subst e1;have f0:=e0 (m:=j*5) hr;have f1:=ef (m:=j*5) hr 1;have f2:=ef (m:=j*5) hr 2;have f3:=ef (m:=j*5) hr 3;have f4:=ef (m:=j*5) hr 4;clear hv hr hX hY hta;have a0:=ce HX 0;have a1:=ce HX 1;have hb1:(j:Int)< (o.Z7.length:Int):=by omega
     have hz:=World.block_lt_of_cell? wr _ f0;have hlx:=HX.out.lt;have hW0:Below wr.heap.size wr wr.drew:=Below.drew br;have hkeep:Hid (∀ w1 w2,(fun w'=>Below wr.heap.size wr w'∧w'.cell? ⟨w.heap.size,0,none⟩=some (.slice A0 o.Z4.length k0)∧w'.cell? ⟨w.heap.size,1,none⟩=some (.slice (some ad) o.Z7.length k1)∧w'.cell? (ad.add (j*5))=some (.string (Z9 t.Z8))∧w'.cell? ⟨(ad.add (j*5)).block,(ad.add (j*5)).off+1,none⟩=some (.string (Z9 t.name))∧w'.cell? ⟨(ad.add (j*5)).block,(ad.add (j*5)).off+2,none⟩=some (.string (Z9 t.ZN))∧w'.cell? ⟨(ad.add (j*5)).block,(ad.add (j*5)).off+3,none⟩=some (.slice X t.ZY.length x)∧w'.cell? ⟨(ad.add (j*5)).block,(ad.add (j*5)).off+4,none⟩=some (.slice Y t.ZT.length y)) w1→Below w1.heap.size w1 w2→(fun w'=>Below wr.heap.size wr w'∧w'.cell? ⟨w.heap.size,0,none⟩=some (.slice A0 o.Z4.length k0)∧w'.cell? ⟨w.heap.size,1,none⟩=some (.slice (some ad) o.Z7.length k1)∧w'.cell? (ad.add (j*5))=some (.string (Z9 t.Z8))∧w'.cell? ⟨(ad.add (j*5)).block,(ad.add (j*5)).off+1,none⟩=some (.string (Z9 t.name))∧w'.cell? ⟨(ad.add (j*5)).block,(ad.add (j*5)).off+2,none⟩=some (.string (Z9 t.ZN))∧w'.cell? ⟨(ad.add (j*5)).block,(ad.add (j*5)).off+3,none⟩=some (.slice X t.ZY.length x)∧w'.cell? ⟨(ad.add (j*5)).block,(ad.add (j*5)).off+4,none⟩=some (.slice Y t.ZT.length y)) w2):=hid (by
      intro w1 w2 ⟨h1,_⟩ h2;have h3:Below wr.heap.size wr w2:=h1.trans (h2.mono h1.size);exact⟨h3,ct a0 h3 hlx,ct a1 h3 hlx,(h3.cell (p:=(ad.add (j*5))) hz).trans f0,ct f1 h3 hz,ct f2 h3 hz,ct f3 h3 hz,ct f4 h3 hz⟩)
     have hrt:Hid (∀ W,Below wr.heap.size wr W→Calls Tryz.prog 109 #[.agg #[.slice A0 o.Z4.length k0,.slice (some ad) o.Z7.length k1],.agg (t.cs X x Y y).toArray] W fun e w'=>e= .returned (.bool (YS o t))∧Below W.heap.size W w'):=hid fun W h=>
      Qe o A0 k0 (some ad) k1 t X x Y y W (HS.out.later (HBw.out.trans (h.mono HBw.out.size))) (HT.out.later (HBw.out.trans (h.mono HBw.out.size))) (HXr.out.later h) (HYr.out.later h) HO.out HTa.out
     unfold Tb.cs at hrt;generalize YS o t=q at*;go_wp2_with fail;go_region_held_law (fun w'=>Below wr.heap.size wr w'∧w'.cell? ⟨w.heap.size,0,none⟩=some (.slice A0 o.Z4.length k0)∧w'.cell? ⟨w.heap.size,1,none⟩=some (.slice (some ad) o.Z7.length k1)∧w'.cell? (ad.add (j*5))=some (.string (Z9 t.Z8))∧w'.cell? ⟨(ad.add (j*5)).block,(ad.add (j*5)).off+1,none⟩=some (.string (Z9 t.name))∧w'.cell? ⟨(ad.add (j*5)).block,(ad.add (j*5)).off+2,none⟩=some (.string (Z9 t.ZN))∧w'.cell? ⟨(ad.add (j*5)).block,(ad.add (j*5)).off+3,none⟩=some (.slice X t.ZY.length x)∧w'.cell? ⟨(ad.add (j*5)).block,(ad.add (j*5)).off+4,none⟩=some (.slice Y t.ZT.length y))
      (first | exact hkeep.out _ _ (by assumption) (by assumption) | exact⟨hW0,a0,a1,f0,f1,f2,f3,f4⟩)
      (first | (go_at_call 109;refine(hrt.out _ (by first | exact hW0 | assumption)).mono ?_;rintro e w' ⟨rfl,hb⟩))
     rename_i hS;have HB2:=bt HBw hS.1;have HX2:=bl HX hS.1;clear hS;go_wp2;go_roundw
     case rel=>exact⟨q,j+1,by omega,rfl,by go_num,HQ,HB2,HX2⟩
     case measure=>simp [intOf];omega
    ·obtain rfl:j=o.Z7.length:=by omega
     rw [List.drop_length] at HR3;obtain rfl:res=true:=HR3.out;obtain rfl:err=0:=HE0.out;have a1:=ce HX 1;go_wp2;go_ret;exact⟨rfl,HBw.out⟩
  by_cases hlt:j<o.Z4.length
  ·have a0:=ce HX 0;have HQ:Hid (res=(Rs o o.Z4[j] && (o.Z4.drop (j+1)).all (Rs o) && o.Z7.all (YS o))):=hid (by rw [HR1.out,Bool.true_and,Wb (Rs o) o.Z4 j hlt]);obtain⟨ad,vs,rfl,hv,hr⟩:=(HS.out.later HBw.out).at_ (j:=j) (by simpa using hlt);rw [List.getElem_map] at hv;generalize o.Z4[j]=sc at*;obtain rfl:=Sc.Y4 hv;have f0:=e0 (m:=j*2) hr;have f1:=ef (m:=j*2) hr 1;clear hv hr HR1;have hb1:(j:Int)< (o.Z4.length:Int):=by omega
   have HSc:Hid (Rs o sc=(Zq sc.name && Zq sc.ZN && decide (XC o sc.name≤8))):=hid rfl;generalize Rs o sc=q at*;go_wp2_with fail;refine Zj _ fun W1 hW=> ?_
   have HB1:=rL hW (HBw.out.alloc HBw.out.size _);have HX1:=rB hW (HX.out.alloc _);have HY1:=nC hW;clear hW HX HBw a0 f0 f1;refine(YK sc.name W1).mono ?_
   rintro e W2 ⟨rfl,m1,rfl⟩;have HB2:=hid (below_drewN HB1.out m1);have HX2:=hid (HX1.out.drewN m1);have HY2:=hid (HY1.out.drewN m1);clear HB1 HX1 HY1;generalize W1.drewN m1=W2 at*;generalize Zq sc.name=n1 at*
   cases n1
   ·have HR':Hid (res=(false && (o.Z4.drop (j+1)).all (Rs o) && o.Z7.all (YS o))):=hid (by rw [HQ.out,HSc.out];rfl);go_wp2;go_roundw
    case rel=>exact⟨false,j+1,by omega,rfl,by go_num,HR',HB2,HX2⟩
    case measure=>simp [intOf];omega
   have b1:=ce HY2 1;go_wp2_with fail;refine(YK sc.ZN W2).mono ?_
   rintro e W3 ⟨rfl,m2,rfl⟩;have HB3:=hid (below_drewN HB2.out m2);have HX3:=hid (HX2.out.drewN m2);have HY3:=hid (HY2.out.drewN m2);clear HB2 HX2 HY2 b1;generalize W2.drewN m2=W3 at*;generalize Zq sc.ZN=n2 at*
   cases n2
   ·have HR':Hid (res=(false && (o.Z4.drop (j+1)).all (Rs o) && o.Z7.all (YS o))):=hid (by rw [HQ.out,HSc.out];rfl);go_wp2;go_roundw
    case rel=>exact⟨false,j+1,by omega,rfl,by go_num,HR',HB3,HX3⟩
    case measure=>simp [intOf];omega
   have b0:=ce HY3 0;have a0:=ce HX3 0;have a1:=ce HX3 1;go_wp2_with fail;have cW:=TY (o.Z4.map Sc.da) (o.Z7.map Tb.da) (some ad) k0 A1 k1 sc.name W3 (HT.out.later HB3.out) (by simpa using htl);rw [List.length_map,List.length_map,Rg] at cW;refine cW.mono ?_
   rintro e W4 ⟨rfl,hb⟩;have HB4:=bt HB3 hb;have HX4:=bl HX3 hb;clear hb cW HB3 HX3 HY3 b0 a0 a1;generalize XC o sc.name=nn at*;have hdec:decide (nn≤8)=decide ((nn:Int)≤8):=decide_eq_decide.2 (by omega);have HR':Hid (res=(decide ((nn:Int)≤8) && (o.Z4.drop (j+1)).all (Rs o) && o.Z7.all (YS o))):=hid (by rw [HQ.out,HSc.out,hdec];rfl)
   clear hdec;go_wp2;go_roundw
   case rel=>exact⟨decide ((nn:Int)≤8),j+1,by omega,rfl,by go_num,HR',HB4,HX4⟩
   case measure=>simp [intOf];omega
  ·have a0:=ce HX 0;have HR2:Hid (res=(true && o.Z7.all (YS o))):=hid (by
    rw [HR1.out,List.drop_eq_nil_of_le (by omega)];rfl)
   clear HR1;go_wp2;go_loopw [3,6] (fun v i wr=> ∃ (b:Bool) (j:Nat),j≤o.Z7.length∧v= .bool b∧i= .int .i64 j∧Hid (res=(b && (o.Z7.drop j).all (YS o)))∧Hid (Below w.heap.size w wr)∧Hid (ZP wr w.heap.size 26 [.slice A0 o.Z4.length k0,.slice A1 o.Z7.length k1])) (fun _ i _=>o.Z7.length - (intOf i).toNat)
   case atStart=>exact⟨true,0,Nat.zero_le _,rfl,rfl,hid (by rw [List.drop_zero];exact HR2.out),HBw,HX⟩
   case round=>
    clear HBw HX HR2;obtain⟨b,j,hj,rfl,rfl,HR3,HBw,HX⟩:=hrel
    cases b
    ·obtain rfl:res=false:=HR3.out;obtain rfl:err=63:=HE0.out;go_wp2;go_ret;exact⟨rfl,HBw.out⟩
    by_cases hlt:j<o.Z7.length
    ·have HQ:Hid (res=(YS o o.Z7[j] && (o.Z7.drop (j+1)).all (YS o))):=hid (by rw [HR3.out,Bool.true_and,Wb (YS o) o.Z7 j hlt]);have hta:=HO.out.2.2 o.Z7[j] (List.getElem_mem hlt);obtain⟨ad,vs,e1,hv,hr⟩:=(HT.out.later HBw.out).at_ (j:=j) (by simpa using hlt);rw [List.getElem_map] at hv;generalize o.Z7[j]=t at*;obtain⟨X,x,Y,y,rfl,hX,hY⟩:=Tb.Y4 hv;have HXr:=hid hX;have HYr:=hid hY;have HTa:=hid hta;have HT':=HT;subst e1;have f0:=e0 (m:=j*5) hr;have f1:=ef (m:=j*5) hr 1;have f2:=ef (m:=j*5) hr 2;have f3:=ef (m:=j*5) hr 3;have f4:=ef (m:=j*5) hr 4;clear hv hr hX hY hta;have a0:=ce HX 0;have a1:=ce HX 1;have hb1:(j:Int)< (o.Z7.length:Int):=by omega
     have hz:=World.block_lt_of_cell? wr _ f0;have hlx:=HX.out.lt;have hW0:Below wr.heap.size wr wr.drew:=Below.drew br;have hkeep:Hid (∀ w1 w2,(fun w'=>Below wr.heap.size wr w'∧w'.cell? ⟨w.heap.size,0,none⟩=some (.slice A0 o.Z4.length k0)∧w'.cell? ⟨w.heap.size,1,none⟩=some (.slice (some ad) o.Z7.length k1)∧w'.cell? (ad.add (j*5))=some (.string (Z9 t.Z8))∧w'.cell? ⟨(ad.add (j*5)).block,(ad.add (j*5)).off+1,none⟩=some (.string (Z9 t.name))∧w'.cell? ⟨(ad.add (j*5)).block,(ad.add (j*5)).off+2,none⟩=some (.string (Z9 t.ZN))∧w'.cell? ⟨(ad.add (j*5)).block,(ad.add (j*5)).off+3,none⟩=some (.slice X t.ZY.length x)∧w'.cell? ⟨(ad.add (j*5)).block,(ad.add (j*5)).off+4,none⟩=some (.slice Y t.ZT.length y)) w1→Below w1.heap.size w1 w2→(fun w'=>Below wr.heap.size wr w'∧w'.cell? ⟨w.heap.size,0,none⟩=some (.slice A0 o.Z4.length k0)∧w'.cell? ⟨w.heap.size,1,none⟩=some (.slice (some ad) o.Z7.length k1)∧w'.cell? (ad.add (j*5))=some (.string (Z9 t.Z8))∧w'.cell? ⟨(ad.add (j*5)).block,(ad.add (j*5)).off+1,none⟩=some (.string (Z9 t.name))∧w'.cell? ⟨(ad.add (j*5)).block,(ad.add (j*5)).off+2,none⟩=some (.string (Z9 t.ZN))∧w'.cell? ⟨(ad.add (j*5)).block,(ad.add (j*5)).off+3,none⟩=some (.slice X t.ZY.length x)∧w'.cell? ⟨(ad.add (j*5)).block,(ad.add (j*5)).off+4,none⟩=some (.slice Y t.ZT.length y)) w2):=hid (by
      intro w1 w2 ⟨h1,_⟩ h2;have h3:Below wr.heap.size wr w2:=h1.trans (h2.mono h1.size);exact⟨h3,ct a0 h3 hlx,ct a1 h3 hlx,(h3.cell (p:=(ad.add (j*5))) hz).trans f0,ct f1 h3 hz,ct f2 h3 hz,ct f3 h3 hz,ct f4 h3 hz⟩)
     have hrt:Hid (∀ W,Below wr.heap.size wr W→Calls Tryz.prog 109 #[.agg #[.slice A0 o.Z4.length k0,.slice (some ad) o.Z7.length k1],.agg (t.cs X x Y y).toArray] W fun e w'=>e= .returned (.bool (YS o t))∧Below W.heap.size W w'):=hid fun W h=>
      Qe o A0 k0 (some ad) k1 t X x Y y W (HS.out.later (HBw.out.trans (h.mono HBw.out.size))) (HT.out.later (HBw.out.trans (h.mono HBw.out.size))) (HXr.out.later h) (HYr.out.later h) HO.out HTa.out
     unfold Tb.cs at hrt;generalize YS o t=q at*;go_wp2_with fail;go_region_held_law (fun w'=>Below wr.heap.size wr w'∧w'.cell? ⟨w.heap.size,0,none⟩=some (.slice A0 o.Z4.length k0)∧w'.cell? ⟨w.heap.size,1,none⟩=some (.slice (some ad) o.Z7.length k1)∧w'.cell? (ad.add (j*5))=some (.string (Z9 t.Z8))∧w'.cell? ⟨(ad.add (j*5)).block,(ad.add (j*5)).off+1,none⟩=some (.string (Z9 t.name))∧w'.cell? ⟨(ad.add (j*5)).block,(ad.add (j*5)).off+2,none⟩=some (.string (Z9 t.ZN))∧w'.cell? ⟨(ad.add (j*5)).block,(ad.add (j*5)).off+3,none⟩=some (.slice X t.ZY.length x)∧w'.cell? ⟨(ad.add (j*5)).block,(ad.add (j*5)).off+4,none⟩=some (.slice Y t.ZT.length y))
      (first | exact hkeep.out _ _ (by assumption) (by assumption) | exact⟨hW0,a0,a1,f0,f1,f2,f3,f4⟩)
      (first | (go_at_call 109;refine(hrt.out _ (by first | exact hW0 | assumption)).mono ?_;rintro e w' ⟨rfl,hb⟩))
     rename_i hS;have HB2:=bt HBw hS.1;have HX2:=bl HX hS.1;clear hS;go_wp2;go_roundw
     case rel=>exact⟨q,j+1,by omega,rfl,by go_num,HQ,HB2,HX2⟩
     case measure=>simp [intOf];omega
    ·obtain rfl:j=o.Z7.length:=by omega
     rw [List.drop_length] at HR3;obtain rfl:res=true:=HR3.out;obtain rfl:err=0:=HE0.out;have a1:=ce HX 1;go_wp2;go_ret;exact⟨rfl,HBw.out⟩
end Go.Proofs.YtnhmoibjlakhjaaGreat
namespace Go.Proofs.YtnhmoibjlakhjaaGreat
set_option maxRecDepth 100000
set_option maxHeartbeats 16000000
open Go.RowKit
section
variable {α β : Type} {enc : α → List Value} {k : Nat}
theorem Zp (hk: ∀ x,(enc x).length=k): ∀ l:List α,(l.flatMap enc).length=l.length*k
 | []=>by simp
 | a ::l=>by
  rw [List.flatMap_cons,List.length_append,hk,Zp hk l,List.length_cons,Nat.add_mul,Nat.one_mul];omega
theorem Zi (hk: ∀ x,(enc x).length=k): ∀ (l:List α)(j i:Nat)(hj:j<l.length)(hi:i<k),(l.flatMap enc)[j*k+i]?=(enc l[j])[i]?
 | [],j,i,hj,hi=>absurd hj (by simp)
 | a ::l,0,i,hj,hi=>by
  rw [List.flatMap_cons,Nat.zero_mul,Nat.zero_add,List.getElem?_append_left (by rw [hk];exact hi)];rfl
 | a ::l,j+1,i,hj,hi=>by
  have h:=Zi hk l j i (by simpa using hj) hi;rw [List.flatMap_cons,List.getElem?_append_right (by rw [hk,Nat.add_mul,Nat.one_mul];omega),hk,List.getElem_cons_succ,←h]
  congr 1
  rw [Nat.add_mul,Nat.one_mul];omega
theorem Lq (hk: ∀ x,(enc x).length=k)(l:List α)(i:Nat)(u:Value)(h:(l.flatMap enc)[i]?=some u): ∃ j i',∃ hj:j<l.length,i'<k∧i=j*k+i'∧(enc l[j])[i']?=some u:=by
 have hl:i<l.length*k:=by
  rw [←Zp hk];exact(List.getElem?_eq_some_iff.1 h).1
 have hk0:0<k:=by
  rcases Nat.eq_zero_or_pos k with h0 | h0
  ·subst h0;simp at hl
  ·exact h0
 have hj:i / k<l.length:=Nat.div_lt_of_lt_mul (by rwa [Nat.mul_comm]);have hi:=Nat.mod_lt i hk0;have he:i=i / k*k+i % k:=by rw [Nat.mul_comm];exact(Nat.div_add_mod i k).symm
 refine⟨i / k,i % k,hj,hi,he,?_⟩
 rw [←Zi hk l _ _ hj hi,←he];exact h
theorem Yn (h1: ∀ x,∀ v∈enc x,v.oneCell'=true)(l:List α): ∀ v∈l.flatMap enc,v.oneCell'=true:=by
 intro v hv;obtain⟨a,_,hv⟩:=List.mem_flatMap.1 hv;exact h1 a v hv
def Zg (w:World)(B:Nat)(A:Option Addr)(enc:α→List Value)(l:List α):Prop:=
 0<l.length→ ∃ ad,A=some ad∧ad.block<B∧ ∀ (i:Nat) (u:Value),(l.flatMap enc)[i]?=some u→w.cell? (ad.add i)=some u
theorem Zg.below {w w':World}{B:Nat}{A:Option Addr}{l:List α}(h:Zg w B A enc l)(hb:Below B w w'):Zg w' B A enc l:=fun hn=>by
 obtain⟨ad,e,hB,h⟩:=h hn;exact⟨ad,e,hB,fun i u hu=>(hb.cell (by rw [Zz];exact hB)).trans (h i u hu)⟩
theorem Zg.later {w w':World}{A:Option Addr}{l:List α}(h:Zg w w.heap.size A enc l)(hb:Below w.heap.size w w'):Zg w' w'.heap.size A enc l:=fun hn=>by
 obtain⟨ad,e,hB,h⟩:=h.below hb hn;exact⟨ad,e,Nat.lt_of_lt_of_le hB hb.size,h⟩
theorem Qh {P:Nat→α→Prop} : ∀ (n:Nat),(∀ j,j<n→ ∃ a,P j a)→ ∃ l:List α,l.length=n∧ ∀ (j:Nat)(h:j<l.length),P j l[j]
 | 0,_=>⟨[],rfl,fun j h=>absurd h (by simp)⟩
 | n+1,h=>by
  obtain⟨l,hl,hP⟩:=Qh n fun j hj=>h j (by omega)
  obtain⟨a,ha⟩:=h n (by omega);refine⟨l ++ [a],by simp [hl],fun j hj=> ?_⟩
  by_cases hlt:j<l.length
  ·rw [List.getElem_append_left hlt];exact hP j hlt
  ·have hje:j=l.length:=by simp at hj;omega
   subst hje;rw [List.getElem_append_right lr];simp only [Nat.sub_self,List.getElem_cons_zero];rw [hl];exact ha
theorem WN {w:World}{B:Nat}{sh:List Sh}{A:Option Addr}(da:β→List Da)(prj:α→β)(good:α→Prop)(hpick: ∀ x vs,ZG w (· < B) sh (da x) vs→ ∃ a,prj a=x∧vs=enc a∧good a)
  (hk: ∀ x,(enc x).length=sh.length) {l0:List β} (h:ZV w (· < B) sh (l0.map da) A): ∃ l:List α,l.map prj=l0∧Zg w B A enc l∧ ∀ a∈l,good a:=by
 rcases Nat.eq_zero_or_pos l0.length with h0 | h0
 ·obtain rfl:=List.eq_nil_of_length_eq_zero h0;exact⟨[],rfl,fun hn=>absurd hn (by simp),fun a ha=>absurd ha (by simp)⟩
 obtain⟨ad,rfl,hB,hc⟩:=h (by simpa using h0);obtain⟨l,hl,hP⟩:=Qh (P:=fun j a=> ∃ hj:j<l0.length,prj a=l0[j]∧good a∧ ∀ (i:Nat) (u:Value),(enc a)[i]?=some u→w.cell? (ad.add (j*sh.length+i))=some u) l0.length (by
  intro j hj;obtain⟨vs,h1,h2⟩:=hc j (da l0[j]) (by simp [hj]);obtain⟨a,ha,rfl,hg⟩:=hpick _ _ h1;exact⟨a,hj,ha,hg,h2⟩)
 refine⟨l,?_,fun _=>⟨ad,rfl,hB,fun i u hu=> ?_⟩,fun a ha=> ?_⟩
 ·apply List.ext_getElem
  ·simpa using hl
  ·intro j h1 h2;rw [List.getElem_map];obtain⟨_,h3,_⟩:=hP j (by simpa using h1);exact h3
 ·obtain⟨j,i',hj,hi',rfl,hu2⟩:=Lq hk l i u hu;obtain⟨_,_,_,h3⟩:=hP j hj;exact h3 i' u hu2
 ·obtain⟨j,hj,rfl⟩:=List.getElem_of_mem ha;obtain⟨_,_,h3,_⟩:=hP j hj;exact h3
theorem Yw {w:World}{base c n:Nat}{T:TypeId}{sh:List Sh}{A:Option Addr}{S:Nat→Prop}(da:β→List Da)(prj:α→β)(hk: ∀ x,(enc x).length=sh.length){l:List α}(h:w.ownsRow base T sh.length (.slice A n c) n (l.flatMap enc))(hn:n=l.length)
  (hc: ∀ a∈l,ZG w S sh (da (prj a)) (enc a)):ZV w (fun g=>S g∨Nw w base [T] g) sh ((l.map prj).map da) A:=by
 intro h0;have h0':0<l.length:=by simpa using h0
 obtain⟨g,cap,hv,_,hlt⟩:=h.form (by omega);have hA:A=some ⟨g,0,none⟩:=by injection hv
 subst hA;refine⟨_,rfl,Or.inr ?_,fun j d hd=> ?_⟩
 ·rcases h.2 with ⟨h1,_⟩ | ⟨g',cap',cur,hv',hg',hh,_⟩
  ·omega
  ·injection hv' with hv'
   injection hv' with hv'
   injection hv' with hv'
   subst hv';exact⟨hg',T,by simp,cur,hh⟩
 ·rw [List.getElem?_map,List.getElem?_map] at hd
  cases hj:l[j]? with
  | none=>rw [hj] at hd;simp at hd
  | some a=>
   rw [hj] at hd;simp only [Option.map_some,Option.some.injEq] at hd;subst hd;obtain⟨hj1,rfl⟩:=List.getElem?_eq_some_iff.1 hj
   refine⟨enc l[j],ZG.Y6 (fun _ h=>Or.inl h) (fun _ _=>rfl) _ _ _ (hc _ (List.getElem_mem hj1)),fun i u hu=> ?_⟩
   have hi:i<sh.length:=by rw [←hk l[j]];exact(List.getElem?_eq_some_iff.1 hu).1
   exact h.cells (g:=g) rfl _ u (by rw [Zi hk l j i hj1 hi];exact hu)
theorem Xz {w:World}{base c n:Nat}{T:TypeId}{A:Option Addr}{l:List α}(h:w.ownsRow base T k (.slice A n c) n (l.flatMap enc))(hn:n=l.length):Zg w w.heap.size A enc l:=by
 intro h0;obtain⟨g,cap,hv,_,hlt⟩:=h.form (by omega);have hA:A=some ⟨g,0,none⟩:=by injection hv
 subst hA;exact⟨_,rfl,hlt,fun i u hu=>h.cells (g:=g) rfl _ u hu⟩
end
theorem YZ {P:Program}{w:World}{ops:Array Oper}{rest:List Oper}{o:Oper}{a:Act}{Q:Exit→Act→World→Prop}(hgd:o.guard=none)(s x:Operand)(t:TypeId)
  (ho:o.op= .call { callee:= .builtin .append,args:= #[s,x],argTypes:= #[t,t]})
  (base:Nat) (e:TypeId) (i:TypeInfo) (z:Value) (size bytes:Nat) (ht:P.underlying t=some (.slice e)) (hi:P.info? e=some i) (hz:i.zero=some z)
  (hsize:i.size=size) (hby:i.bytes=bytes) (hzs:z.cells.size=size) (hsz:0<size)
  (v:Value) (n:Nat) (xs:List Value) (hs:a.eval s=v) (hown:w.ownsRow base e size v n xs)
  (ad:Addr) (m c:Nat) (news:List Value) (hx:a.eval x= .slice (some ad) m c) (hl:news.length=m*size) (hnews: ∀ j u,news[j]?=some u→w.cell? (ad.add j)=some u) (h1: ∀ u∈news,u.oneCell'=true)
  (h63:n+m≤maxLen) (hbytes:(n+m)*bytes≤140737488355328) (hbase:base≤w.heap.size)
  (h: ∀ A' c' w',Hid (w'.ownsRow base e size (.slice A' (n+m) c') (n+m) (xs ++news))→Hid (w.grownBy w' v.ownBlock)→wpList P ops Q rest (a.put o.dst (.slice A' (n+m) c')) w'):wpList P ops Q (o ::rest) a w:=by
 refine wpList_plain hgd fun K hK=> ?_
 obtain⟨v',w',hrun,h2,h3,_⟩:=run_append_own (P:=P) w base t o.type e i z size bytes ht hi hz hsize hby hzs hsz v n xs hown ad m c news hl hnews h1 h63 hbytes hbase;unfold Oper.wp execOp;simp only [ho,resolve,invoke,builtin,Sem.run_bind,Sem.run_pure,Result.andThen_ok,List.map_toArray,List.map_cons,List.map_nil,hs,hx,hrun];obtain⟨A',c',rfl⟩:=WP h2;exact hK _ _ (h A' c' w' h2 h3)
end Go.Proofs.YtnhmoibjlakhjaaGreat
namespace Go.Proofs.YtnhmoibjlakhjaaGreat
open Lib (hid)
set_option maxRecDepth 100000
set_option maxHeartbeats 16000000
open Go.RowKit
abbrev Yx:=Ru×Option Addr×Nat
def Yx.cs (r:Yx):List Value:=r.1.cs r.2.1 r.2.2
abbrev Za:=Tb×Option Addr×Nat×Option Addr×Nat
def Za.cs (t:Za):List Value:=t.1.cs t.2.1 t.2.2.1 t.2.2.2.1 t.2.2.2.2
def YT (b:List UInt8):List Value:= [.string (Z9 b)]
theorem Sc.k (x:Sc):(Sc.cs x).length=2:=rfl
theorem Cl.k (x:Cl):(Cl.cs x).length=3:=rfl
theorem Yx.k (x:Yx):(Yx.cs x).length=8:=rfl
theorem Za.k (x:Za):(Za.cs x).length=5:=rfl
theorem Mb.k (x:Mb):(Mb.cs x).length=2:=rfl
theorem Gr.k (x:Gr):(Gr.cs x).length=6:=rfl
theorem YT.k (x:List UInt8):(YT x).length=1:=rfl
theorem Sc.one (x:Sc): ∀ v∈Sc.cs x,v.oneCell'=true:=by simp [Sc.cs,Value.oneCell']
theorem Cl.one (x:Cl): ∀ v∈Cl.cs x,v.oneCell'=true:=by simp [Cl.cs,Value.oneCell']
theorem Yx.one (x:Yx): ∀ v∈Yx.cs x,v.oneCell'=true:=by simp [Yx.cs,Ru.cs,Value.oneCell']
theorem Za.one (x:Za): ∀ v∈Za.cs x,v.oneCell'=true:=by simp [Za.cs,Tb.cs,Value.oneCell']
theorem Mb.one (x:Mb): ∀ v∈Mb.cs x,v.oneCell'=true:=by simp [Mb.cs,Value.oneCell']
theorem Gr.one (x:Gr): ∀ v∈Gr.cs x,v.oneCell'=true:=by simp [Gr.cs,Value.oneCell']
theorem YT.one (x:List UInt8): ∀ v∈YT x,v.oneCell'=true:=by simp [YT,Value.oneCell']
theorem Xu {α:Type}{w:World}{base:Nat}{T:TypeId}{k:Nat}(enc:α→List Value):w.ownsRow base T k (.slice none 0 0) ([]:List α).length (([]:List α).flatMap enc):=World.ownsRow_nil _ _ _ _
theorem VH:(Tryz.prog.info? 89).map (fun i=>(i.zero,i.size,i.bytes))=some (some (.agg #[.string ⟨#[]⟩,.string ⟨#[]⟩]),2,32):=by kernel_rfl
theorem Vf (A:Option Addr)(c:Nat)(l:List Sc)(w:World)(h:Zg w w.heap.size A Sc.cs l)(hl:l.length≤1099511627776):
  Calls Tryz.prog 74 #[.slice A l.length c] w fun e w'=> ∃ A' c',e= .returned (.slice A' l.length c')∧w'.ownsRow w.heap.size 89 2 (.slice A' l.length c') l.length (l.flatMap Sc.cs)∧Below w.heap.size w w':=by
 obtain⟨i0,hi0,hz0,hz1,hz2⟩:=info_parts VH;have HH:=hid h;clear h
 cases A with
 | none=>
  obtain rfl:l= []:=by
   rcases Nat.eq_zero_or_pos l.length with h0 | h0
   ·exact List.eq_nil_of_length_eq_zero h0
   ·obtain⟨ad,h1,_⟩:=HH.out h0
    cases h1
  have kn: ∀ w,(binOp .eql 23 (.slice none 0 c) (.slice none 0 0)).run Tryz.prog w= .ok (.bool true) w:=fun w=>Lib.run_eql_slice_nil w _ _ _ _ _ _ _ Tryz.underlying23
  go_enter Tryz.func74,Tryz.ntmps74
  go_wp2;go_ret;exact⟨none,0,rfl,Xu _,Below.refl _ _⟩
 | some ad=>
  have kn: ∀ w,(binOp .eql 23 (.slice (some ad) l.length c) (.slice none 0 0)).run Tryz.prog w= .ok (.bool false) w:=fun w=>Lib.run_eql_slice_nil w _ _ _ _ _ _ _ Tryz.underlying23
  have HR:Hid (∀ (i:Nat) (u:Value),(l.flatMap Sc.cs)[i]?=some u→(w.alloc (.cells #[] 89)).cell? (ad.add i)=some u):=hid (by
   intro i u hu;have h0:0<l.length:=by
    have:=(List.getElem?_eq_some_iff.1 hu).1;rw [Zp Sc.k] at this;rcases Nat.eq_zero_or_pos l.length with h0 | h0
    ·rw [h0] at this;omega
    ·exact h0
   obtain⟨ad',e,hB,h1⟩:=HH.out h0;injection e with e
   subst e;rw [World.cell?_alloc_lt w _ _ (by rw [Zz];exact hB)];exact h1 i u hu)
  have HF:=hid (Zp Sc.k l);have HO:=hid (Yn Sc.one l);clear HH;generalize l.flatMap Sc.cs=xs at*;generalize l.length=n at*;go_enter Tryz.func74,Tryz.ntmps74
  go_wp2_with (at_builtin;refine YZ rfl _ _ _ rfl w.heap.size 89 i0 _ 2 32 Tryz.underlying23 hi0 hz0 hz1 hz2 rfl (by decide) (.slice (some ⟨w.heap.size,0,none⟩) 0 0) 0 [] rfl (WQ w _ _ _ lr) ad n c xs rfl HF.out HR.out HO.out (by unfold maxLen;omega) (by omega) (by simp) ?_;intro A3 c3 w3 HO3 hg3);have HB3:Hid (Below w.heap.size w w3):=hid (Below.grown ((Below.refl w.heap.size w).alloc lr _) hg3.out (by simp) (fun k hk=>by simp [Value.ownBlock] at hk;omega))
  go_ret;refine⟨A3,c3,rfl,?_,HB3.out⟩
  have h:=HO3.out;rwa [Nat.zero_add,List.nil_append] at h
theorem VJ:(Tryz.prog.info? 119).map (fun i=>(i.zero,i.size,i.bytes))=some (some (.agg #[.string ⟨#[]⟩,.int .i64 0,.bool false]),3,32):=by kernel_rfl
theorem TN (A:Option Addr)(c:Nat)(l:List Cl)(w:World)(h:Zg w w.heap.size A Cl.cs l)(hl:l.length≤1099511627776):
  Calls Tryz.prog 75 #[.slice A l.length c] w fun e w'=> ∃ A' c',e= .returned (.slice A' l.length c')∧w'.ownsRow w.heap.size 119 3 (.slice A' l.length c') l.length (l.flatMap Cl.cs)∧Below w.heap.size w w':=by
 obtain⟨i0,hi0,hz0,hz1,hz2⟩:=info_parts VJ;have HH:=hid h;clear h
 cases A with
 | none=>
  obtain rfl:l= []:=by
   rcases Nat.eq_zero_or_pos l.length with h0 | h0
   ·exact List.eq_nil_of_length_eq_zero h0
   ·obtain⟨ad,h1,_⟩:=HH.out h0
    cases h1
  have kn: ∀ w,(binOp .eql 37 (.slice none 0 c) (.slice none 0 0)).run Tryz.prog w= .ok (.bool true) w:=fun w=>Lib.run_eql_slice_nil w _ _ _ _ _ _ _ Tryz.underlying37
  go_enter Tryz.func75,Tryz.ntmps75
  go_wp2;go_ret;exact⟨none,0,rfl,Xu _,Below.refl _ _⟩
 | some ad=>
  have kn: ∀ w,(binOp .eql 37 (.slice (some ad) l.length c) (.slice none 0 0)).run Tryz.prog w= .ok (.bool false) w:=fun w=>Lib.run_eql_slice_nil w _ _ _ _ _ _ _ Tryz.underlying37
  have HR:Hid (∀ (i:Nat) (u:Value),(l.flatMap Cl.cs)[i]?=some u→(w.alloc (.cells #[] 119)).cell? (ad.add i)=some u):=hid (by
   intro i u hu;have h0:0<l.length:=by
    have:=(List.getElem?_eq_some_iff.1 hu).1;rw [Zp Cl.k] at this;rcases Nat.eq_zero_or_pos l.length with h0 | h0
    ·rw [h0] at this;omega
    ·exact h0
   obtain⟨ad',e,hB,h1⟩:=HH.out h0;injection e with e
   subst e;rw [World.cell?_alloc_lt w _ _ (by rw [Zz];exact hB)];exact h1 i u hu)
  have HF:=hid (Zp Cl.k l);have HO:=hid (Yn Cl.one l);clear HH;generalize l.flatMap Cl.cs=xs at*;generalize l.length=n at*;go_enter Tryz.func75,Tryz.ntmps75
  go_wp2_with (at_builtin;refine YZ rfl _ _ _ rfl w.heap.size 119 i0 _ 3 32 Tryz.underlying37 hi0 hz0 hz1 hz2 rfl (by decide) (.slice (some ⟨w.heap.size,0,none⟩) 0 0) 0 [] rfl (WQ w _ _ _ lr) ad n c xs rfl HF.out HR.out HO.out (by unfold maxLen;omega) (by omega) (by simp) ?_;intro A3 c3 w3 HO3 hg3);have HB3:Hid (Below w.heap.size w w3):=hid (Below.grown ((Below.refl w.heap.size w).alloc lr _) hg3.out (by simp) (fun k hk=>by simp [Value.ownBlock] at hk;omega))
  go_ret;refine⟨A3,c3,rfl,?_,HB3.out⟩
  have h:=HO3.out;rwa [Nat.zero_add,List.nil_append] at h
theorem Vw:(Tryz.prog.info? 40).map (fun i=>(i.zero,i.size,i.bytes))=some (some (.agg #[.string ⟨#[]⟩,.int .i64 0,.slice none 0 0,.int .i64 0,.int .i64 0,.string ⟨#[]⟩,.string ⟨#[]⟩,.string ⟨#[]⟩]),8,112):=by kernel_rfl
theorem Sf (A:Option Addr)(c:Nat)(l:List Yx)(w:World)(h:Zg w w.heap.size A Yx.cs l)(hl:l.length≤1099511627776):
  Calls Tryz.prog 76 #[.slice A l.length c] w fun e w'=> ∃ A' c',e= .returned (.slice A' l.length c')∧w'.ownsRow w.heap.size 40 8 (.slice A' l.length c') l.length (l.flatMap Yx.cs)∧Below w.heap.size w w':=by
 obtain⟨i0,hi0,hz0,hz1,hz2⟩:=info_parts Vw;have HH:=hid h;clear h
 cases A with
 | none=>
  obtain rfl:l= []:=by
   rcases Nat.eq_zero_or_pos l.length with h0 | h0
   ·exact List.eq_nil_of_length_eq_zero h0
   ·obtain⟨ad,h1,_⟩:=HH.out h0
    cases h1
  have kn: ∀ w,(binOp .eql 71 (.slice none 0 c) (.slice none 0 0)).run Tryz.prog w= .ok (.bool true) w:=fun w=>Lib.run_eql_slice_nil w _ _ _ _ _ _ _ Tryz.underlying71
  go_enter Tryz.func76,Tryz.ntmps76
  go_wp2;go_ret;exact⟨none,0,rfl,Xu _,Below.refl _ _⟩
 | some ad=>
  have kn: ∀ w,(binOp .eql 71 (.slice (some ad) l.length c) (.slice none 0 0)).run Tryz.prog w= .ok (.bool false) w:=fun w=>Lib.run_eql_slice_nil w _ _ _ _ _ _ _ Tryz.underlying71
  have HR:Hid (∀ (i:Nat) (u:Value),(l.flatMap Yx.cs)[i]?=some u→(w.alloc (.cells #[] 40)).cell? (ad.add i)=some u):=hid (by
   intro i u hu;have h0:0<l.length:=by
    have:=(List.getElem?_eq_some_iff.1 hu).1;rw [Zp Yx.k] at this;rcases Nat.eq_zero_or_pos l.length with h0 | h0
    ·rw [h0] at this;omega
    ·exact h0
   obtain⟨ad',e,hB,h1⟩:=HH.out h0;injection e with e
   subst e;rw [World.cell?_alloc_lt w _ _ (by rw [Zz];exact hB)];exact h1 i u hu)
  have HF:=hid (Zp Yx.k l);have HO:=hid (Yn Yx.one l);clear HH;generalize l.flatMap Yx.cs=xs at*;generalize l.length=n at*;go_enter Tryz.func76,Tryz.ntmps76
  go_wp2_with (at_builtin;refine YZ rfl _ _ _ rfl w.heap.size 40 i0 _ 8 112 Tryz.underlying71 hi0 hz0 hz1 hz2 rfl (by decide) (.slice (some ⟨w.heap.size,0,none⟩) 0 0) 0 [] rfl (WQ w _ _ _ lr) ad n c xs rfl HF.out HR.out HO.out (by unfold maxLen;omega) (by omega) (by simp) ?_;intro A3 c3 w3 HO3 hg3);have HB3:Hid (Below w.heap.size w w3):=hid (Below.grown ((Below.refl w.heap.size w).alloc lr _) hg3.out (by simp) (fun k hk=>by simp [Value.ownBlock] at hk;omega))
  go_ret;refine⟨A3,c3,rfl,?_,HB3.out⟩
  have h:=HO3.out;rwa [Nat.zero_add,List.nil_append] at h
theorem WR:(Tryz.prog.info? 73).map (fun i=>(i.zero,i.size,i.bytes))=some (some (.agg #[.string ⟨#[]⟩,.string ⟨#[]⟩,.string ⟨#[]⟩,.slice none 0 0,.slice none 0 0]),5,96):=by kernel_rfl
theorem OR (A:Option Addr)(c:Nat)(l:List Za)(w:World)(h:Zg w w.heap.size A Za.cs l)(hl:l.length≤1099511627776):
  Calls Tryz.prog 251 #[.slice A l.length c] w fun e w'=> ∃ A' c',e= .returned (.slice A' l.length c')∧w'.ownsRow w.heap.size 73 5 (.slice A' l.length c') l.length (l.flatMap Za.cs)∧Below w.heap.size w w':=by
 obtain⟨i0,hi0,hz0,hz1,hz2⟩:=info_parts WR;have HH:=hid h;clear h
 cases A with
 | none=>
  obtain rfl:l= []:=by
   rcases Nat.eq_zero_or_pos l.length with h0 | h0
   ·exact List.eq_nil_of_length_eq_zero h0
   ·obtain⟨ad,h1,_⟩:=HH.out h0
    cases h1
  have kn: ∀ w,(binOp .eql 24 (.slice none 0 c) (.slice none 0 0)).run Tryz.prog w= .ok (.bool true) w:=fun w=>Lib.run_eql_slice_nil w _ _ _ _ _ _ _ Tryz.underlying24
  go_enter Tryz.func251,Tryz.ntmps251
  go_wp2;go_ret;exact⟨none,0,rfl,Xu _,Below.refl _ _⟩
 | some ad=>
  have kn: ∀ w,(binOp .eql 24 (.slice (some ad) l.length c) (.slice none 0 0)).run Tryz.prog w= .ok (.bool false) w:=fun w=>Lib.run_eql_slice_nil w _ _ _ _ _ _ _ Tryz.underlying24
  have HR:Hid (∀ (i:Nat) (u:Value),(l.flatMap Za.cs)[i]?=some u→(w.alloc (.cells #[] 73)).cell? (ad.add i)=some u):=hid (by
   intro i u hu;have h0:0<l.length:=by
    have:=(List.getElem?_eq_some_iff.1 hu).1;rw [Zp Za.k] at this;rcases Nat.eq_zero_or_pos l.length with h0 | h0
    ·rw [h0] at this;omega
    ·exact h0
   obtain⟨ad',e,hB,h1⟩:=HH.out h0;injection e with e
   subst e;rw [World.cell?_alloc_lt w _ _ (by rw [Zz];exact hB)];exact h1 i u hu)
  have HF:=hid (Zp Za.k l);have HO:=hid (Yn Za.one l);clear HH;generalize l.flatMap Za.cs=xs at*;generalize l.length=n at*;go_enter Tryz.func251,Tryz.ntmps251
  go_wp2_with (at_builtin;refine YZ rfl _ _ _ rfl w.heap.size 73 i0 _ 5 96 Tryz.underlying24 hi0 hz0 hz1 hz2 rfl (by decide) (.slice (some ⟨w.heap.size,0,none⟩) 0 0) 0 [] rfl (WQ w _ _ _ lr) ad n c xs rfl HF.out HR.out HO.out (by unfold maxLen;omega) (by omega) (by simp) ?_;intro A3 c3 w3 HO3 hg3);have HB3:Hid (Below w.heap.size w w3):=hid (Below.grown ((Below.refl w.heap.size w).alloc lr _) hg3.out (by simp) (fun k hk=>by simp [Value.ownBlock] at hk;omega))
  go_ret;refine⟨A3,c3,rfl,?_,HB3.out⟩
  have h:=HO3.out;rwa [Nat.zero_add,List.nil_append] at h
theorem VI:(Tryz.prog.info? 147).map (fun i=>(i.zero,i.size,i.bytes))=some (some (.agg #[.string ⟨#[]⟩,.string ⟨#[]⟩]),2,32):=by kernel_rfl
theorem Xx (A:Option Addr)(c:Nat)(l:List Mb)(w:World)(h:Zg w w.heap.size A Mb.cs l)(hl:l.length≤1099511627776):
  Calls Tryz.prog 78 #[.slice A l.length c] w fun e w'=> ∃ A' c',e= .returned (.slice A' l.length c')∧w'.ownsRow w.heap.size 147 2 (.slice A' l.length c') l.length (l.flatMap Mb.cs)∧Below w.heap.size w w':=by
 obtain⟨i0,hi0,hz0,hz1,hz2⟩:=info_parts VI;have HH:=hid h;clear h
 cases A with
 | none=>
  obtain rfl:l= []:=by
   rcases Nat.eq_zero_or_pos l.length with h0 | h0
   ·exact List.eq_nil_of_length_eq_zero h0
   ·obtain⟨ad,h1,_⟩:=HH.out h0
    cases h1
  have kn: ∀ w,(binOp .eql 28 (.slice none 0 c) (.slice none 0 0)).run Tryz.prog w= .ok (.bool true) w:=fun w=>Lib.run_eql_slice_nil w _ _ _ _ _ _ _ Tryz.underlying28
  go_enter Tryz.func78,Tryz.ntmps78
  go_wp2;go_ret;exact⟨none,0,rfl,Xu _,Below.refl _ _⟩
 | some ad=>
  have kn: ∀ w,(binOp .eql 28 (.slice (some ad) l.length c) (.slice none 0 0)).run Tryz.prog w= .ok (.bool false) w:=fun w=>Lib.run_eql_slice_nil w _ _ _ _ _ _ _ Tryz.underlying28
  have HR:Hid (∀ (i:Nat) (u:Value),(l.flatMap Mb.cs)[i]?=some u→(w.alloc (.cells #[] 147)).cell? (ad.add i)=some u):=hid (by
   intro i u hu;have h0:0<l.length:=by
    have:=(List.getElem?_eq_some_iff.1 hu).1;rw [Zp Mb.k] at this;rcases Nat.eq_zero_or_pos l.length with h0 | h0
    ·rw [h0] at this;omega
    ·exact h0
   obtain⟨ad',e,hB,h1⟩:=HH.out h0;injection e with e
   subst e;rw [World.cell?_alloc_lt w _ _ (by rw [Zz];exact hB)];exact h1 i u hu)
  have HF:=hid (Zp Mb.k l);have HO:=hid (Yn Mb.one l);clear HH;generalize l.flatMap Mb.cs=xs at*;generalize l.length=n at*;go_enter Tryz.func78,Tryz.ntmps78
  go_wp2_with (at_builtin;refine YZ rfl _ _ _ rfl w.heap.size 147 i0 _ 2 32 Tryz.underlying28 hi0 hz0 hz1 hz2 rfl (by decide) (.slice (some ⟨w.heap.size,0,none⟩) 0 0) 0 [] rfl (WQ w _ _ _ lr) ad n c xs rfl HF.out HR.out HO.out (by unfold maxLen;omega) (by omega) (by simp) ?_;intro A3 c3 w3 HO3 hg3);have HB3:Hid (Below w.heap.size w w3):=hid (Below.grown ((Below.refl w.heap.size w).alloc lr _) hg3.out (by simp) (fun k hk=>by simp [Value.ownBlock] at hk;omega))
  go_ret;refine⟨A3,c3,rfl,?_,HB3.out⟩
  have h:=HO3.out;rwa [Nat.zero_add,List.nil_append] at h
theorem VW:(Tryz.prog.info? 53).map (fun i=>(i.zero,i.size,i.bytes))=some (some (.agg #[.string ⟨#[]⟩,.string ⟨#[]⟩,.int .i64 0,.string ⟨#[]⟩,.string ⟨#[]⟩,.bool false]),6,80):=by kernel_rfl
theorem VL (A:Option Addr)(c:Nat)(l:List Gr)(w:World)(h:Zg w w.heap.size A Gr.cs l)(hl:l.length≤1099511627776):
  Calls Tryz.prog 79 #[.slice A l.length c] w fun e w'=> ∃ A' c',e= .returned (.slice A' l.length c')∧w'.ownsRow w.heap.size 53 6 (.slice A' l.length c') l.length (l.flatMap Gr.cs)∧Below w.heap.size w w':=by
 obtain⟨i0,hi0,hz0,hz1,hz2⟩:=info_parts VW;have HH:=hid h;clear h
 cases A with
 | none=>
  obtain rfl:l= []:=by
   rcases Nat.eq_zero_or_pos l.length with h0 | h0
   ·exact List.eq_nil_of_length_eq_zero h0
   ·obtain⟨ad,h1,_⟩:=HH.out h0
    cases h1
  have kn: ∀ w,(binOp .eql 31 (.slice none 0 c) (.slice none 0 0)).run Tryz.prog w= .ok (.bool true) w:=fun w=>Lib.run_eql_slice_nil w _ _ _ _ _ _ _ Tryz.underlying31
  go_enter Tryz.func79,Tryz.ntmps79
  go_wp2;go_ret;exact⟨none,0,rfl,Xu _,Below.refl _ _⟩
 | some ad=>
  have kn: ∀ w,(binOp .eql 31 (.slice (some ad) l.length c) (.slice none 0 0)).run Tryz.prog w= .ok (.bool false) w:=fun w=>Lib.run_eql_slice_nil w _ _ _ _ _ _ _ Tryz.underlying31
  have HR:Hid (∀ (i:Nat) (u:Value),(l.flatMap Gr.cs)[i]?=some u→(w.alloc (.cells #[] 53)).cell? (ad.add i)=some u):=hid (by
   intro i u hu;have h0:0<l.length:=by
    have:=(List.getElem?_eq_some_iff.1 hu).1;rw [Zp Gr.k] at this;rcases Nat.eq_zero_or_pos l.length with h0 | h0
    ·rw [h0] at this;omega
    ·exact h0
   obtain⟨ad',e,hB,h1⟩:=HH.out h0;injection e with e
   subst e;rw [World.cell?_alloc_lt w _ _ (by rw [Zz];exact hB)];exact h1 i u hu)
  have HF:=hid (Zp Gr.k l);have HO:=hid (Yn Gr.one l);clear HH;generalize l.flatMap Gr.cs=xs at*;generalize l.length=n at*;go_enter Tryz.func79,Tryz.ntmps79
  go_wp2_with (at_builtin;refine YZ rfl _ _ _ rfl w.heap.size 53 i0 _ 6 80 Tryz.underlying31 hi0 hz0 hz1 hz2 rfl (by decide) (.slice (some ⟨w.heap.size,0,none⟩) 0 0) 0 [] rfl (WQ w _ _ _ lr) ad n c xs rfl HF.out HR.out HO.out (by unfold maxLen;omega) (by omega) (by simp) ?_;intro A3 c3 w3 HO3 hg3);have HB3:Hid (Below w.heap.size w w3):=hid (Below.grown ((Below.refl w.heap.size w).alloc lr _) hg3.out (by simp) (fun k hk=>by simp [Value.ownBlock] at hk;omega))
  go_ret;refine⟨A3,c3,rfl,?_,HB3.out⟩
  have h:=HO3.out;rwa [Nat.zero_add,List.nil_append] at h
theorem Vv:(Tryz.prog.info? 9).map (fun i=>(i.zero,i.size,i.bytes))=some (some (.string ⟨#[]⟩),1,16):=by kernel_rfl
theorem XG (A:Option Addr)(c:Nat)(l:List (List UInt8))(w:World)(h:Zg w w.heap.size A YT l)(hl:l.length≤1099511627776):
  Calls Tryz.prog 77 #[.slice A l.length c] w fun e w'=> ∃ A' c',e= .returned (.slice A' l.length c')∧w'.ownsRow w.heap.size 9 1 (.slice A' l.length c') l.length (l.flatMap YT)∧Below w.heap.size w w':=by
 obtain⟨i0,hi0,hz0,hz1,hz2⟩:=info_parts Vv;have HH:=hid h;clear h
 cases A with
 | none=>
  obtain rfl:l= []:=by
   rcases Nat.eq_zero_or_pos l.length with h0 | h0
   ·exact List.eq_nil_of_length_eq_zero h0
   ·obtain⟨ad,h1,_⟩:=HH.out h0
    cases h1
  have kn: ∀ w,(binOp .eql 27 (.slice none 0 c) (.slice none 0 0)).run Tryz.prog w= .ok (.bool true) w:=fun w=>Lib.run_eql_slice_nil w _ _ _ _ _ _ _ Tryz.underlying27
  go_enter Tryz.func77,Tryz.ntmps77
  go_wp2;go_ret;exact⟨none,0,rfl,Xu _,Below.refl _ _⟩
 | some ad=>
  have kn: ∀ w,(binOp .eql 27 (.slice (some ad) l.length c) (.slice none 0 0)).run Tryz.prog w= .ok (.bool false) w:=fun w=>Lib.run_eql_slice_nil w _ _ _ _ _ _ _ Tryz.underlying27
  have HR:Hid (∀ (i:Nat) (u:Value),(l.flatMap YT)[i]?=some u→(w.alloc (.cells #[] 9)).cell? (ad.add i)=some u):=hid (by
   intro i u hu;have h0:0<l.length:=by
    have:=(List.getElem?_eq_some_iff.1 hu).1;rw [Zp YT.k] at this;rcases Nat.eq_zero_or_pos l.length with h0 | h0
    ·rw [h0] at this;omega
    ·exact h0
   obtain⟨ad',e,hB,h1⟩:=HH.out h0;injection e with e
   subst e;rw [World.cell?_alloc_lt w _ _ (by rw [Zz];exact hB)];exact h1 i u hu)
  have HF:=hid (Zp YT.k l);have HO:=hid (Yn YT.one l);clear HH;generalize l.flatMap YT=xs at*;generalize l.length=n at*;go_enter Tryz.func77,Tryz.ntmps77
  go_wp2_with (at_builtin;refine YZ rfl _ _ _ rfl w.heap.size 9 i0 _ 1 16 Tryz.underlying27 hi0 hz0 hz1 hz2 rfl (by decide) (.slice (some ⟨w.heap.size,0,none⟩) 0 0) 0 [] rfl (WQ w _ _ _ lr) ad n c xs rfl HF.out HR.out HO.out (by unfold maxLen;omega) (by omega) (by simp) ?_;intro A3 c3 w3 HO3 hg3);have HB3:Hid (Below w.heap.size w w3):=hid (Below.grown ((Below.refl w.heap.size w).alloc lr _) hg3.out (by simp) (fun k hk=>by simp [Value.ownBlock] at hk;omega))
  go_ret;refine⟨A3,c3,rfl,?_,HB3.out⟩
  have h:=HO3.out;rwa [Nat.zero_add,List.nil_append] at h
def QZ (r:Ru):Prop:=(-9223372036854775808≤r.low∧r.low≤9223372036854775807)∧(-9223372036854775808≤r.ZF∧r.ZF≤9223372036854775807)
theorem ON {α:Type}{P:α→Prop}{l:List α}{j:Nat}{a:α}(h: ∀ (i:Nat)(h:i<l.length),i<j→P l[i])(h':P a): ∀ (i:Nat)(h:i< (l.set j a).length),i<j+1→P (l.set j a)[i]:=fun i hi hij=>by
 rw [List.getElem_set];split
 ·exact h'
 ·exact h i (by simpa using hi) (by omega)
theorem Oi {α:Type}{P:α→Prop}{l:List α}{j:Nat}{a:α}(h: ∀ (i:Nat)(h:i<l.length),j≤i→P l[i]): ∀ (i:Nat)(h:i< (l.set j a).length),j+1≤i→P (l.set j a)[i]:=fun i hi hij=>by
 rw [List.getElem_set];split
 ·omega
 ·exact h i (by simpa using hi) (by omega)
theorem XU {w:World}{base g n c k:Nat}{T:TypeId}{xs:List Value}(h:w.ownsRow base T k (.slice (some ⟨g,0,none⟩) n c) n xs){i:Nat}(hi:i<xs.length)(u:Value):(w.setCell ⟨g,i,none⟩ u).ownsRow base T k (.slice (some ⟨g,0,none⟩) n c) n (xs.set i u):=by
 obtain⟨hl,h2⟩:=h;refine⟨by simpa using hl,?_⟩
 rcases h2 with ⟨h0,_⟩ | ⟨g',cap,cur,hv,hb,hh,h3,h4,h5,h6⟩
 ·cases h0
 ·injection hv with hv1 hv2 hv3
  injection hv1 with hv1
  injection hv1 with hv1
  subst hv1;subst hv3;have hB:ZP w g T cur.toList:=by simpa [ZP] using hh
  have hB2:=hB.ZD i u;refine .inr ⟨g,c,(cur.toList.set i u).toArray,rfl,hb,hB2,h3,h4,by simpa using h5,?_⟩
  rw [←h6,List.take_set]
theorem ZL {w:World}{base g n c k:Nat}{T:TypeId}{xs:List Value}(h:w.ownsRow base T k (.slice (some ⟨g,0,none⟩) n c) n xs):base≤g∧g<w.heap.size∧Zc w g T∧(∀ i,w.frozen? ⟨g,i,none⟩=false)∧ ∀ i u,xs[i]?=some u→w.cell? ⟨g,i,none⟩=some u:=by
 obtain⟨hl,h2⟩:=h;rcases h2 with ⟨h0,_⟩ | ⟨g',cap,cur,hv,hb,hh,h3,h4,h5,h6⟩
 ·cases h0
 ·injection hv with hv1 hv2 hv3
  injection hv1 with hv1
  injection hv1 with hv1
  subst hv1;have hB:ZP w g T cur.toList:=by simpa [ZP] using hh
  refine⟨hb,hB.lt,hB.XM,fun i=>hB.frozen i,fun i u hu=> ?_⟩
  rw [hB.cell];rw [←h6,List.getElem?_take] at hu;split at hu
  ·exact hu
  ·cases hu
theorem _root_.Go.World.ownsRow.Yl {w:World}{base base':Nat}{e:TypeId}{size n:Nat}{v:Value}{xs:List Value}(h:w.ownsRow base e size v n xs)(hb:base'≤base):w.ownsRow base' e size v n xs:=by
 refine⟨h.1,?_⟩
 rcases h.2 with h | ⟨g,cap,cur,hv,hg,rest⟩
 ·exact .inl h
 ·exact .inr ⟨g,cap,cur,hv,Nat.le_trans hb hg,rest⟩
theorem XQ {w:World}{base:Nat}{e:TypeId}{size n:Nat}{v:Value}{xs:List Value}(h:w.ownsRow base e size v n xs){k:Nat}(hk:v.ownBlock=some k):k<w.heap.size:=(YC h hk).lt
theorem Yg {α:Type}{enc:α→List Value}{k:Nat}(hk: ∀ x,(enc x).length=k): ∀ (l:List α)(j i:Nat)(hj:j<l.length)(hi:i<k)(u:Value)(a':α),enc a'=(enc l[j]).set i u→(l.flatMap enc).set (j*k+i) u=(l.set j a').flatMap enc
 | [],j,i,hj,hi,u,a',h=>absurd hj (by simp)
 | a ::l,0,i,hj,hi,u,a',h=>by
  rw [List.flatMap_cons,Nat.zero_mul,Nat.zero_add,List.set_cons_zero,List.flatMap_cons,h,List.set_append_left _ _ (by rw [hk];exact hi)];rfl
 | a ::l,j+1,i,hj,hi,u,a',h=>by
  have h2:=Yg hk l j i (by simpa using hj) hi u a' h;rw [List.flatMap_cons,List.set_cons_succ,List.flatMap_cons,←h2,List.set_append_right _ _ (by rw [hk,Nat.add_mul,Nat.one_mul];omega),hk]
  congr 2
  rw [Nat.add_mul,Nat.one_mul];omega
theorem Zg.JE {α:Type}{enc:α→List Value}{w:World}{B B':Nat}{A:Option Addr}{l:List α}(h:Zg w B A enc l)(hb:B≤B'):Zg w B' A enc l:=fun hn=>by
 obtain⟨ad,e,hB,h⟩:=h hn;exact⟨ad,e,Nat.lt_of_lt_of_le hB hb,h⟩
theorem Ys {w:World}{B:Nat}{l:List (List UInt8)}{A:Option Addr}(h:ZV w (· < B) [.Z9] (YY l) A):Zg w B A YT l:=by
 obtain⟨l',h1,h2,_⟩:=WN (enc:=YT) (sh:= [.Z9]) (fun b=> [Da.Z9 b]) id (fun _=>True) (fun x vs hv=>⟨x,rfl,by
  obtain⟨d0,ds0,v0,vs0,e,rfl,h0,r0⟩:=hv.cons;injection e with e1 e2
  subst e1;subst e2;obtain⟨_,rfl⟩:=r0.nil;obtain⟨b,hb0,rfl⟩:=h0.T0;injection hb0 with hb0
  subst hb0;rfl,trivial⟩) YT.k h
 rw [List.map_id] at h1;subst h1;exact h2
theorem Cl.YB {w:World}{B:Nat}{l:List Cl}{A:Option Addr}(h:ZV w (· < B) Zo (l.map Cl.da) A):Zg w B A Cl.cs l:=by
 obtain⟨l',h1,h2,_⟩:=WN (enc:=Cl.cs) Cl.da id (fun _=>True) (fun x vs hv=>⟨x,rfl,Cl.Y4 hv,trivial⟩) Cl.k h;rw [List.map_id] at h1;subst h1;exact h2
theorem Sc.YB {w:World}{B:Nat}{l:List Sc}{A:Option Addr}(h:ZV w (· < B) Zm (l.map Sc.da) A):Zg w B A Sc.cs l:=by
 obtain⟨l',h1,h2,_⟩:=WN (enc:=Sc.cs) Sc.da id (fun _=>True) (fun x vs hv=>⟨x,rfl,Sc.Y4 hv,trivial⟩) Sc.k h;rw [List.map_id] at h1;subst h1;exact h2
theorem Ru.YB {w:World}{B:Nat}{l:List Ru}{A:Option Addr}(h:ZV w (· < B) YP (l.map Ru.da) A): ∃ rs:List Yx,rs.map (·.1)=l∧Zg w B A Yx.cs rs∧ ∀ r∈rs,ZV w (· < B) [.Z9] (YY r.1.ZY) r.2.1∧QZ r.1:=
 WN (enc:=Yx.cs) (sh:=YP) Ru.da (·.1) _ (fun x vs hv=>by
  obtain⟨X,n,rfl,hX⟩:=Ru.Y4 hv;exact⟨(x,X,n),rfl,rfl,hX⟩) Yx.k h
theorem Tu {w:World}{base c:Nat}{l:List (List UInt8)}{A:Option Addr}(h:w.ownsRow base 9 1 (.slice A l.length c) l.length (l.flatMap YT)):ZV w (Nw w base [9]) [.Z9] (YY l) A:=by
 have h1:=Yw (S:=fun _=>False) (sh:= [.Z9]) (fun b=> [Da.Z9 b]) id YT.k h rfl (fun a _=>ZG.one (YJ.YW a));rw [List.map_id] at h1;exact h1.Y6 (fun k hk=>hk.elim (fun h=>h.elim) id) (fun _ _=>rfl)
structure X7 (w:World) (lo hi:Nat) (t:Za):Prop where
 ZY:w.ownsRow lo 119 3 (.slice t.2.1 t.1.ZY.length t.2.2.1) t.1.ZY.length (t.1.ZY.flatMap Cl.cs)
 MH: ∀ g,(Value.slice t.2.1 t.1.ZY.length t.2.2.1).ownBlock=some g→g<hi
 ZT: ∃ rs:List Yx,rs.map (·.1)=t.1.ZT∧w.ownsRow lo 40 8 (.slice t.2.2.2.1 t.1.ZT.length t.2.2.2.2) t.1.ZT.length (rs.flatMap Yx.cs)∧
  ∀ r∈rs,ZV w (fun g=>Nw w lo [9] g∧g<hi) [.Z9] (YY r.1.ZY) r.2.1∧QZ r.1
 Qq: ∀ g,(Value.slice t.2.2.2.1 t.1.ZT.length t.2.2.2.2).ownBlock=some g→g<hi
theorem Ug (t:Tb)(X:Option Addr)(x:Nat)(Y:Option Addr)(y:Nat)(w:World)(hX:ZV w (· < w.heap.size) Zo (t.ZY.map Cl.da) X)(hY:ZV w (· < w.heap.size) YP (t.ZT.map Ru.da) Y)(ht:t.Zs 1099511627776):
  Calls Tryz.prog 58 #[.agg #[.string (Z9 t.Z8),.string (Z9 t.name),.string (Z9 t.ZN),.slice X t.ZY.length x,.slice Y t.ZT.length y]] w fun e w'=> ∃ X' x' Y' y',e= .returned (.agg (t.cs X' x' Y' y').toArray)∧X7 w' w.heap.size w'.heap.size (t,X',x',Y',y')∧Below w.heap.size w w':=by
 have HX:=hid (Cl.YB hX);obtain⟨rs0,hrs,hr1,hr2⟩:=Ru.YB hY;have HRs:=hid hrs;have HR1:=hid hr1;have HR2:=hid hr2;have hcl:=ht.1;have hrl:=ht.2.1;have HT:=hid ht.2.2;have hrn:rs0.length=t.ZT.length:=by rw [←hrs,List.length_map]
 have HI:=iN 73 5;clear hX hY hrs hr1 hr2 ht;go_enter Tryz.func58,Tryz.ntmps58
 go_wp2_with fail;refine Zj _ fun W hW=> ?_
 have HB1:=bQ hW;have P1:=nD hW;have Q1:=nF hW;clear hW;refine(TN X x t.ZY W (HX.out.later HB1.out) hcl).mono ?_
 rintro e W2 ⟨X2,x2,rfl,ho,hb⟩;have HB2:=bt HB1 hb;have HC2:=hid ho;have P2:=bl P1 hb;have Q2:=bl Q1 hb;have HS1:=hid HB1.out.size;have hW1l:w.heap.size+1<W.heap.size:=Q1.out.lt;have hz2:=hb.size;clear ho hb HB1 P1 Q1;have p3:=ce P2 3;have f3:=P2.out.frozen 3;have p4:=ce P2 4;go_wp2_with fail;refine Zj _ fun W3 hW=> ?_
 have HB3:Hid (Below w.heap.size w W3):=hid (by rw [hW];exact HB2.out.setCell lr _);have HC3:Hid (W3.ownsRow W.heap.size 119 3 (.slice X2 t.ZY.length x2) t.ZY.length (t.ZY.flatMap Cl.cs)):=hid (by rw [hW];exact ownsRow_setCell_below HC2.out (by show w.heap.size<_;omega) _)
 have P3:=rB hW (P2.out.ZD 3 _);have Q3:Hid (ZP W3 (w.heap.size+1) 73 [.string ⟨#[]⟩,.string ⟨#[]⟩,.string ⟨#[]⟩,.slice none 0 0,.slice none 0 0]):=hid (by rw [hW];exact Q2.out.Xo (by show _≠w.heap.size;omega) _)
 have hz3:W2.heap.size≤W3.heap.size:=by rw [hW];simp [World.setCell]
 clear hW P2 Q2 HC2 HB2 p3 f3 p4;have hcR:=Sf Y y rs0 W3 (HR1.out.later HB3.out) (by omega);rw [hrn] at hcR;refine hcR.mono ?_
 rintro e W4 ⟨Y2,y2,rfl,ho,hb⟩;have HB4:=bt HB3 hb;have HR4:=hid ho;have HC4:=hid (HC3.out.Zu hb);have P4:=bl P3 hb;have hz4:=hb.size;have Q4:=bl Q3 hb;clear ho hb HB3 P3 Q3 HC3 hcR;have p4:=ce P4 4;have f4:=P4.out.frozen 4;have W5z:W4.heap.size=(W4.setCell ⟨w.heap.size,4,none⟩ (.slice Y2 t.ZT.length y2)).heap.size:=by simp [World.setCell]
 have HB5:Hid (Below w.heap.size w (W4.setCell ⟨w.heap.size,4,none⟩ (.slice Y2 t.ZT.length y2))):=hid (HB4.out.setCell lr _);have HC5:Hid ((W4.setCell ⟨w.heap.size,4,none⟩ (.slice Y2 t.ZT.length y2)).ownsRow W.heap.size 119 3 (.slice X2 t.ZY.length x2) t.ZY.length (t.ZY.flatMap Cl.cs)):=hid (ownsRow_setCell_below HC4.out (by show w.heap.size<_;omega) _)
 have HR5:Hid ((W4.setCell ⟨w.heap.size,4,none⟩ (.slice Y2 t.ZT.length y2)).ownsRow W3.heap.size 40 8 (.slice Y2 t.ZT.length y2) t.ZT.length (rs0.flatMap Yx.cs)):=hid (ownsRow_setCell_below HR4.out (by show w.heap.size<_;omega) _);have P5:Hid (ZP (W4.setCell ⟨w.heap.size,4,none⟩ (.slice Y2 t.ZT.length y2)) w.heap.size 73 [.string (Z9 t.Z8),.string (Z9 t.name),.string (Z9 t.ZN),.slice X2 t.ZY.length x2,.slice Y2 t.ZT.length y2]):=hid (P4.out.ZD 4 _);have Q5:Hid (ZP (W4.setCell ⟨w.heap.size,4,none⟩ (.slice Y2 t.ZT.length y2)) (w.heap.size+1) 73 [.string ⟨#[]⟩,.string ⟨#[]⟩,.string ⟨#[]⟩,.slice none 0 0,.slice none 0 0]):=hid (Q4.out.Xo (by show _≠w.heap.size;omega) _)
 have p5:(W4.setCell ⟨w.heap.size,4,none⟩ (.slice Y2 t.ZT.length y2)).cell? ⟨w.heap.size,4,none⟩=some (.slice Y2 t.ZT.length y2):=P5.out.cell 4;clear HB4 HC4 HR4 P4 Q4;go_wp2;go_loopw [15] (fun i wr=> ∃ (j:Nat) (rs:List Yx),j≤t.ZT.length∧i= .int .i64 j∧Hid (rs.map (·.1)=t.ZT)∧Hid (wr.ownsRow W3.heap.size 40 8 (.slice Y2 t.ZT.length y2) t.ZT.length (rs.flatMap Yx.cs))∧Hid (wr.ownsRow W.heap.size 119 3 (.slice X2 t.ZY.length x2) t.ZY.length (t.ZY.flatMap Cl.cs))∧
  Hid (∀ (i:Nat) (h:i<rs.length),i<j→ZV wr (Nw wr w.heap.size [9]) [.Z9] (YY rs[i].1.ZY) rs[i].2.1∧QZ rs[i].1)∧Hid (∀ (i:Nat) (h:i<rs.length),j≤i→ZV w (· < w.heap.size) [.Z9] (YY rs[i].1.ZY) rs[i].2.1∧QZ rs[i].1)∧Hid (Below w.heap.size w wr)∧Hid (ZP wr w.heap.size 73 [.string (Z9 t.Z8),.string (Z9 t.name),.string (Z9 t.ZN),.slice X2 t.ZY.length x2,.slice Y2 t.ZT.length y2])∧Hid (ZP wr (w.heap.size+1) 73 [.string ⟨#[]⟩,.string ⟨#[]⟩,.string ⟨#[]⟩,.slice none 0 0,.slice none 0 0])) (fun i _=>t.ZT.length - (intOf i).toNat)
 case atStart=>exact⟨0,rs0,Nat.zero_le _,rfl,HRs,HR5,HC5,hid (fun i h h0=>absurd h0 (by omega)),hid (fun i h _=>HR2.out _ (List.getElem_mem h)),HB5,P5,Q5⟩
 case round=>
  clear HB5 HC5 HR5 P5 Q5 p5 p4 f4 W5z;obtain⟨j,rs,hj,rfl,HRm,HRo,HCo,HD,HE,HBw,HP,HQ⟩:=hrel;by_cases hlt:j<t.ZT.length
  ·have hrl2:rs.length=t.ZT.length:=by rw [←HRm.out,List.length_map]
   have hjr:j<rs.length:=by omega
   obtain⟨hlo,hbd⟩:=HE.out j hjr lr;have HL:=hid (Ys hlo);have HBd:=hid hbd;have hrt:=(HT.out rs[j].1 (by rw [←HRm.out];exact List.mem_map.2 ⟨_,List.getElem_mem hjr,rfl⟩)).1;obtain⟨g,rfl⟩: ∃ g,Y2=some ⟨g,0,none⟩:=by
    obtain⟨g,cap,hv,_,_⟩:=HRo.out.form (by omega);exact⟨g,by injection hv⟩
   obtain⟨hg1,hg2,hg3,hg4,hg5⟩:=ZL HRo.out;have hcell:=hg5 (j*8+2) (.slice rs[j].2.1 rs[j].1.ZY.length rs[j].2.2) (by rw [Zi Yx.k rs j 2 hjr (by omega)];rfl)
   have hfr:=hg4 (j*8+2);have HGT:=hid hg3;have HSet:=hid (fun(A':Option Addr) (c':Nat)=>Yg Yx.k rs j 2 hjr (by omega) (.slice A' rs[j].1.ZY.length c') ((rs[j].1,A',c'):Yx) rfl);clear hlo hbd hg3 hg4 hg5;generalize hr:rs[j]=r at*;have p4:=ce HP 4;have hlp:=HP.out.lt;have hb1:(j:Int)< (t.ZT.length:Int):=by omega
   go_wp2_with fail;have hS0:(fun w'=>Below wr.heap.size wr w'∧w'.cell? ⟨w.heap.size,4,none⟩=some (.slice (some ⟨g,0,none⟩) t.ZT.length y2)∧w'.cell? ⟨g,j*8+2,none⟩=some (.slice r.2.1 r.1.ZY.length r.2.2)) wr.drew:=⟨br.drew,p4,hcell⟩
   have hkeep:Hid (∀ w',Below wr.heap.size wr w'→(fun w'=>Below wr.heap.size wr w'∧w'.cell? ⟨w.heap.size,4,none⟩=some (.slice (some ⟨g,0,none⟩) t.ZT.length y2)∧w'.cell? ⟨g,j*8+2,none⟩=some (.slice r.2.1 r.1.ZY.length r.2.2)) w'):=hid fun w' h=>⟨h,ct p4 h hlp,ct hcell h hg2⟩
   refine Yy 12 (S:=fun w'=>Below wr.heap.size wr w'∧w'.cell? ⟨w.heap.size,4,none⟩=some (.slice (some ⟨g,0,none⟩) t.ZT.length y2)∧w'.cell? ⟨g,j*8+2,none⟩=some (.slice r.2.1 r.1.ZY.length r.2.2)) (by kernel_rfl) hS0 (fun HD'=> ?_)
   (try simp only [pp]);refine Xl 0 18 HD' ?_;refine Xl 1 19 HD' ?_;refine Xl 2 20 HD' ?_;refine Xl 3 21 HD' ?_;refine Xl 4 22 HD' ?_;refine Xl 5 23 HD' ?_;refine Xl 6 24 HD' ?_;refine Xl 7 25 HD' ?_;refine Xl 8 26 HD' ?_;refine U4 9 27 fun K hK=> ?_
   go_simp;go_at_call 77
   have hD1:Below wr.heap.size wr wr.drew:=br.drew;refine(XG r.2.1 r.2.2 r.1.ZY wr.drew (HL.out.below HBw.out |>.JE (by simpa using HBw.out.size)) hrt).mono ?_
   rintro e w5 ⟨A',c',rfl,ho5,hb⟩;have HB5:Hid (Below wr.heap.size wr w5):=hid (hD1.trans hb);have HS5:=hid (Tu ho5);have hz5:=hb.size;clear hb ho5;have HD':=hkeep.out _ HB5.out;refine hK.out _ _ HD' ?_
   clear hK K;(try simp only [pp])
   refine U4 10 28 fun K hK=> ?_
   go_simp;refine hK.out _ _ HD' ?_
   clear hK K;(try simp only [pp])
   refine U4 11 29 fun K hK=> ?_
   go_simp;refine hK.out _ _ HD' ?_
   clear hK K;(try simp only [pp])
   refine YI.Xq (i:=12) (o:=⟨none,_,_,_,_,_⟩) (by kernel_rfl) rfl rfl (fun K hK=> ?_)
   have e5:w5.cell? ⟨g,j*8+2,none⟩=some (.slice r.2.1 r.1.ZY.length r.2.2):=HD'.2.2;have f5:w5.frozen? ⟨g,j*8+2,none⟩=false:=(HB5.out.frozen (p:=⟨g,j*8+2,none⟩) hg2).trans hfr;go_simp;refine hK.out _ _ (YI.done (by kernel_rfl) ?_ _);clear hK K;have hgw:w.heap.size<g:=by omega
   have R1:=hid (HRo.out.Zu (by exact HB5.out));have hi8:j*8+2< (rs.flatMap Yx.cs).length:=by rw [Zp Yx.k];omega
   have R2:Hid ((w5.setCell ⟨g,j*8+2,none⟩ (.slice A' r.1.ZY.length c')).ownsRow W3.heap.size 40 8 (.slice (some ⟨g,0,none⟩) t.ZT.length y2) t.ZT.length ((rs.set j (r.1,A',c')).flatMap Yx.cs)):=hid (by
    rw [←HSet.out A' c'];exact XU R1.out hi8 _)
   have hK5:ZS [40] w5 (w5.setCell ⟨g,j*8+2,none⟩ (.slice A' r.1.ZY.length c')):=ZS.ZD (HGT.out.Tx (HB5.out.block g hg2)) (by simp) _;have C2:=hid ((HCo.out.Zu (by exact HB5.out)).keeps hK5 (by decide));have D2:=hid (ON (a:=((r.1,A',c'):Yx)) (P:=fun z=>ZV (w5.setCell ⟨g,j*8+2,none⟩ (.slice A' r.1.ZY.length c')) (Nw (w5.setCell ⟨g,j*8+2,none⟩ (.slice A' r.1.ZY.length c')) w.heap.size [9]) [.Z9] (YY z.1.ZY) z.2.1∧QZ z.1)
    (fun i h hij=>⟨((HD.out i h hij).1.RB (by exact HB5.out)).WA hK5 (by decide),(HD.out i h hij).2⟩)
    ⟨(HS5.out.UC (by simpa using HBw.out.size) (fun _ h=>h)).WA hK5 (by decide),HBd.out⟩)
   have E2:=hid (Oi (l:=rs) (j:=j) (P:=fun z:Yx=>ZV w (· < w.heap.size) [.Z9] (YY z.1.ZY) z.2.1∧QZ z.1) (a:=((r.1,A',c'):Yx)) HE.out);have M2:Hid ((rs.set j (r.1,A',c')).map (·.1)=t.ZT):=hid (by rw [List.map_set,←HRm.out,←hr,←List.getElem_map (f:=fun x:Yx=>x.1) (h:=by simpa using hjr),List.set_getElem_self]);have B2:Hid (Below w.heap.size w (w5.setCell ⟨g,j*8+2,none⟩ (.slice A' r.1.ZY.length c'))):=hid ((HBw.out.trans (HB5.out.mono HBw.out.size)).setCell (by show w.heap.size≤g;omega) _)
   have P2':=hid ((HP.out.below HB5.out hlp).keeps hK5 (by decide));have Q2':=hid ((HQ.out.below HB5.out HQ.out.lt).keeps hK5 (by decide));clear HRm HRo HCo HD HE HBw HP HQ HD' R1 hkeep hS0 p4 hcell hfr e5 f5 HB5 HS5 hK5 hD1 HL HSet HGT;go_wp2;go_roundw
   case rel=>exact⟨j+1,rs.set j (r.1,A',c'),by omega,by go_num,M2,R2,C2,D2,E2,B2,P2',Q2'⟩
   case measure=>simp [intOf];omega
  ·obtain rfl:j=t.ZT.length:=by omega
   go_wp2_with (first
    |(refine lO HP HI Tryz.underlying73 ?_)
    |((refine sO HQ HI ?_);intro w6 H6))
   refine bodyPost_ret (rS (hid H6.out.Ym) Tryz.underlying73 HI) rfl ?_
   have hrl2:rs.length=t.ZT.length:=by rw [←HRm.out,List.length_map]
   have K6:=H6.out.keeps;refine⟨X2,x2,Y2,y2,rfl,⟨?_,?_,⟨rs,HRm.out,?_,?_⟩,?_⟩,H6.out.below HBw.out (by omega)⟩
   ·exact(HCo.out.Yl (by omega)).keeps K6 (by decide)
   ·exact fun k hk=>by have:=XQ ((HCo.out.Yl (base':=w.heap.size) (by omega)).keeps K6 (by decide)) hk;omega
   ·exact(HRo.out.Yl (by omega)).keeps K6 (by decide)
   ·intro r hr;obtain⟨i,hi,rfl⟩:=List.getElem_of_mem hr;obtain⟨h1,h2⟩:=HD.out i hi (by omega);exact⟨(h1.WA K6 (by decide)).Y6 (fun k hk=>⟨hk,hk.lt⟩) (fun _ _=>rfl),h2⟩
   ·exact fun k hk=>by have:=XQ ((HRo.out.Yl (base':=w.heap.size) (by omega)).keeps K6 (by decide)) hk;omega
theorem X7.keeps {us:List TypeId}{w w':World}{lo hi:Nat}{t:Za}(h:X7 w lo hi t)(hk:ZS us w w')(h1:119∉us)(h2:40∉us)(h3:9∉us):X7 w' lo hi t:=by
 obtain⟨hc,MH,⟨rs,hm,hr,ha⟩,Qq⟩:=h;have hd: ∀ t,t∈ [9]→t∉us:=fun t ht=>by rw [List.mem_singleton.1 ht];exact h3
 exact⟨hc.keeps hk h1,MH,⟨rs,hm,hr.keeps hk h2,fun r hr'=>⟨(ha r hr').1.Y6 (fun k hk'=>⟨(hk'.1.keeps hk hd).1,hk'.2⟩) (fun _ hp=>World.cell?_of_block (hp.1.keeps hk hd).2),(ha r hr').2⟩⟩,Qq⟩
theorem X7.below {w w':World}{lo hi:Nat}{t:Za}(h:X7 w lo hi t)(hb:Below w.heap.size w w'):X7 w' lo hi t:=h.keeps (us:= []) (ZS.Zr hb lr) (by simp) (by simp) (by simp)
theorem X7.mono {w:World}{lo hi lo' hi':Nat}{t:Za}(h:X7 w lo hi t)(h1:lo'≤lo)(h2:hi≤hi'):X7 w lo' hi' t:=by
 obtain⟨hc,MH,⟨rs,hm,hr,ha⟩,Qq⟩:=h;exact⟨hc.Yl h1,fun g hg=>Nat.lt_of_lt_of_le (MH g hg) h2,⟨rs,hm,hr.Yl h1,fun r hr'=>⟨(ha r hr').1.Y6 (fun k hk'=>⟨hk'.1.mono h1 (fun _ h=>h),Nat.lt_of_lt_of_le hk'.2 h2⟩) (fun _ _=>rfl),(ha r hr').2⟩⟩,fun g hg=>Nat.lt_of_lt_of_le (Qq g hg) h2⟩
theorem X7.VO {w:World}{lo hi:Nat}{t:Za}(h:X7 w lo hi t):ZG w (Nw w lo [119,40,9]) Zv t.1.da (Za.cs t):=by
 obtain⟨hc,MH,⟨rs,hm,hr,ha⟩,Qq⟩:=h;have h1:=Yw (S:=fun _=>False) (sh:=Zo) Cl.da id Cl.k hc rfl (fun a _=>Cl.VO a);rw [List.map_id] at h1;have h2:=Yw (S:=Nw w lo [9]) (sh:=YP) Ru.da (·.1) Yx.k hr (by rw [←hm,List.length_map]) (fun a hr'=>by
  obtain⟨h3,h4⟩:=ha a hr';have h5:=YJ.WH (c:=a.2.2) (h3.Y6 (S':=Nw w lo [9]) (fun _ h=>h.1) (fun _ _=>rfl));have h6:ZG w (Nw w lo [9]) YP a.1.da [.string (Z9 a.1.name),.int .i64 a.1.ZQ,.slice a.2.1 (YY a.1.ZY).length a.2.2,.int .i64 a.1.low,.int .i64 a.1.ZF,.string (Z9 a.1.Z8),.string (Z9 a.1.ZX),.string (Z9 a.1.key)]:=
   ZG.mk (YJ.YW _) (ZG.mk (YJ.Xp _) (ZG.mk h5 (ZG.mk (YJ.UQ h4.1) (ZG.mk (YJ.UQ h4.2) (ZG.mk (YJ.YW _) (ZG.mk (YJ.YW _) (ZG.one (YJ.YW _))))))))
  have e:(YY a.1.ZY).length=a.1.ZY.length:=by simp [YY]
  rw [e] at h6;exact h6)
 rw [hm] at h2;have h3:=YJ.WH (c:=t.2.2.1) (h1.Y6 (S':=Nw w lo [119,40,9]) (fun k hk=>by
  rcases hk with hk | hk
  ·exact hk.elim
  ·exact hk.mono lr (by simp)) (fun _ _=>rfl))
 have h4:=YJ.WH (c:=t.2.2.2.2) (h2.Y6 (S':=Nw w lo [119,40,9]) (fun k hk=>by
  rcases hk with hk | hk
  ·exact hk.mono lr (by simp)
  ·exact hk.mono lr (by simp)) (fun _ _=>rfl))
 rw [List.length_map] at h3 h4;exact ZG.mk (YJ.YW _) (ZG.mk (YJ.YW _) (ZG.mk (YJ.YW _) (ZG.mk h3 (ZG.one h4))))
structure WE (w:World) (base:Nat) (o:Ob) (A0:Option Addr) (k0:Nat) (A1:Option Addr) (k1:Nat) (ts:List Za) (b:Nat→Nat):Prop where
 data:ts.map (·.1)=o.Z7
 Z4:w.ownsRow base 89 2 (.slice A0 o.Z4.length k0) o.Z4.length (o.Z4.flatMap Sc.cs)
 Z7:w.ownsRow base 73 5 (.slice A1 o.Z7.length k1) o.Z7.length (ts.flatMap Za.cs)
 low:base≤b 0
 tab: ∀ (j:Nat) (h:j<ts.length),b j≤b (j+1)∧X7 w (b j) (b (j+1)) ts[j]
theorem WE.sc {w:World}{base:Nat}{o:Ob}{A0:Option Addr}{k0:Nat}{A1:Option Addr}{k1:Nat}{ts:List Za}{b:Nat→Nat}(h:WE w base o A0 k0 A1 k1 ts b):ZV w (Nw w base [89]) Zm (o.Z4.map Sc.da) A0:=by
 have h1:=Yw (S:=fun _=>False) (sh:=Zm) Sc.da id Sc.k h.Z4 rfl (fun a _=>Sc.VO a);rw [List.map_id] at h1;exact h1.Y6 (fun k hk=>hk.elim (fun h=>h.elim) id) (fun _ _=>rfl)
theorem WE.Us {w:World}{base:Nat}{o:Ob}{A0:Option Addr}{k0:Nat}{A1:Option Addr}{k1:Nat}{ts:List Za}{b:Nat→Nat}(h:WE w base o A0 k0 A1 k1 ts b): ∀ (j i:Nat),i≤j→j≤ts.length→b i≤b j
 | 0,i,hi,_=>by rw [Nat.le_zero.1 hi];exact Nat.le_refl _
 | j+1,i,hi,hj=>by
  rcases Nat.eq_or_lt_of_le hi with e | e
  ·rw [e];exact Nat.le_refl _
  ·exact Nat.le_trans (h.Us j i (by omega) (by omega)) (h.tab j (by omega)).1
theorem WE.tb {w:World}{base:Nat}{o:Ob}{A0:Option Addr}{k0:Nat}{A1:Option Addr}{k1:Nat}{ts:List Za}{b:Nat→Nat}(h:WE w base o A0 k0 A1 k1 ts b):ZV w (Nw w base [73,119,40,9]) Zv (o.Z7.map Tb.da) A1:=by
 have hl:ts.length=o.Z7.length:=by rw [←h.data,List.length_map]
 have h1:=Yw (S:=Nw w base [119,40,9]) (sh:=Zv) Tb.da (·.1) Za.k h.Z7 hl.symm (fun a ha=>by
  obtain⟨j,hj,rfl⟩:=List.getElem_of_mem ha;exact((h.tab j hj).2.VO).UC (Nat.le_trans h.low (h.Us j 0 (Nat.zero_le _) (by omega))) (fun _ h=>h))
 rw [h.data] at h1;exact h1.Y6 (fun k hk=>by
  rcases hk with hk | hk
  ·exact hk.mono lr (by simp)
  ·exact hk.mono lr (by simp)) (fun _ _=>rfl)
theorem WE.below {w w':World}{base:Nat}{o:Ob}{A0:Option Addr}{k0:Nat}{A1:Option Addr}{k1:Nat}{ts:List Za}{b:Nat→Nat}(h:WE w base o A0 k0 A1 k1 ts b)(hb:Below w.heap.size w w'):WE w' base o A0 k0 A1 k1 ts b:=
 ⟨h.data,h.Z4.Zu hb,h.Z7.Zu hb,h.low,fun j hj=>⟨(h.tab j hj).1,(h.tab j hj).2.below hb⟩⟩
theorem JB {K:Act→World→Prop}{a:Act}(wX:World)(k: ∀ W,W=wX→K a W):K a wX:=k _ rfl
theorem SA {Q:Exit→Act→World→Prop}{e:Exit}{a:Act}(wX:World)(k: ∀ W,W=wX→Q e a W):Q e a wX:=k _ rfl
theorem Vr {P:Program}{w:World}{ops:Array Oper}{o:Oper}{a:Act}{K:Act→World→Prop}{Q:Exit→Act→World→Prop}{E':Prop}(hgd:o.guard=none)(s x:Operand)(t:TypeId)
  (ho:o.op= .call { callee:= .builtin .append,args:= #[s,x],argTypes:= #[t,t]})
  (base:Nat) (e:TypeId) (i:TypeInfo) (z:Value) (size bytes:Nat) (ht:P.underlying t=some (.slice e)) (hi:P.info? e=some i) (hz:i.zero=some z)
  (hsize:i.size=size) (hby:i.bytes=bytes) (hzs:z.cells.size=size) (hsz:0<size)
  (v:Value) (n:Nat) (xs:List Value) (hs:a.eval s=v) (hown:w.ownsRow base e size v n xs)
  (ad:Addr) (m c:Nat) (news:List Value) (hx:a.eval x= .slice (some ad) m c) (hl:news.length=m*size) (hnews: ∀ j u,news[j]?=some u→w.cell? (ad.add j)=some u) (h1: ∀ u∈news,u.oneCell'=true)
  (h63:n+m≤maxLen) (hbytes:(n+m)*bytes≤140737488355328) (hbase:base≤w.heap.size)
  (h: ∀ A' c' w',Hid (w'.ownsRow base e size (.slice A' (n+m) c') (n+m) (xs ++news))→Hid (w.grownBy w' v.ownBlock)→K (a.put o.dst (.slice A' (n+m) c')) w'):if Region.wanted o (yielded ops a.tmps)=true then Oper.wp P o a w K Q else E':=by
 have hw:Region.wanted o (yielded ops a.tmps)=true:=by simp [Region.wanted,hgd]
 rw [if_pos hw];obtain⟨v',w',hrun,h2,h3,_⟩:=run_append_own (P:=P) w base t o.type e i z size bytes ht hi hz hsize hby hzs hsz v n xs hown ad m c news hl hnews h1 h63 hbytes hbase;unfold Oper.wp execOp;simp only [ho,resolve,invoke,builtin,Sem.run_bind,Sem.run_pure,Result.andThen_ok,List.map_toArray,List.map_cons,List.map_nil,hs,hx,hrun];obtain⟨A',c',rfl⟩:=WP h2;exact h A' c' w' h2 h3
theorem JW (o:Ob)(A0:Option Addr)(k0:Nat)(A1:Option Addr)(k1:Nat)(w:World)(hS:ZV w (· < w.heap.size) Zm (o.Z4.map Sc.da) A0)(hT:ZV w (· < w.heap.size) Zv (o.Z7.map Tb.da) A1)(ho:o.Zs 1099511627776):
  Calls Tryz.prog 245 #[.agg #[.slice A0 o.Z4.length k0,.slice A1 o.Z7.length k1]] w fun e w'=> ∃ B0 l0 B1 l1 ts b,e= .returned (.agg #[.slice B0 o.Z4.length l0,.slice B1 o.Z7.length l1])∧WE w' w.heap.size o B0 l0 B1 l1 ts b∧Below w.heap.size w w':=by
 have HS:=hid (Sc.YB hS);have HT:=hid hT;have HO:=hid ho;have hsl:=ho.1;have htl:=ho.2.1;have HI:=iN 73 5;have HI2:=iN 26 2;obtain⟨i0,hi0,hz0,hz1,hz2⟩:=info_parts WR;clear hS hT ho;go_enter Tryz.func245,Tryz.ntmps245
 go_wp2_with fail;refine Zj _ fun W hW=> ?_
 have HB1:=bQ hW;have P1:=nD hW;have Q1:=nF hW;clear hW;refine(Vf A0 k0 o.Z4 W (HS.out.later HB1.out) hsl).mono ?_
 rintro e W2 ⟨B0,l0,rfl,ho,hb⟩;have HB2:=bt HB1 hb;have HC2:=hid ho;have P2:=bl P1 hb;have Q2:=bl Q1 hb;have hW1l:w.heap.size+1<W.heap.size:=Q1.out.lt;have hz2':=hb.size;clear ho hb HB1 P1 Q1;have p1:(W2.alloc (.cells #[.slice B0 o.Z4.length l0,.slice none 0 0] 26)).cell? ⟨w.heap.size,1,none⟩=some (.slice A1 o.Z7.length k1):=(P2.out.alloc _).cell 1;have HB3:Hid (Below w.heap.size w (W2.alloc (.cells #[.slice B0 o.Z4.length l0,.slice none 0 0] 26))):=hid (HB2.out.alloc HB2.out.size _);have HC3:Hid ((W2.alloc (.cells #[.slice B0 o.Z4.length l0,.slice none 0 0] 26)).ownsRow W.heap.size 89 2 (.slice B0 o.Z4.length l0) o.Z4.length (o.Z4.flatMap Sc.cs)):=hid (HC2.out.Zu (br.alloc lr _));have R3:Hid (ZP (W2.alloc (.cells #[.slice B0 o.Z4.length l0,.slice none 0 0] 26)) W2.heap.size 26 [.slice B0 o.Z4.length l0,.slice none 0 0]):=hid (ZP.new W2 _ _);have Q3:Hid (ZP (W2.alloc (.cells #[.slice B0 o.Z4.length l0,.slice none 0 0] 26)) (w.heap.size+1) 26 [.slice none 0 0,.slice none 0 0]):=hid (Q2.out.alloc _);clear HB2 HC2 P2 Q2;go_wp2;go_loopw [13] (fun i wr=> ∃ (j:Nat) (ts:List Za) (B1:Option Addr) (l1:Nat) (b:Nat→Nat),j≤o.Z7.length∧i= .int .i64 j∧Hid (ts.map (·.1)=o.Z7.take j)∧Hid (wr.ownsRow W.heap.size 89 2 (.slice B0 o.Z4.length l0) o.Z4.length (o.Z4.flatMap Sc.cs))∧
  Hid (wr.ownsRow w.heap.size 73 5 (.slice B1 j l1) j (ts.flatMap Za.cs))∧Hid (w.heap.size≤b 0∧b ts.length≤wr.heap.size∧ ∀ (i:Nat) (h:i<ts.length),b i≤b (i+1)∧X7 wr (b i) (b (i+1)) ts[i])∧Hid (Below w.heap.size w wr)∧Hid (ZP wr W2.heap.size 26 [.slice B0 o.Z4.length l0,.slice B1 j l1])∧Hid (ZP wr (w.heap.size+1) 26 [.slice none 0 0,.slice none 0 0])) (fun i _=>o.Z7.length - (intOf i).toNat)
 case atStart=>exact⟨0,[],none,0,fun _=>w.heap.size,Nat.zero_le _,rfl,hid (by simp),HC3,hid (World.ownsRow_nil _ _ _ _),hid ⟨Nat.le_refl _,HB3.out.size,fun i h=>absurd h (by simp)⟩,HB3,R3,Q3⟩
 case round=>
  clear HB3 HC3 R3 Q3 p1;obtain⟨j,ts,B1,l1,b,hj,rfl,HD,HSc,HTb,HBn,HBw,HR,HQ⟩:=hrel;by_cases hlt:j<o.Z7.length
  ·have htt:=HO.out.2.2 o.Z7[j] (List.getElem_mem hlt);have HTk:Hid (o.Z7.take (j+1)=o.Z7.take j ++ [o.Z7[j]]):=hid (List.take_succ_eq_append_getElem hlt);have htsl:ts.length=j:=by have:=congrArg List.length HD.out;simpa [Nat.min_eq_left hj] using this
   obtain⟨ad,vs,rfl,hv,hr⟩:=(HT.out.later HBw.out).at_ (j:=j) (by simpa using hlt);rw [List.getElem_map] at hv;generalize o.Z7[j]=t at*;obtain⟨X,x,Y,y,rfl,hX,hY⟩:=Tb.Y4 hv;have HXr:=hid hX;have HYr:=hid hY;have HTm:=hid htt;have HG:Hid (∀ i u,(t.cs X x Y y)[i]?=some u→wr.cell? ((ad.add (j*5)).add i)=some u):=hid fun i u hu=>by rw [ZE];exact hr i u hu
   clear hv hr hX hY htt;unfold Tb.cs at HG;have HL:Hid ((Tryz.prog.info? 73).map (·.size)=some ([.string (Z9 t.Z8),.string (Z9 t.name),.string (Z9 t.ZN),.slice X t.ZY.length x,.slice Y t.ZT.length y]:List Value).length):=HI;go_wp2_with (first | (with_reducible refine ZH rfl 73 _ rfl (ad.add (j*5)) rfl [.string (Z9 t.Z8),.string (Z9 t.name),.string (Z9 t.ZN),.slice X t.ZY.length x,.slice Y t.ZT.length y] _ HG.out Tryz.underlying73 rfl HL.out ?_) | fail);refine VP _ fun Wl hW=> ?_
   have HBl:=rL hW (HBw.out.alloc HBw.out.size _);have HBr:=bP hW;have T5:=nC hW;clear hW;have RL:=bl HR HBr.out;have hrl:=RL.out.lt;have htl5:=T5.out.lt;have hS0:(fun w'=>w'.cell? ⟨W2.heap.size,1,none⟩=some (.slice B1 j l1)∧w'.cell? ⟨wr.heap.size,0,none⟩=some (.string (Z9 t.Z8))∧w'.cell? ⟨wr.heap.size,1,none⟩=some (.string (Z9 t.name))∧w'.cell? ⟨wr.heap.size,2,none⟩=some (.string (Z9 t.ZN))∧w'.cell? ⟨wr.heap.size,3,none⟩=some (.slice X t.ZY.length x)∧w'.cell? ⟨wr.heap.size,4,none⟩=some (.slice Y t.ZT.length y)) Wl.drew:=⟨RL.out.drew.cell 1,T5.out.drew.cell 0,T5.out.drew.cell 1,T5.out.drew.cell 2,T5.out.drew.cell 3,T5.out.drew.cell 4⟩
   have hkeep:Hid (∀ w',ZP w' W2.heap.size 26 [.slice B0 o.Z4.length l0,.slice B1 j l1]→ZP w' wr.heap.size 73 [.string (Z9 t.Z8),.string (Z9 t.name),.string (Z9 t.ZN),.slice X t.ZY.length x,.slice Y t.ZT.length y]→(fun w'=>w'.cell? ⟨W2.heap.size,1,none⟩=some (.slice B1 j l1)∧w'.cell? ⟨wr.heap.size,0,none⟩=some (.string (Z9 t.Z8))∧w'.cell? ⟨wr.heap.size,1,none⟩=some (.string (Z9 t.name))∧w'.cell? ⟨wr.heap.size,2,none⟩=some (.string (Z9 t.ZN))∧w'.cell? ⟨wr.heap.size,3,none⟩=some (.slice X t.ZY.length x)∧w'.cell? ⟨wr.heap.size,4,none⟩=some (.slice Y t.ZT.length y)) w'):=hid fun w' h1 h2=>⟨h1.cell 1,h2.cell 0,h2.cell 1,h2.cell 2,h2.cell 3,h2.cell 4⟩
   refine Yy 7 (S:=fun w'=>w'.cell? ⟨W2.heap.size,1,none⟩=some (.slice B1 j l1)∧w'.cell? ⟨wr.heap.size,0,none⟩=some (.string (Z9 t.Z8))∧w'.cell? ⟨wr.heap.size,1,none⟩=some (.string (Z9 t.name))∧w'.cell? ⟨wr.heap.size,2,none⟩=some (.string (Z9 t.ZN))∧w'.cell? ⟨wr.heap.size,3,none⟩=some (.slice X t.ZY.length x)∧w'.cell? ⟨wr.heap.size,4,none⟩=some (.slice Y t.ZT.length y)) (by kernel_rfl) hS0 (fun HD'=> ?_)
   (try simp only [pp]);refine Xl 0 17 HD' ?_;refine Xl 1 18 HD' ?_;refine Xl 2 19 HD' ?_;refine U4 3 20 fun K hK=> ?_
   go_simp;go_at_call 58
   have hD1:Below Wl.heap.size Wl Wl.drew:=br.drew;refine(Ug t X x Y y Wl.drew (HXr.out.later (HBr.out.trans (hD1.mono HBr.out.size))) (HYr.out.later (HBr.out.trans (hD1.mono HBr.out.size))) HTm.out).mono ?_
   rintro e w5 ⟨X',x',Y',y',rfl,ht5,hb⟩;have HB5:Hid (Below Wl.heap.size Wl w5):=hid (hD1.trans hb);have HBr5:=bt HBr HB5.out;have HN:=hid ht5;have R5:=bl RL HB5.out;have T6:=bl T5 HB5.out;clear hb ht5 RL T5;have HD':=hkeep.out _ R5.out T6.out;unfold Tb.cs;dsimp only;refine hK.out _ _ HD' ?_
   clear hK K;(try simp only [pp])
   refine U4 4 21 fun K hK=> ?_
   go_simp;refine JB _ fun w6 h6=> ?_
   have HB56:=bP h6;have N6:=nC h6;clear h6;have R6:=bl R5 HB56.out;have T7:=bl T6 HB56.out;have HBr6:=bt HBr5 HB56.out;have HN6:=hid (HN.out.below HB56.out);clear R5 T6 HN;have HD':=hkeep.out _ R6.out T7.out;refine hK.out _ _ HD' ?_
   clear hK K;(try simp only [pp])
   refine U4 5 22 fun K hK=> ?_
   have O6:=hid (HTb.out.Zu HBr6.out);have hs6:=HBr6.out.size;refine Vr rfl _ _ _ rfl w.heap.size 73 i0 _ 5 96 Tryz.underlying24 hi0 hz0 hz1 hz2 rfl (by decide) (.slice B1 j l1) j _ rfl O6.out ⟨w5.heap.size,0,none⟩ 1 1 [.string (Z9 t.Z8),.string (Z9 t.name),.string (Z9 t.ZN),.slice X' t.ZY.length x',.slice Y' t.ZT.length y'] rfl rfl (ZP.news N6.out) (by simp [Value.oneCell']) (by unfold maxLen;omega) (by omega) (by have:=HBw.out.size;omega) ?_
   intro A7 c7 w7 HO7 hg7;have K7:ZS [73] w6 w7:=ZS.grown O6.out hg7.out (by simp) hg7.out.size;have hgne:some wr.heap.size≠(Value.slice B1 j l1).ownBlock:=fun e=>by have:=XQ HTb.out e.symm;omega
   have R7:=hid (R6.out.keeps K7 (by decide));have T8:=hid (T7.out.grown hg7.out hgne);have HB7:Hid (Below w.heap.size w w7):=hid ((HBw.out.trans (HBr6.out.mono HBw.out.size)).grown hg7.out (by have:=HBw.out.size;omega) (Zt O6.out))
   have HSc7:=hid ((HSc.out.Zu HBr6.out).keeps K7 (by decide));have HQ7:=hid ((HQ.out.below HBr6.out HQ.out.lt).keeps K7 (by decide));have HN7:=hid (HN6.out.keeps K7 (by decide) (by decide) (by decide));have HBn7:Hid (∀ (i:Nat) (h:i<ts.length),b i≤b (i+1)∧X7 w7 (b i) (b (i+1)) ts[i]):=hid fun i h=>⟨(HBn.out.2.2 i h).1,(((HBn.out.2.2 i h).2.below HBr6.out).keeps K7 (by decide) (by decide) (by decide))⟩
   have hs7:=hg7.out.size;have hs56:=HB56.out.size;have hs5:=HB5.out.size;have hsl':=HBr.out.size;have HD':=hkeep.out _ R7.out T8.out;refine hK.out _ _ HD' ?_
   clear hK K;(try simp only [pp])
   refine U4 6 23 fun K hK=> ?_
   go_simp;refine hK.out _ _ HD' ?_
   clear hK K;(try simp only [pp])
   refine YI.Xq (i:=7) (o:=⟨none,_,_,_,_,_⟩) (by kernel_rfl) rfl rfl (fun K hK=> ?_)
   have e5:w7.cell? ⟨W2.heap.size,1,none⟩=some (.slice B1 j l1):=HD'.1;have f5:=R7.out.frozen 1;go_simp;refine hK.out _ _ (YI.done (by kernel_rfl) ?_ _);clear hK K;refine SA _ fun w8 h8=> ?_
   have hgw:w.heap.size≤W2.heap.size:=by omega
   have K8:ZS [26] w7 w8:=by rw [h8];exact ZS.ZD R7.out.XM (by simp) _
   have R8:=rB h8 (R7.out.ZD 1 _);have HQ8:Hid (ZP w8 (w.heap.size+1) 26 [.slice none 0 0,.slice none 0 0]):=hid (by rw [h8];exact HQ7.out.Xo (by show _≠W2.heap.size;omega) _)
   have HB8:Hid (Below w.heap.size w w8):=hid (by rw [h8];exact HB7.out.setCell (by show w.heap.size≤W2.heap.size;omega) _);have hs8:w7.heap.size≤w8.heap.size:=K8.size;clear h8;have HSc8:=hid (HSc7.out.keeps K8 (by decide));have HTb8:Hid (w8.ownsRow w.heap.size 73 5 (.slice A7 (j+1) c7) (j+1) ((ts ++ [(t,X',x',Y',y')]).flatMap Za.cs)):=hid (by
    rw [List.flatMap_append];simpa [Za.cs,Tb.cs] using HO7.out.keeps K8 (by decide))
   have HD8:Hid ((ts ++ [((t,X',x',Y',y'):Za)]).map (·.1)=o.Z7.take (j+1)):=hid (by rw [List.map_append,HD.out,HTk.out];rfl);have HBn8:Hid (w.heap.size≤(fun i=>if i≤j then b i else w8.heap.size) 0∧(fun i=>if i≤j then b i else w8.heap.size) (ts ++ [((t,X',x',Y',y'):Za)]).length≤w8.heap.size∧ ∀ (i:Nat) (h:i< (ts ++ [((t,X',x',Y',y'):Za)]).length),(fun i=>if i≤j then b i else w8.heap.size) i≤(fun i=>if i≤j then b i else w8.heap.size) (i+1)∧X7 w8 ((fun i=>if i≤j then b i else w8.heap.size) i) ((fun i=>if i≤j then b i else w8.heap.size) (i+1)) (ts ++ [((t,X',x',Y',y'):Za)])[i]):=hid (by
    have hb0:=HBn.out.1;have hbl:=HBn.out.2.1;refine⟨by simpa using hb0,by simp [htsl];rw [if_neg (by omega)];exact Nat.le_refl _,fun i h=> ?_⟩;by_cases hij:i<j
    ·have hi1:i<ts.length:=by omega
     obtain⟨h1,h2⟩:=HBn7.out i hi1;rw [List.getElem_append_left hi1];simp only [if_pos (show i≤j by omega),if_pos (show i+1≤j by omega)];exact⟨h1,h2.keeps K8 (by decide) (by decide) (by decide)⟩
    ·have hie:i=ts.length:=by simp at h;omega
     subst hie;rw [List.getElem_append_right lr];simp only [Nat.sub_self,List.getElem_cons_zero,if_pos (show ts.length≤j by omega),if_neg (show ¬ ts.length+1≤j by omega)];refine⟨by omega,(HN7.out.keeps K8 (by decide) (by decide) (by decide)).mono (by simp;omega) (by omega)⟩)
   clear HD HSc HTb HBn HBw HR HQ HD' hkeep hS0 e5 f5 HO7 hg7 K7 K8 O6 R6 R7 T7 T8 HB7 HSc7 HQ7 HN6 HN7 HBn7 HBr HBr5 HBr6 HB5 HB56 HBl N6 hD1 HG HL HTk HXr HYr HTm;go_wp2;go_roundw
   case rel=>exact⟨j+1,ts ++ [(t,X',x',Y',y')],A7,c7,fun i=>if i≤j then b i else w8.heap.size,by omega,by go_num,HD8,HSc8,HTb8,HBn8,HB8,R8,HQ8⟩
   case measure=>simp [intOf];omega
  ·obtain rfl:j=o.Z7.length:=by omega
   rw [List.take_length] at HD;go_wp2_with (first
    |(refine lO HR HI2 Tryz.underlying26 ?_)
    |((refine sO HQ HI2 ?_);intro w6 H6))
   refine bodyPost_ret (rS (hid H6.out.Ym) Tryz.underlying26 HI2) rfl ?_
   have K6:=H6.out.keeps;refine⟨B0,l0,B1,l1,ts,b,rfl,⟨HD.out,(HSc.out.Yl (by omega)).keeps K6 (by decide),HTb.out.keeps K6 (by decide),HBn.out.1,fun i h=>⟨(HBn.out.2.2 i h).1,(HBn.out.2.2 i h).2.keeps K6 (by decide) (by decide) (by decide)⟩⟩,H6.out.below HBw.out (by omega)⟩
theorem YL {P:Program}{fn:Func}{t u:Tmp}{ty:TypeId}(h:fn.results= #[.cell t ty,.tmp u])(tmps:Array Value)(w:World)(b:Nat)(hb:tmps.getD t undef= .pointer (some ⟨b,0,none⟩)){t':TypeId}{cs:List Value}(hB:Hid (ZP w b t' cs)){n:Nat}(hn:cs.length=n){d:TypeDesc}
  (hu:P.underlying ty=some d) (hd:d.isRow=true) (hi:Hid ((P.info? ty).map (·.size)=some n)):(results fn tmps).run P w= .ok (.tuple #[.agg cs.toArray,tmps.getD u undef]) w:=by
 have hl:=run_loadVar_mid w b 0 ty cs d hB.out.YN hu hd (hn▸hi.out);have hb':tmps[t]?.getD undef= .pointer (some ⟨b,0,none⟩):=by simpa using hb
 simp [results,h,hb',hl,asAddr]
def QP (o:Ob)(s n:List UInt8):Int:=if YR o=true then(if(Xr o s n).isSome=true then 0 else 61) else 63
theorem X7.rows {w:World}{lo hi:Nat}{t:Za}(h:X7 w lo hi t):ZV w (· < w.heap.size) Zo (t.1.ZY.map Cl.da) t.2.1∧ZV w (· < w.heap.size) YP (t.1.ZT.map Ru.da) t.2.2.2.1:=by
 obtain⟨X,x,Y,y,h1,h2,h3⟩:=Tb.Y4 h.VO;have e:Za.cs t=t.1.cs X x Y y:=h1;unfold Za.cs Tb.cs at e;injection e with _ e
 injection e with _ e
 injection e with _ e
 injection e with e1 e
 injection e with e2 e
 injection e1 with e1
 injection e2 with e2
 rw [e1,e2];exact⟨h2.Oo,h3.Oo⟩
theorem OE (o:Ob)(A0:Option Addr)(k0:Nat)(A1:Option Addr)(k1:Nat)(s n:List UInt8)(w:World)(hS:ZV w (· < w.heap.size) Zm (o.Z4.map Sc.da) A0)(hT:ZV w (· < w.heap.size) Zv (o.Z7.map Tb.da) A1)(ho:o.Zs 1099511627776):
  Calls Tryz.prog 19 #[.agg #[.slice A0 o.Z4.length k0,.slice A1 o.Z7.length k1],.string (Z9 s),.string (Z9 n)] w fun e w'=> ∃ t' X x Y y er,e= .returned (.tuple #[.agg (Tb.cs t' X x Y y).toArray,.int .i64 er])∧er=QP o s n∧Below w.heap.size w w'∧
   ZV w' (· < w'.heap.size) Zo (t'.ZY.map Cl.da) X∧ZV w' (· < w'.heap.size) YP (t'.ZT.map Ru.da) Y∧(er=0→(∃ i,∃ hi:i<o.Z7.length,Xr o s n=some i∧t'=o.Z7[i])∧X7 w' w.heap.size w'.heap.size (t',X,x,Y,y)):=by
 have HS:=hid hS;have HT:=hid hT;have HO:=hid ho;have htl:=ho.2.1;have HI:=iN 73 5;have HEr:Hid (QP o s n=if YR o=true then(if(Xr o s n).isSome=true then 0 else 61) else 63):=hid rfl;have HE0:Hid (RV o=if YR o=true then 0 else 63):=hid rfl;clear hS hT ho;go_enter Tryz.func19,Tryz.ntmps19
 go_wp2_with fail;refine Zj _ fun W hW=> ?_
 have HB1:=bQ hW;have P1:=nD hW;have Q1:=nF hW;clear hW;refine(UE o A0 k0 A1 k1 W (HS.out.later HB1.out) (HT.out.later HB1.out) HO.out).mono ?_
 rintro e W2 ⟨rfl,hb⟩;have HB2:=bt HB1 hb;have P2:=bl P1 hb;have Q2:=bl Q1 hb;clear hb HB1 P1 Q1;generalize RV o=eo at*
 cases hc:YR o
 ·rw [hc] at HEr HE0;obtain rfl:eo=63:=HE0.out;have HEr':Hid (QP o s n=63):=hid HEr.out;go_wp2_with (first | ((refine sO Q2 HI ?_);intro wS HS) | fail);refine bodyPost_ret (YL rfl _ _ (w.heap.size+1) rfl (hid HS.out.Ym) (n:=5) rfl Tryz.underlying73 rfl HI) rfl ?_
  exact⟨⟨[],[],[],[],[]⟩,none,0,none,0,63,rfl,HEr'.out.symm,HS.out.below HB2.out (by omega),ZV.nil,ZV.nil,fun h=>absurd h (by decide)⟩
 rw [hc] at HEr HE0;obtain rfl:eo=0:=HE0.out;have p0:=ce P2 0;have p1:=ce P2 1;go_wp2_with fail;have cW:=Vm (o.Z4.map Sc.da) (o.Z7.map Tb.da) A0 k0 A1 k1 s n W2 (HT.out.later HB2.out) (by simpa using htl);rw [List.length_map,List.length_map,Vn,UI] at cW;refine cW.mono ?_
 rintro e W3 ⟨rfl,hb⟩;have HB3:=bt HB2 hb;have P3:=bl P2 hb;have Q3:=bl Q2 hb;clear hb cW HB2 P2 Q2 p0 p1
 cases ht:Xr o s n with
 | none=>
  rw [ht] at HEr;have HEr':Hid (QP o s n=61):=hid HEr.out;go_wp2_with (first | ((refine sO Q3 HI ?_);intro wS HS) | fail);refine bodyPost_ret (YL rfl _ _ (w.heap.size+1) rfl (hid HS.out.Ym) (n:=5) rfl Tryz.underlying73 rfl HI) rfl ?_
  exact⟨⟨[],[],[],[],[]⟩,none,0,none,0,61,rfl,HEr'.out.symm,HS.out.below HB3.out (by omega),ZV.nil,ZV.nil,fun h=>absurd h (by decide)⟩
 | some i=>
  rw [ht] at HEr;have HEr':Hid (QP o s n=0):=hid HEr.out;obtain⟨hi,_⟩:=WZ (show o.Z7.findIdx? (fun x=>x.Z8 == s && x.name == n)=some i from ht);have htt:=HO.out.2.2 o.Z7[i] (List.getElem_mem hi);have HX:Hid (∀ t' er,t'=o.Z7[i]→(er=(0:Int)→ ∃ i,∃ hi:i<o.Z7.length,some i=some i∧t'=o.Z7[i])):=hid fun t' er h _=>⟨i,hi,rfl,h⟩
  have HX2:Hid (∀ t',t'=o.Z7[i]→ ∃ i',∃ hi:i'<o.Z7.length,Xr o s n=some i'∧t'=o.Z7[i']):=hid fun t' h=>⟨i,hi,ht,h⟩
  obtain⟨ad,vs,rfl,hv,hr⟩:=(HT.out.later HB3.out).at_ (j:=i) (by simpa using hi);rw [List.getElem_map] at hv;generalize o.Z7[i]=t at*;obtain⟨X,x,Y,y,rfl,hX,hY⟩:=Tb.Y4 hv;have HXr:=hid hX;have HYr:=hid hY;have HTm:=hid htt;have HG:Hid (∀ i' u,(t.cs X x Y y)[i']?=some u→W3.cell? ((ad.add (i*5)).add i')=some u):=hid fun i' u hu=>by rw [ZE];exact hr i' u hu
  clear hv hr hX hY htt;unfold Tb.cs at HG;have HL:Hid ((Tryz.prog.info? 73).map (·.size)=some ([.string (Z9 t.Z8),.string (Z9 t.name),.string (Z9 t.ZN),.slice X t.ZY.length x,.slice Y t.ZT.length y]:List Value).length):=HI;have p1:=ce P3 1;rw [show Xe (some i)=(i:Int) from rfl];have hi1:(0:Int)≤(i:Int):=by omega
  have hi2:(i:Int)< (o.Z7.length:Int):=by omega
  go_wp2_with (first | (with_reducible refine ZH rfl 73 _ rfl (ad.add (i*5)) rfl [.string (Z9 t.Z8),.string (Z9 t.name),.string (Z9 t.ZN),.slice X t.ZY.length x,.slice Y t.ZT.length y] _ HG.out Tryz.underlying73 rfl HL.out ?_) | fail);refine(Ug t X x Y y W3 HXr.out HYr.out HTm.out).mono ?_
  rintro e W4 ⟨X2,x2,Y2,y2,rfl,ht4,hb⟩;have HB4:=bt HB3 hb;have Q4:=bl Q3 hb;have HT4:=hid ht4;have hz4:=hb.size;have HB3':=hid HB3.out.size;have hq4:=Q3.out.lt;clear hb ht4 HB3 P3 Q3 p1;unfold Tb.cs;go_wp2_with (first | ((refine sO Q4 HI ?_);intro wS HS) | fail);refine bodyPost_ret (YL rfl _ _ (w.heap.size+1) rfl (hid HS.out.Ym) (n:=5) rfl Tryz.underlying73 rfl HI) rfl ?_
  have hr:=(HT4.out.keeps HS.out.keeps (by decide) (by decide) (by decide)).rows;exact⟨t,X2,x2,Y2,y2,0,rfl,HEr'.out.symm,HS.out.below HB4.out (by omega),hr.1,hr.2,fun _=>⟨HX2.out t rfl,(HT4.out.keeps HS.out.keeps (by decide) (by decide) (by decide)).mono (by have:=HB3'.out;omega) (by rw [HS.out.size];exact Nat.le_refl _)⟩⟩
end Go.Proofs.YtnhmoibjlakhjaaGreat
namespace Go.Proofs.YtnhmoibjlakhjaaGreat
set_option maxRecDepth 100000
set_option maxHeartbeats 16000000
open Go.RowKit
theorem rt {P:Program}{fn:Func}{t u:Tmp}{ty:TypeId}{tmps:Array Value}{w:World}{b:Nat}{t':TypeId}{cs:List Value}{n:Nat}{d:TypeDesc}(hB:Hid (ZP w b t' cs))(hu:P.underlying ty=some d)(hi:Hid ((P.info? ty).map (·.size)=some n))
  (h:fn.results= #[.cell t ty,.tmp u]:=by exact rfl) (hb:tmps.getD t undef= .pointer (some ⟨b,0,none⟩):=by exact rfl) (hn:cs.length=n:=by exact rfl) (hd:d.isRow=true:=by exact rfl):(results fn tmps).run P w= .ok (.tuple #[.agg cs.toArray,tmps.getD u undef]) w:=
 YL h tmps w b hb hB hn hu hd hi
end Go.Proofs.YtnhmoibjlakhjaaGreat
