/- Lemmas, each under its own conditions. -/
import Derived.Test.YtnhmoibjlakhjaaGreatW19
import Derived.Deep.DeepCutAuto
set_option linter.all false
namespace Go.Proofs.YtnhmoibjlakhjaaGreat
open Go.Proofs.Tryz
open Lib (hid)
set_option maxRecDepth 100000
set_option maxHeartbeats 16000000
open Go.RowKit
def Sj (o:Ob):Int:=if Zc o=true then 0 else 63
theorem OK (o:Ob)(s:lU):(o.Z8.map Tb.da).countP (fun d=>tx d 0 == s)=X9 o s:=by
 unfold X9;rw [List.countP_map,List.countP_eq_length_filter];rfl
def OV (o:Ob)(s:Sc):Bool:=Zw s.name && Zw s.ZN && decide (X9 o s.name<=8)
theorem Vp (o:Ob)(C:oA)(k0:Nat)(O:oA)(k1:Nat)(w:World)(L:rA w Ze (o.Z7.map Sc.da) C)(hT:rA w Zn (o.Z8.map Tb.da) O)(ho:o.Zo 1099511627776):
  cQ 48 #[.agg #[.slice C o.Z7.length k0,.slice O o.Z8.length k1]] w fun e w'=>e= .returned (i6 (Sj o))/\Bw w w':=by
 have HS:=hid L;have V:=hid hT;have HO:=hid ho;have aI:=ho.1;have aB:=ho.2.1;clear L hT ho;have HR:Hid (Zc o=(decide (o.Z7.length<=8) && decide (o.Z8.length<=64) && Zt Xg o.Z8 && Zt Wk o.Z7 && o.Z7.all (OV o) && o.Z8.all (YN o))):=hid rfl;have ap:Hid (Sj o=if Zc o=true then 0 else 63):=hid rfl;generalize Sj o=err at*;generalize Zc o=F at*;have c1:=fun W h=>Lt o.Z8 O k1 W h aB
 have c2:=fun W h=>MQ o.Z7 C k0 W h aI
 generalize Zt Xg o.Z8=p3 at*;generalize Zt Wk o.Z7=p4 at*;have HF:Hid (∃ b,b=(decide (o.Z7.length<=8) && decide (o.Z8.length<=64) && p3 && p4)):=hid ⟨_,rfl⟩;go_enter func48,ntmps48
 go_upto_region 1 with fail
 refine Wh _ fun W0 hW=> ?_
 have I:=bP hW;have G:=nC hW;clear hW;have a0:=ce G 0;have a1:=ce G 1;go_cut [3] (fun v W=> ∃ b,v= .bool b/\Hid (b=(decide (o.Z7.length<=8) && decide (o.Z8.length<=64) && p3))/\Hid (Bw w W)/\Hid (ZP W w.heap.size 26 [sl C o.Z7 k0,sl O o.Z8 k1]))
 case first=>
  by_cases Z:o.Z7.length<=8
  ·have aG:(o.Z7.length:Int)<=8:=by omega
   by_cases h2:o.Z8.length<=64
   ·have aH:(o.Z8.length:Int)<=64:=by omega
    go_wp2_with fail;refine(c1 W0 (V.o.later I.o)).mono ?_
    rintro e W1 ⟨rfl,hb⟩;have ae:=bt I hb;have X1:=bl G hb;clear hb;go_wp2;go_meet
    case rel=>exact⟨p3,rfl,hid (by simp [Z,h2]),ae,X1⟩
   ·have aH: ¬ (o.Z8.length:Int)<=64:=by omega
    go_wp2;go_meet
    case rel=>exact⟨false,rfl,hid (by simp [h2]),I,G⟩
  ·have aG: ¬ (o.Z7.length:Int)<=8:=by omega
   go_wp2;go_meet
   case rel=>exact⟨false,rfl,hid (by simp [Z]),I,G⟩
 case rest=>
 clear a0 a1 I G;obtain⟨b,rfl,HB,I,G⟩:=hcut;go_upto_region 2 with fail
 have a0:=ce G 0;go_cut [3] (fun v W=> ∃ b,v= .bool b/\Hid (b=(decide (o.Z7.length<=8) && decide (o.Z8.length<=64) && p3 && p4))/\Hid (Bw w W)/\Hid (ZP W w.heap.size 26 [sl C o.Z7 k0,sl O o.Z8 k1]))
 case first=>
  cases b
  ·go_wp2;go_meet
   case rel=>exact⟨false,rfl,hid (by rw [<-HB.o];rfl),I,G⟩
  ·go_wp2_with fail;refine(c2 wc (HS.o.later I.o)).mono ?_
   rintro e W1 ⟨rfl,hb⟩;have ae:=bt I hb;have X1:=bl G hb;clear hb;go_wp2;go_meet
   case rel=>exact⟨p4,rfl,hid (by rw [<-HB.o];rfl),ae,X1⟩
 case rest=>
 clear a0 I G HB c1 c2;obtain⟨b,rfl,HB,I,G⟩:=hcut;have M:Hid (F=(b && o.Z7.all (OV o) && o.Z8.all (YN o))):=hid (by rw [HR.o,HB.o]);clear HR HB HF;go_wp2;go_loopw [3,4] (fun v i wr=> ∃ (b:Bool) (j:Nat),j<=o.Z7.length/\v= .bool b/\i=i6 j/\Hid (F=(b && (o.Z7.drop j).all (OV o) && o.Z8.all (YN o)))/\Hid (Bw w wr)/\Hid (ZP wr w.heap.size 26 [sl C o.Z7 k0,sl O o.Z8 k1])) (fun _ i _=>o.Z7.length - (intOf i).toNat)
 case atStart=>exact⟨b,0,Nat.zero_le _,rfl,rfl,hid (by rw [List.drop_zero];exact M.o),I,G⟩
 case round=>
  clear I G M;obtain⟨b,j,hj,rfl,rfl,M,s,u⟩:=hrel
  cases b
  ·have ag:Hid (F=(false && o.Z8.all (YN o))):=hid (by rw [M.o];rfl);clear M;go_wp2;go_loopw [3,6] (fun v i wr=> ∃ (b:Bool) (j:Nat),j<=o.Z8.length/\v= .bool b/\i=i6 j/\Hid (F=(b && (o.Z8.drop j).all (YN o)))/\Hid (Bw w wr)/\Hid (ZP wr w.heap.size 26 [sl C o.Z7 k0,sl O o.Z8 k1])) (fun _ i _=>o.Z8.length - (intOf i).toNat)
   case atStart=>exact⟨false,0,Nat.zero_le _,rfl,rfl,hid (by rw [List.drop_zero];exact ag.o),s,u⟩
   case round=>
    clear s u ag;obtain⟨b,j,hj,rfl,rfl,N,s,u⟩:=hrel
    cases b
    ·obtain rfl:F=false:=N.o;obtain rfl:err=63:=ap.o;go_wp2;go_ret;exact⟨rfl,s.o⟩
    by_cases hlt:j<o.Z8.length
    ·have HQ:Hid (F=(YN o o.Z8[j] && (o.Z8.drop (j+1)).all (YN o))):=hid (by rw [N.o,Bool.true_and,Vi (YN o) o.Z8 j hlt]);have an:=HO.o.2.2 o.Z8[j] (List.getElem_mem hlt);obtain⟨d,vs,e1,J,E⟩:=(V.o.later s.o).at_ (j:=j) (by simpa using hlt);rw [List.getElem_map] at J;generalize o.Z8[j]=t at*;obtain⟨X,x,Y,y,rfl,hX,hY⟩:=Tb.YY J;have au:=hid hX;have aw:=hid hY;have ar:=hid an;have aE:=V;subst e1;have T:=e0 (m:=j*5) E;have f1:=ef (m:=j*5) E 1;have f2:=ef (m:=j*5) E 2;have f3:=ef (m:=j*5) E 3;have f4:=ef (m:=j*5) E 4;clear J E hX hY an;have a0:=ce u 0;have a1:=ce u 1;have aA:(j:Int)< (o.Z8.length:Int):=by omega
     have K:=World.block_lt_of_cell? wr _ T;have ak:=u.o.lt;have ai:Bw wr wr.drew:=Below.drew br;have aa:Hid (∀ w1 U,(fun w'=>Bw wr w'/\w'.cell? (aN w 0)=some (sl C o.Z7 k0)/\w'.cell? (aN w 1)=some (sl (some d) o.Z8 k1)/\w'.cell? (d.add (j*5))=some (sT t.Z9)/\w'.cell? ⟨(d.add (j*5)).block,(d.add (j*5)).off+1,none⟩=some (sT t.name)/\w'.cell? ⟨(d.add (j*5)).block,(d.add (j*5)).off+2,none⟩=some (sT t.ZN)/\w'.cell? ⟨(d.add (j*5)).block,(d.add (j*5)).off+3,none⟩=some (sl X t.Z3 x)/\w'.cell? ⟨(d.add (j*5)).block,(d.add (j*5)).off+4,none⟩=some (sl Y t.ZW y)) w1->Bw w1 U->(fun w'=>Bw wr w'/\w'.cell? (aN w 0)=some (sl C o.Z7 k0)/\w'.cell? (aN w 1)=some (sl (some d) o.Z8 k1)/\w'.cell? (d.add (j*5))=some (sT t.Z9)/\w'.cell? ⟨(d.add (j*5)).block,(d.add (j*5)).off+1,none⟩=some (sT t.name)/\w'.cell? ⟨(d.add (j*5)).block,(d.add (j*5)).off+2,none⟩=some (sT t.ZN)/\w'.cell? ⟨(d.add (j*5)).block,(d.add (j*5)).off+3,none⟩=some (sl X t.Z3 x)/\w'.cell? ⟨(d.add (j*5)).block,(d.add (j*5)).off+4,none⟩=some (sl Y t.ZW y)) U):=hid (by
      intro w1 U ⟨Z,_⟩ h2;have D:Bw wr U:=Z.trans (h2.mono Z.size);exact⟨D,ct a0 D ak,ct a1 D ak,(D.cell (p:=(d.add (j*5))) K).trans T,ct f1 D K,ct f2 D K,ct f3 D K,ct f4 D K⟩)
     have am:Hid (∀ W,Bw wr W->cQ 109 #[.agg #[sl C o.Z7 k0,sl (some d) o.Z8 k1],.agg (t.cs X x Y y).toArray] W fun e w'=>e= .returned (.bool (YN o t))/\Bw W w'):=hid fun W h=>
      NH o C k0 (some d) k1 t X x Y y W (HS.o.later (s.o.trans (h.mono s.o.size))) (V.o.later (s.o.trans (h.mono s.o.size))) (au.o.later h) (aw.o.later h) HO.o ar.o
     unfold Tb.cs at am;generalize YN o t=q at*;go_wp2_with fail;go_region_held_law (fun w'=>Bw wr w'/\w'.cell? (aN w 0)=some (sl C o.Z7 k0)/\w'.cell? (aN w 1)=some (sl (some d) o.Z8 k1)/\w'.cell? (d.add (j*5))=some (sT t.Z9)/\w'.cell? ⟨(d.add (j*5)).block,(d.add (j*5)).off+1,none⟩=some (sT t.name)/\w'.cell? ⟨(d.add (j*5)).block,(d.add (j*5)).off+2,none⟩=some (sT t.ZN)/\w'.cell? ⟨(d.add (j*5)).block,(d.add (j*5)).off+3,none⟩=some (sl X t.Z3 x)/\w'.cell? ⟨(d.add (j*5)).block,(d.add (j*5)).off+4,none⟩=some (sl Y t.ZW y))
      (first | exact aa.o _ _ (by assumption) (by assumption) | exact⟨ai,a0,a1,T,f1,f2,f3,f4⟩)
      (first | (go_at_call 109;refine(am.o _ (by first | exact ai | assumption)).mono ?_;rintro e w' ⟨rfl,hb⟩))
     rename_i L;have ab:=bt s L.1;have ac:=bl u L.1;clear L;go_wp2;go_roundw
     case rel=>exact⟨q,j+1,by omega,rfl,by go_num,HQ,ab,ac⟩
     case measure=>simp [intOf];omega
    ·obtain rfl:j=o.Z8.length:=by omega
     rw [List.drop_length] at N;obtain rfl:F=true:=N.o;obtain rfl:err=0:=ap.o;have a1:=ce u 1;go_wp2;go_ret;exact⟨rfl,s.o⟩
  by_cases hlt:j<o.Z7.length
  ·have a0:=ce u 0;have HQ:Hid (F=(OV o o.Z7[j] && (o.Z7.drop (j+1)).all (OV o) && o.Z8.all (YN o))):=hid (by rw [M.o,Bool.true_and,Vi (OV o) o.Z7 j hlt]);obtain⟨d,vs,rfl,J,E⟩:=(HS.o.later s.o).at_ (j:=j) (by simpa using hlt);rw [List.getElem_map] at J;generalize o.Z7[j]=sc at*;obtain rfl:=Sc.YY J;have T:=e0 (m:=j*2) E;have f1:=ef (m:=j*2) E 1;clear J E M;have aA:(j:Int)< (o.Z7.length:Int):=by omega
   have aq:Hid (OV o sc=(Zw sc.name && Zw sc.ZN && decide (X9 o sc.name<=8))):=hid rfl;generalize OV o sc=q at*;go_wp2_with fail;refine Zi _ fun W1 hW=> ?_
   have ae:=rL hW (s.o.alloc s.o.size _);have ax:=rB hW (u.o.alloc _);have ay:=nC hW;clear hW u s a0 T f1;refine(YI sc.name W1).mono ?_
   rintro e W2 ⟨rfl,m1,rfl⟩;have ab:=hid (below_drewN ae.o m1);have ac:=hid (ax.o.drewN m1);have av:=hid (ay.o.drewN m1);clear ae ax ay;generalize W1.drewN m1=W2 at*;generalize Zw sc.name=n1 at*
   cases n1
   ·have af:Hid (F=(false && (o.Z7.drop (j+1)).all (OV o) && o.Z8.all (YN o))):=hid (by rw [HQ.o,aq.o];rfl);go_wp2;go_roundw
    case rel=>exact⟨false,j+1,by omega,rfl,by go_num,af,ab,ac⟩
    case measure=>simp [intOf];omega
   have b1:=ce av 1;go_wp2_with fail;refine(YI sc.ZN W2).mono ?_
   rintro e W3 ⟨rfl,m2,rfl⟩;have ao:=hid (below_drewN ab.o m2);have ah:=hid (ac.o.drewN m2);have az:=hid (av.o.drewN m2);clear ab ac av b1;generalize W2.drewN m2=W3 at*;generalize Zw sc.ZN=n2 at*
   cases n2
   ·have af:Hid (F=(false && (o.Z7.drop (j+1)).all (OV o) && o.Z8.all (YN o))):=hid (by rw [HQ.o,aq.o];rfl);go_wp2;go_roundw
    case rel=>exact⟨false,j+1,by omega,rfl,by go_num,af,ao,ah⟩
    case measure=>simp [intOf];omega
   have b0:=ce az 0;have a0:=ce ah 0;have a1:=ce ah 1;go_wp2_with fail;have cW:=SB (o.Z7.map Sc.da) (o.Z8.map Tb.da) (some d) k0 O k1 sc.name W3 (V.o.later ao.o) (by simpa using aB);rw [List.length_map,List.length_map,OK] at cW;refine cW.mono ?_
   rintro e W4 ⟨rfl,hb⟩;have aC:=bt ao hb;have aF:=bl ah hb;clear hb cW ao ah az b0 a0 a1;generalize X9 o sc.name=nn at*;have aj:decide (nn<=8)=decide ((nn:Int)<=8):=decide_eq_decide.2 (by omega);have af:Hid (F=(decide ((nn:Int)<=8) && (o.Z7.drop (j+1)).all (OV o) && o.Z8.all (YN o))):=hid (by rw [HQ.o,aq.o,aj];rfl)
   clear aj;go_wp2;go_roundw
   case rel=>exact⟨decide ((nn:Int)<=8),j+1,by omega,rfl,by go_num,af,aC,aF⟩
   case measure=>simp [intOf];omega
  ·have a0:=ce u 0;have ag:Hid (F=(true && o.Z8.all (YN o))):=hid (by
    rw [M.o,List.drop_eq_nil_of_le (by omega)];rfl)
   clear M;go_wp2;go_loopw [3,6] (fun v i wr=> ∃ (b:Bool) (j:Nat),j<=o.Z8.length/\v= .bool b/\i=i6 j/\Hid (F=(b && (o.Z8.drop j).all (YN o)))/\Hid (Bw w wr)/\Hid (ZP wr w.heap.size 26 [sl C o.Z7 k0,sl O o.Z8 k1])) (fun _ i _=>o.Z8.length - (intOf i).toNat)
   case atStart=>exact⟨true,0,Nat.zero_le _,rfl,rfl,hid (by rw [List.drop_zero];exact ag.o),s,u⟩
   case round=>
    clear s u ag;obtain⟨b,j,hj,rfl,rfl,N,s,u⟩:=hrel
    cases b
    ·obtain rfl:F=false:=N.o;obtain rfl:err=63:=ap.o;go_wp2;go_ret;exact⟨rfl,s.o⟩
    by_cases hlt:j<o.Z8.length
    ·have HQ:Hid (F=(YN o o.Z8[j] && (o.Z8.drop (j+1)).all (YN o))):=hid (by rw [N.o,Bool.true_and,Vi (YN o) o.Z8 j hlt]);have an:=HO.o.2.2 o.Z8[j] (List.getElem_mem hlt);obtain⟨d,vs,e1,J,E⟩:=(V.o.later s.o).at_ (j:=j) (by simpa using hlt);rw [List.getElem_map] at J;generalize o.Z8[j]=t at*;obtain⟨X,x,Y,y,rfl,hX,hY⟩:=Tb.YY J;have au:=hid hX;have aw:=hid hY;have ar:=hid an;have aE:=V;subst e1;have T:=e0 (m:=j*5) E;have f1:=ef (m:=j*5) E 1;have f2:=ef (m:=j*5) E 2;have f3:=ef (m:=j*5) E 3;have f4:=ef (m:=j*5) E 4;clear J E hX hY an;have a0:=ce u 0;have a1:=ce u 1;have aA:(j:Int)< (o.Z8.length:Int):=by omega
     have K:=World.block_lt_of_cell? wr _ T;have ak:=u.o.lt;have ai:Bw wr wr.drew:=Below.drew br;have aa:Hid (∀ w1 U,(fun w'=>Bw wr w'/\w'.cell? (aN w 0)=some (sl C o.Z7 k0)/\w'.cell? (aN w 1)=some (sl (some d) o.Z8 k1)/\w'.cell? (d.add (j*5))=some (sT t.Z9)/\w'.cell? ⟨(d.add (j*5)).block,(d.add (j*5)).off+1,none⟩=some (sT t.name)/\w'.cell? ⟨(d.add (j*5)).block,(d.add (j*5)).off+2,none⟩=some (sT t.ZN)/\w'.cell? ⟨(d.add (j*5)).block,(d.add (j*5)).off+3,none⟩=some (sl X t.Z3 x)/\w'.cell? ⟨(d.add (j*5)).block,(d.add (j*5)).off+4,none⟩=some (sl Y t.ZW y)) w1->Bw w1 U->(fun w'=>Bw wr w'/\w'.cell? (aN w 0)=some (sl C o.Z7 k0)/\w'.cell? (aN w 1)=some (sl (some d) o.Z8 k1)/\w'.cell? (d.add (j*5))=some (sT t.Z9)/\w'.cell? ⟨(d.add (j*5)).block,(d.add (j*5)).off+1,none⟩=some (sT t.name)/\w'.cell? ⟨(d.add (j*5)).block,(d.add (j*5)).off+2,none⟩=some (sT t.ZN)/\w'.cell? ⟨(d.add (j*5)).block,(d.add (j*5)).off+3,none⟩=some (sl X t.Z3 x)/\w'.cell? ⟨(d.add (j*5)).block,(d.add (j*5)).off+4,none⟩=some (sl Y t.ZW y)) U):=hid (by
      intro w1 U ⟨Z,_⟩ h2;have D:Bw wr U:=Z.trans (h2.mono Z.size);exact⟨D,ct a0 D ak,ct a1 D ak,(D.cell (p:=(d.add (j*5))) K).trans T,ct f1 D K,ct f2 D K,ct f3 D K,ct f4 D K⟩)
     have am:Hid (∀ W,Bw wr W->cQ 109 #[.agg #[sl C o.Z7 k0,sl (some d) o.Z8 k1],.agg (t.cs X x Y y).toArray] W fun e w'=>e= .returned (.bool (YN o t))/\Bw W w'):=hid fun W h=>
      NH o C k0 (some d) k1 t X x Y y W (HS.o.later (s.o.trans (h.mono s.o.size))) (V.o.later (s.o.trans (h.mono s.o.size))) (au.o.later h) (aw.o.later h) HO.o ar.o
     unfold Tb.cs at am;generalize YN o t=q at*;go_wp2_with fail;go_region_held_law (fun w'=>Bw wr w'/\w'.cell? (aN w 0)=some (sl C o.Z7 k0)/\w'.cell? (aN w 1)=some (sl (some d) o.Z8 k1)/\w'.cell? (d.add (j*5))=some (sT t.Z9)/\w'.cell? ⟨(d.add (j*5)).block,(d.add (j*5)).off+1,none⟩=some (sT t.name)/\w'.cell? ⟨(d.add (j*5)).block,(d.add (j*5)).off+2,none⟩=some (sT t.ZN)/\w'.cell? ⟨(d.add (j*5)).block,(d.add (j*5)).off+3,none⟩=some (sl X t.Z3 x)/\w'.cell? ⟨(d.add (j*5)).block,(d.add (j*5)).off+4,none⟩=some (sl Y t.ZW y))
      (first | exact aa.o _ _ (by assumption) (by assumption) | exact⟨ai,a0,a1,T,f1,f2,f3,f4⟩)
      (first | (go_at_call 109;refine(am.o _ (by first | exact ai | assumption)).mono ?_;rintro e w' ⟨rfl,hb⟩))
     rename_i L;have ab:=bt s L.1;have ac:=bl u L.1;clear L;go_wp2;go_roundw
     case rel=>exact⟨q,j+1,by omega,rfl,by go_num,HQ,ab,ac⟩
     case measure=>simp [intOf];omega
    ·obtain rfl:j=o.Z8.length:=by omega
     rw [List.drop_length] at N;obtain rfl:F=true:=N.o;obtain rfl:err=0:=ap.o;have a1:=ce u 1;go_wp2;go_ret;exact⟨rfl,s.o⟩
section
variable {α β : Type} {enc : α -> List Value} {k : Nat}
theorem Zm (d: ∀ x,(enc x).length=k): ∀ l:List α,(l.flatMap enc).length=l.length*k
 | []=>by simp
 | a ::l=>by
  rw [List.flatMap_cons,List.length_append,d,Zm d l,List.length_cons,Nat.add_mul,Nat.one_mul];omega
theorem Zl (s: ∀ x,(enc x).length=k): ∀ (l:List α)(j i:Nat)(m:j<l.length)(d:i<k),(l.flatMap enc)[j*k+i]?=(enc l[j])[i]?
 | [],j,i,m,d=>absurd m (by simp)
 | a ::l,0,i,m,d=>by
  rw [List.flatMap_cons,Nat.zero_mul,Nat.zero_add,List.getElem?_append_left (by rw [s];exact d)];rfl
 | a ::l,j+1,i,m,d=>by
  have h:=Zl s l j i (by simpa using m) d;rw [List.flatMap_cons,List.getElem?_append_right (by rw [s,Nat.add_mul,Nat.one_mul];omega),s,List.getElem_cons_succ,<-h]
  congr 1
  rw [Nat.add_mul,Nat.one_mul];omega
theorem Hy (E: ∀ x,(enc x).length=k)(l:List α)(i:Nat)(u:Value)(h:(l.flatMap enc)[i]?=some u): ∃ j s,∃ m:j<l.length,s<k/\i=j*k+s/\(enc l[j])[s]?=some u:=by
 have G:i<l.length*k:=by
  rw [<-Zm E];exact(List.getElem?_eq_some_iff.1 h).1
 have F:0<k:=by
  rcases Nat.eq_zero_or_pos k with d | d
  ·subst d;simp at G
  ·exact d
 have m:i / k<l.length:=Nat.div_lt_of_lt_mul (by rwa [Nat.mul_comm]);have D:=Nat.mod_lt i F;have C:i=i / k*k+i % k:=by rw [Nat.mul_comm];exact(Nat.div_add_mod i k).symm
 refine⟨i / k,i % k,m,D,C,?_⟩
 rw [<-Zl E l _ _ m D,<-C];exact h
theorem Yg (h: ∀ x,∀ v∈enc x,v.oneCell'=true)(l:List α): ∀ v∈l.flatMap enc,v.oneCell'=true:=by
 intro v d;obtain⟨a,_,d⟩:=List.mem_flatMap.1 d;exact h a v d
def Zj (w:World)(B:Nat)(A:Option Addr)(enc:α->List Value)(l:List α):Prop:=
 0<l.length-> ∃ ad,A=some ad/\ad.block<B/\ ∀ (i:Nat) (u:Value),(l.flatMap enc)[i]?=some u->w.cell? (ad.add i)=some u
theorem Zj.below {w w':World}{B:Nat}{A:Option Addr}{l:List α}(h:Zj w B A enc l)(hb:Below B w w'):Zj w' B A enc l:=fun m=>by
 obtain⟨j,e,d,h⟩:=h m;exact⟨j,e,d,fun i u s=>(hb.cell (by rw [ZL];exact d)).trans (h i u s)⟩
theorem Zj.later {w w':World}{A:Option Addr}{l:List α}(h:Zj w w.heap.size A enc l)(hb:Below w.heap.size w w'):Zj w' w'.heap.size A enc l:=fun m=>by
 obtain⟨d,e,j,h⟩:=h.below hb m;exact⟨d,e,Nat.lt_of_lt_of_le j hb.size,h⟩
theorem NQ {P:Nat->α->Prop} : ∀ (n:Nat),(∀ j,j<n-> ∃ a,P j a)-> ∃ l:List α,l.length=n/\ ∀ (j:Nat)(h:j<l.length),P j l[j]
 | 0,_=>⟨[],rfl,fun j h=>absurd h (by simp)⟩
 | n+1,h=>by
  obtain⟨l,m,u⟩:=NQ n fun j d=>h j (by omega)
  obtain⟨a,C⟩:=h n (by omega);refine⟨l ++ [a],by simp [m],fun j d=> ?_⟩
  by_cases hlt:j<l.length
  ·rw [List.getElem_append_left hlt];exact u j hlt
  ·have s:j=l.length:=by simp at d;omega
   subst s;rw [List.getElem_append_right lr];simp only [Nat.sub_self,List.getElem_cons_zero];rw [m];exact C
theorem WF {w:World}{B:Nat}{sh:List Sh}{A:Option Addr}(da:β->List Da)(D:α->β)(C:α->Prop)(L: ∀ x I,ZE w (· < B) sh (da x) I-> ∃ a,D a=x/\I=enc a/\C a)
  (U: ∀ x,(enc x).length=sh.length) {l0:List β} (h:ZT w (· < B) sh (l0.map da) A): ∃ l:List α,l.map D=l0/\Zj w B A enc l/\ ∀ a∈l,C a:=by
 rcases Nat.eq_zero_or_pos l0.length with E | E
 ·obtain rfl:=List.eq_nil_of_length_eq_zero E;exact⟨[],rfl,fun Z=>absurd Z (by simp),fun a s=>absurd s (by simp)⟩
 obtain⟨J,rfl,N,O⟩:=h (by simpa using E);obtain⟨l,V,G⟩:=NQ (P:=fun j a=> ∃ d:j<l0.length,D a=l0[j]/\C a/\ ∀ (i:Nat) (u:Value),(enc a)[i]?=some u->w.cell? (J.add (j*sh.length+i))=some u) l0.length (by
  intro j d;obtain⟨I,F,K⟩:=O j (da l0[j]) (by simp [d]);obtain⟨a,s,rfl,T⟩:=L _ _ F;exact⟨a,d,s,T,K⟩)
 refine⟨l,?_,fun _=>⟨J,rfl,N,fun i u hu=> ?_⟩,fun a s=> ?_⟩
 ·apply List.ext_getElem
  ·simpa using V
  ·intro j F K;rw [List.getElem_map];obtain⟨_,m,_⟩:=G j (by simpa using F);exact m
 ·obtain⟨j,i',d,hi',rfl,M⟩:=Hy U l i u hu;obtain⟨_,_,_,m⟩:=G j d;exact m i' u M
 ·obtain⟨j,d,rfl⟩:=List.getElem_of_mem s;obtain⟨_,_,m,_⟩:=G j d;exact m
theorem Ye {w:World}{base c n:Nat}{T:TypeId}{sh:List Sh}{A:Option Addr}{S:Nat->Prop}(da:β->List Da)(C:α->β)(D: ∀ x,(enc x).length=sh.length){l:List α}(h:w.ownsRow base T sh.length (.slice A n c) n (l.flatMap enc))(hn:n=l.length)
  (K: ∀ a∈l,ZE w S sh (da (C a)) (enc a)):ZT w (fun g=>S g∨Nw w base [T] g) sh ((l.map C).map da) A:=by
 intro I;have U:0<l.length:=by simpa using I
 obtain⟨g,cap,N,_,V⟩:=h.form (by omega);have J:A=some ⟨g,0,none⟩:=by injection N
 subst J;refine⟨_,rfl,Or.inr ?_,fun j d hd=> ?_⟩
 ·rcases h.2 with ⟨h1,_⟩ | ⟨Z,O,F,m,G,L,_⟩
  ·omega
  ·injection m with m
   injection m with m
   injection m with m
   subst m;exact⟨G,T,by simp,F,L⟩
 ·rw [List.getElem?_map,List.getElem?_map] at hd
  cases hj:l[j]? with
  | none=>rw [hj] at hd;simp at hd
  | some a=>
   rw [hj] at hd;simp only [Option.map_some,Option.some.injEq] at hd;subst hd;obtain⟨s,rfl⟩:=List.getElem?_eq_some_iff.1 hj
   refine⟨enc l[j],ZE.YW (fun _ h=>Or.inl h) (fun _ _=>rfl) _ _ _ (K _ (List.getElem_mem s)),fun i u E=> ?_⟩
   have M:i<sh.length:=by rw [<-D l[j]];exact(List.getElem?_eq_some_iff.1 E).1
   exact h.cells (g:=g) rfl _ u (by rw [Zl D l j i s M];exact E)
theorem YS {w:World}{base c n:Nat}{T:TypeId}{A:Option Addr}{l:List α}(h:w.ownsRow base T k (.slice A n c) n (l.flatMap enc))(D:n=l.length):Zj w w.heap.size A enc l:=by
 intro C;obtain⟨g,cap,s,_,d⟩:=h.form (by omega);have j:A=some ⟨g,0,none⟩:=by injection s
 subst j;exact⟨_,rfl,d,fun i u m=>h.cells (g:=g) rfl _ u m⟩
end
theorem Zb {P:Program}{w:World}{ops:Array Oper}{rest:List Oper}{o:Oper}{a:Act}{Q:Exit->Act->World->Prop}(T:o.guard=none)(s x:Operand)(t:TypeId)
  (ho:o.op= .call { callee:= .builtin .append,args:= #[s,x],argTypes:= #[t,t]})
  (base:Nat) (e:TypeId) (i:TypeInfo) (z:Value) (size bytes:Nat) (ht:P.underlying t=some (.slice e)) (hi:P.info? e=some i) (hz:i.zero=some z)
  (J:i.size=size) (O:i.bytes=bytes) (V:z.cells.size=size) (U:0<size)
  (v:Value) (n:Nat) (xs:List Value) (hs:a.eval s=v) (L:w.ownsRow base e size v n xs)
  (D:Addr) (m c:Nat) (news:List Value) (hx:a.eval x= .slice (some D) m c) (hl:news.length=m*size) (I: ∀ j u,news[j]?=some u->w.cell? (D.add j)=some u) (Z: ∀ u∈news,u.oneCell'=true)
  (N:n+m<=maxLen) (F:(n+m)*bytes<=140737488355328) (G:base<=w.heap.size)
  (h: ∀ d C w',Hid (w'.ownsRow base e size (.slice d (n+m) C) (n+m) (xs ++news))->Hid (w.grownBy w' v.ownBlock)->wpList P ops Q rest (a.put o.dst (.slice d (n+m) C)) w'):wpList P ops Q (o ::rest) a w:=by
 refine wpList_plain T fun K hK=> ?_
 obtain⟨v',w',M,E,h3,_⟩:=run_append_own (P:=P) w base t o.type e i z size bytes ht hi hz J O V U v n xs L D m c news hl I Z N F G;unfold Oper.wp execOp;simp only [ho,resolve,invoke,builtin,Sem.run_bind,Sem.run_pure,Result.andThen_ok,List.map_toArray,List.map_cons,List.map_nil,hs,hx,M];obtain⟨d,C,rfl⟩:=WH E;exact hK _ _ (h d C w' E h3)
abbrev YH:=Ru×oA×Nat
def YH.cs (r:YH):lV:=r.1.cs r.2.1 r.2.2
abbrev YX:=Tb×oA×Nat×oA×Nat
def YX.cs (t:YX):lV:=t.1.cs t.2.1 t.2.2.1 t.2.2.2.1 t.2.2.2.2
def Yy (b:lU):lV:= [sT b]
theorem Sc.k (x:Sc):(Sc.cs x).length=2:=rfl
theorem Cl.k (x:Cl):(Cl.cs x).length=3:=rfl
theorem YH.k (x:YH):(YH.cs x).length=8:=rfl
theorem YX.k (x:YX):(YX.cs x).length=5:=rfl
theorem Mb.k (x:Mb):(Mb.cs x).length=2:=rfl
theorem Gr.k (x:Gr):(Gr.cs x).length=6:=rfl
theorem Yy.k (x:lU):(Yy x).length=1:=rfl
theorem Sc.one (x:Sc): ∀ v∈Sc.cs x,v.oneCell'=true:=by simp [Sc.cs,Value.oneCell']
theorem Cl.one (x:Cl): ∀ v∈Cl.cs x,v.oneCell'=true:=by simp [Cl.cs,Value.oneCell']
theorem YH.one (x:YH): ∀ v∈YH.cs x,v.oneCell'=true:=by simp [YH.cs,Ru.cs,Value.oneCell']
theorem YX.one (x:YX): ∀ v∈YX.cs x,v.oneCell'=true:=by simp [YX.cs,Tb.cs,Value.oneCell']
theorem Mb.one (x:Mb): ∀ v∈Mb.cs x,v.oneCell'=true:=by simp [Mb.cs,Value.oneCell']
theorem Gr.one (x:Gr): ∀ v∈Gr.cs x,v.oneCell'=true:=by simp [Gr.cs,Value.oneCell']
theorem Yy.one (x:lU): ∀ v∈Yy x,v.oneCell'=true:=by simp [Yy,Value.oneCell']
theorem Xv {α:Type}{w:World}{base:Nat}{T:TypeId}{k:Nat}(enc:α->lV):w.ownsRow base T k (sN) ([]:List α).length (([]:List α).flatMap enc):=World.ownsRow_nil _ _ _ _
theorem TF:(prog.info? 89).map (fun i=>(i.zero,i.size,i.bytes))=some (some (.agg #[s0,s0]),2,32):=by kernel_rfl
theorem Um (A:oA)(c:Nat)(l:List Sc)(w:World)(h:Zj w w.heap.size A Sc.cs l)(hl:l.length<=1099511627776):
  cQ 74 #[.slice A l.length c] w fun e w'=> ∃ C D,e= .returned (.slice C l.length D)/\w'.ownsRow w.heap.size 89 2 (.slice C l.length D) l.length (l.flatMap Sc.cs)/\Bw w w':=by
 obtain⟨i0,J,K,L,M⟩:=info_parts TF;have m:=hid h;clear h
 cases A with
 | none=>
  obtain rfl:l= []:=by
   rcases Nat.eq_zero_or_pos l.length with d | d
   ·exact List.eq_nil_of_length_eq_zero d
   ·obtain⟨j,s,_⟩:=m.o d
    cases s
  have kn: ∀ w,(binOp .eql 23 (.slice none 0 c) (.slice none 0 0)).run prog w= .ok (.bool true) w:=fun w=>Lib.run_eql_slice_nil w _ _ _ _ _ _ _ underlying23
  go_enter func74,ntmps74
  go_wp2;go_ret;exact⟨none,0,rfl,Xv _,Below.refl _ _⟩
 | some j=>
  have kn: ∀ w,(binOp .eql 23 (.slice (some j) l.length c) (.slice none 0 0)).run prog w= .ok (.bool false) w:=fun w=>Lib.run_eql_slice_nil w _ _ _ _ _ _ _ underlying23
  have U:Hid (∀ (i:Nat) (u:Value),(l.flatMap Sc.cs)[i]?=some u->(w.alloc (.cells #[] 89)).cell? (j.add i)=some u):=hid (by
   intro i u E;have d:0<l.length:=by
    have:=(List.getElem?_eq_some_iff.1 E).1;rw [Zm Sc.k] at this;rcases Nat.eq_zero_or_pos l.length with d | d
    ·rw [d] at this;omega
    ·exact d
   obtain⟨aa,e,V,s⟩:=m.o d;injection e with e
   subst e;rw [World.cell?_alloc_lt w _ _ (by rw [ZL];exact V)];exact s i u E)
  have O:=hid (Zm Sc.k l);have T:=hid (Yg Sc.one l);clear m;generalize l.flatMap Sc.cs=xs at*;generalize l.length=n at*;go_enter func74,ntmps74
  go_wp2_with (at_builtin;refine Zb rfl _ _ _ rfl w.heap.size 89 i0 _ 2 32 underlying23 J K L M rfl (by decide) (.slice (some (aD w.heap.size 0)) 0 0) 0 [] rfl (WV w _ _ _ lr) j n c xs rfl O.o U.o T.o (by unfold maxLen;omega) (by omega) (by simp) ?_;intro N c3 w3 G I);have F:Hid (Bw w w3):=hid (Below.grown ((Below.refl w.heap.size w).alloc lr _) I.o (by simp) (fun k Z=>by simp [Value.ownBlock] at Z;omega))
  go_ret;refine⟨N,c3,rfl,?_,F.o⟩
  have h:=G.o;rwa [Nat.zero_add,List.nil_append] at h
theorem TH:(prog.info? 119).map (fun i=>(i.zero,i.size,i.bytes))=some (some (.agg #[s0,i6 0,.bool false]),3,32):=by kernel_rfl
theorem Sp (A:oA)(c:Nat)(l:List Cl)(w:World)(h:Zj w w.heap.size A Cl.cs l)(hl:l.length<=1099511627776):
  cQ 75 #[.slice A l.length c] w fun e w'=> ∃ C D,e= .returned (.slice C l.length D)/\w'.ownsRow w.heap.size 119 3 (.slice C l.length D) l.length (l.flatMap Cl.cs)/\Bw w w':=by
 obtain⟨i0,J,K,L,M⟩:=info_parts TH;have m:=hid h;clear h
 cases A with
 | none=>
  obtain rfl:l= []:=by
   rcases Nat.eq_zero_or_pos l.length with d | d
   ·exact List.eq_nil_of_length_eq_zero d
   ·obtain⟨j,s,_⟩:=m.o d
    cases s
  have kn: ∀ w,(binOp .eql 37 (.slice none 0 c) (.slice none 0 0)).run prog w= .ok (.bool true) w:=fun w=>Lib.run_eql_slice_nil w _ _ _ _ _ _ _ underlying37
  go_enter func75,ntmps75
  go_wp2;go_ret;exact⟨none,0,rfl,Xv _,Below.refl _ _⟩
 | some j=>
  have kn: ∀ w,(binOp .eql 37 (.slice (some j) l.length c) (.slice none 0 0)).run prog w= .ok (.bool false) w:=fun w=>Lib.run_eql_slice_nil w _ _ _ _ _ _ _ underlying37
  have U:Hid (∀ (i:Nat) (u:Value),(l.flatMap Cl.cs)[i]?=some u->(w.alloc (.cells #[] 119)).cell? (j.add i)=some u):=hid (by
   intro i u E;have d:0<l.length:=by
    have:=(List.getElem?_eq_some_iff.1 E).1;rw [Zm Cl.k] at this;rcases Nat.eq_zero_or_pos l.length with d | d
    ·rw [d] at this;omega
    ·exact d
   obtain⟨aa,e,V,s⟩:=m.o d;injection e with e
   subst e;rw [World.cell?_alloc_lt w _ _ (by rw [ZL];exact V)];exact s i u E)
  have O:=hid (Zm Cl.k l);have T:=hid (Yg Cl.one l);clear m;generalize l.flatMap Cl.cs=xs at*;generalize l.length=n at*;go_enter func75,ntmps75
  go_wp2_with (at_builtin;refine Zb rfl _ _ _ rfl w.heap.size 119 i0 _ 3 32 underlying37 J K L M rfl (by decide) (.slice (some (aD w.heap.size 0)) 0 0) 0 [] rfl (WV w _ _ _ lr) j n c xs rfl O.o U.o T.o (by unfold maxLen;omega) (by omega) (by simp) ?_;intro N c3 w3 G I);have F:Hid (Bw w w3):=hid (Below.grown ((Below.refl w.heap.size w).alloc lr _) I.o (by simp) (fun k Z=>by simp [Value.ownBlock] at Z;omega))
  go_ret;refine⟨N,c3,rfl,?_,F.o⟩
  have h:=G.o;rwa [Nat.zero_add,List.nil_append] at h
theorem Tl:(prog.info? 40).map (fun i=>(i.zero,i.size,i.bytes))=some (some (.agg #[s0,i6 0,sN,i6 0,i6 0,s0,s0,s0]),8,112):=by kernel_rfl
theorem SN (A:oA)(c:Nat)(l:List YH)(w:World)(h:Zj w w.heap.size A YH.cs l)(hl:l.length<=1099511627776):
  cQ 76 #[.slice A l.length c] w fun e w'=> ∃ C D,e= .returned (.slice C l.length D)/\w'.ownsRow w.heap.size 40 8 (.slice C l.length D) l.length (l.flatMap YH.cs)/\Bw w w':=by
 obtain⟨i0,J,K,L,M⟩:=info_parts Tl;have m:=hid h;clear h
 cases A with
 | none=>
  obtain rfl:l= []:=by
   rcases Nat.eq_zero_or_pos l.length with d | d
   ·exact List.eq_nil_of_length_eq_zero d
   ·obtain⟨j,s,_⟩:=m.o d
    cases s
  have kn: ∀ w,(binOp .eql 71 (.slice none 0 c) (.slice none 0 0)).run prog w= .ok (.bool true) w:=fun w=>Lib.run_eql_slice_nil w _ _ _ _ _ _ _ underlying71
  go_enter func76,ntmps76
  go_wp2;go_ret;exact⟨none,0,rfl,Xv _,Below.refl _ _⟩
 | some j=>
  have kn: ∀ w,(binOp .eql 71 (.slice (some j) l.length c) (.slice none 0 0)).run prog w= .ok (.bool false) w:=fun w=>Lib.run_eql_slice_nil w _ _ _ _ _ _ _ underlying71
  have U:Hid (∀ (i:Nat) (u:Value),(l.flatMap YH.cs)[i]?=some u->(w.alloc (.cells #[] 40)).cell? (j.add i)=some u):=hid (by
   intro i u E;have d:0<l.length:=by
    have:=(List.getElem?_eq_some_iff.1 E).1;rw [Zm YH.k] at this;rcases Nat.eq_zero_or_pos l.length with d | d
    ·rw [d] at this;omega
    ·exact d
   obtain⟨aa,e,V,s⟩:=m.o d;injection e with e
   subst e;rw [World.cell?_alloc_lt w _ _ (by rw [ZL];exact V)];exact s i u E)
  have O:=hid (Zm YH.k l);have T:=hid (Yg YH.one l);clear m;generalize l.flatMap YH.cs=xs at*;generalize l.length=n at*;go_enter func76,ntmps76
  go_wp2_with (at_builtin;refine Zb rfl _ _ _ rfl w.heap.size 40 i0 _ 8 112 underlying71 J K L M rfl (by decide) (.slice (some (aD w.heap.size 0)) 0 0) 0 [] rfl (WV w _ _ _ lr) j n c xs rfl O.o U.o T.o (by unfold maxLen;omega) (by omega) (by simp) ?_;intro N c3 w3 G I);have F:Hid (Bw w w3):=hid (Below.grown ((Below.refl w.heap.size w).alloc lr _) I.o (by simp) (fun k Z=>by simp [Value.ownBlock] at Z;omega))
  go_ret;refine⟨N,c3,rfl,?_,F.o⟩
  have h:=G.o;rwa [Nat.zero_add,List.nil_append] at h
theorem Vc:(prog.info? 73).map (fun i=>(i.zero,i.size,i.bytes))=some (some (.agg #[s0,s0,s0,sN,sN]),5,96):=by kernel_rfl
theorem Mr (A:oA)(c:Nat)(l:List YX)(w:World)(h:Zj w w.heap.size A YX.cs l)(hl:l.length<=1099511627776):
  cQ 251 #[.slice A l.length c] w fun e w'=> ∃ C D,e= .returned (.slice C l.length D)/\w'.ownsRow w.heap.size 73 5 (.slice C l.length D) l.length (l.flatMap YX.cs)/\Bw w w':=by
 obtain⟨i0,J,K,L,M⟩:=info_parts Vc;have m:=hid h;clear h
 cases A with
 | none=>
  obtain rfl:l= []:=by
   rcases Nat.eq_zero_or_pos l.length with d | d
   ·exact List.eq_nil_of_length_eq_zero d
   ·obtain⟨j,s,_⟩:=m.o d
    cases s
  have kn: ∀ w,(binOp .eql 24 (.slice none 0 c) (.slice none 0 0)).run prog w= .ok (.bool true) w:=fun w=>Lib.run_eql_slice_nil w _ _ _ _ _ _ _ underlying24
  go_enter func251,ntmps251
  go_wp2;go_ret;exact⟨none,0,rfl,Xv _,Below.refl _ _⟩
 | some j=>
  have kn: ∀ w,(binOp .eql 24 (.slice (some j) l.length c) (.slice none 0 0)).run prog w= .ok (.bool false) w:=fun w=>Lib.run_eql_slice_nil w _ _ _ _ _ _ _ underlying24
  have U:Hid (∀ (i:Nat) (u:Value),(l.flatMap YX.cs)[i]?=some u->(w.alloc (.cells #[] 73)).cell? (j.add i)=some u):=hid (by
   intro i u E;have d:0<l.length:=by
    have:=(List.getElem?_eq_some_iff.1 E).1;rw [Zm YX.k] at this;rcases Nat.eq_zero_or_pos l.length with d | d
    ·rw [d] at this;omega
    ·exact d
   obtain⟨aa,e,V,s⟩:=m.o d;injection e with e
   subst e;rw [World.cell?_alloc_lt w _ _ (by rw [ZL];exact V)];exact s i u E)
  have O:=hid (Zm YX.k l);have T:=hid (Yg YX.one l);clear m;generalize l.flatMap YX.cs=xs at*;generalize l.length=n at*;go_enter func251,ntmps251
  go_wp2_with (at_builtin;refine Zb rfl _ _ _ rfl w.heap.size 73 i0 _ 5 96 underlying24 J K L M rfl (by decide) (.slice (some (aD w.heap.size 0)) 0 0) 0 [] rfl (WV w _ _ _ lr) j n c xs rfl O.o U.o T.o (by unfold maxLen;omega) (by omega) (by simp) ?_;intro N c3 w3 G I);have F:Hid (Bw w w3):=hid (Below.grown ((Below.refl w.heap.size w).alloc lr _) I.o (by simp) (fun k Z=>by simp [Value.ownBlock] at Z;omega))
  go_ret;refine⟨N,c3,rfl,?_,F.o⟩
  have h:=G.o;rwa [Nat.zero_add,List.nil_append] at h
theorem TG:(prog.info? 147).map (fun i=>(i.zero,i.size,i.bytes))=some (some (.agg #[s0,s0]),2,32):=by kernel_rfl
theorem Xc (A:oA)(c:Nat)(l:List Mb)(w:World)(h:Zj w w.heap.size A Mb.cs l)(hl:l.length<=1099511627776):
  cQ 78 #[.slice A l.length c] w fun e w'=> ∃ C D,e= .returned (.slice C l.length D)/\w'.ownsRow w.heap.size 147 2 (.slice C l.length D) l.length (l.flatMap Mb.cs)/\Bw w w':=by
 obtain⟨i0,J,K,L,M⟩:=info_parts TG;have m:=hid h;clear h
 cases A with
 | none=>
  obtain rfl:l= []:=by
   rcases Nat.eq_zero_or_pos l.length with d | d
   ·exact List.eq_nil_of_length_eq_zero d
   ·obtain⟨j,s,_⟩:=m.o d
    cases s
  have kn: ∀ w,(binOp .eql 28 (.slice none 0 c) (.slice none 0 0)).run prog w= .ok (.bool true) w:=fun w=>Lib.run_eql_slice_nil w _ _ _ _ _ _ _ underlying28
  go_enter func78,ntmps78
  go_wp2;go_ret;exact⟨none,0,rfl,Xv _,Below.refl _ _⟩
 | some j=>
  have kn: ∀ w,(binOp .eql 28 (.slice (some j) l.length c) (.slice none 0 0)).run prog w= .ok (.bool false) w:=fun w=>Lib.run_eql_slice_nil w _ _ _ _ _ _ _ underlying28
  have U:Hid (∀ (i:Nat) (u:Value),(l.flatMap Mb.cs)[i]?=some u->(w.alloc (.cells #[] 147)).cell? (j.add i)=some u):=hid (by
   intro i u E;have d:0<l.length:=by
    have:=(List.getElem?_eq_some_iff.1 E).1;rw [Zm Mb.k] at this;rcases Nat.eq_zero_or_pos l.length with d | d
    ·rw [d] at this;omega
    ·exact d
   obtain⟨aa,e,V,s⟩:=m.o d;injection e with e
   subst e;rw [World.cell?_alloc_lt w _ _ (by rw [ZL];exact V)];exact s i u E)
  have O:=hid (Zm Mb.k l);have T:=hid (Yg Mb.one l);clear m;generalize l.flatMap Mb.cs=xs at*;generalize l.length=n at*;go_enter func78,ntmps78
  go_wp2_with (at_builtin;refine Zb rfl _ _ _ rfl w.heap.size 147 i0 _ 2 32 underlying28 J K L M rfl (by decide) (.slice (some (aD w.heap.size 0)) 0 0) 0 [] rfl (WV w _ _ _ lr) j n c xs rfl O.o U.o T.o (by unfold maxLen;omega) (by omega) (by simp) ?_;intro N c3 w3 G I);have F:Hid (Bw w w3):=hid (Below.grown ((Below.refl w.heap.size w).alloc lr _) I.o (by simp) (fun k Z=>by simp [Value.ownBlock] at Z;omega))
  go_ret;refine⟨N,c3,rfl,?_,F.o⟩
  have h:=G.o;rwa [Nat.zero_add,List.nil_append] at h
theorem Ug:(prog.info? 53).map (fun i=>(i.zero,i.size,i.bytes))=some (some (.agg #[s0,s0,i6 0,s0,s0,.bool false]),6,80):=by kernel_rfl
theorem UT (A:oA)(c:Nat)(l:List Gr)(w:World)(h:Zj w w.heap.size A Gr.cs l)(hl:l.length<=1099511627776):
  cQ 79 #[.slice A l.length c] w fun e w'=> ∃ C D,e= .returned (.slice C l.length D)/\w'.ownsRow w.heap.size 53 6 (.slice C l.length D) l.length (l.flatMap Gr.cs)/\Bw w w':=by
 obtain⟨i0,J,K,L,M⟩:=info_parts Ug;have m:=hid h;clear h
 cases A with
 | none=>
  obtain rfl:l= []:=by
   rcases Nat.eq_zero_or_pos l.length with d | d
   ·exact List.eq_nil_of_length_eq_zero d
   ·obtain⟨j,s,_⟩:=m.o d
    cases s
  have kn: ∀ w,(binOp .eql 31 (.slice none 0 c) (.slice none 0 0)).run prog w= .ok (.bool true) w:=fun w=>Lib.run_eql_slice_nil w _ _ _ _ _ _ _ underlying31
  go_enter func79,ntmps79
  go_wp2;go_ret;exact⟨none,0,rfl,Xv _,Below.refl _ _⟩
 | some j=>
  have kn: ∀ w,(binOp .eql 31 (.slice (some j) l.length c) (.slice none 0 0)).run prog w= .ok (.bool false) w:=fun w=>Lib.run_eql_slice_nil w _ _ _ _ _ _ _ underlying31
  have U:Hid (∀ (i:Nat) (u:Value),(l.flatMap Gr.cs)[i]?=some u->(w.alloc (.cells #[] 53)).cell? (j.add i)=some u):=hid (by
   intro i u E;have d:0<l.length:=by
    have:=(List.getElem?_eq_some_iff.1 E).1;rw [Zm Gr.k] at this;rcases Nat.eq_zero_or_pos l.length with d | d
    ·rw [d] at this;omega
    ·exact d
   obtain⟨aa,e,V,s⟩:=m.o d;injection e with e
   subst e;rw [World.cell?_alloc_lt w _ _ (by rw [ZL];exact V)];exact s i u E)
  have O:=hid (Zm Gr.k l);have T:=hid (Yg Gr.one l);clear m;generalize l.flatMap Gr.cs=xs at*;generalize l.length=n at*;go_enter func79,ntmps79
  go_wp2_with (at_builtin;refine Zb rfl _ _ _ rfl w.heap.size 53 i0 _ 6 80 underlying31 J K L M rfl (by decide) (.slice (some (aD w.heap.size 0)) 0 0) 0 [] rfl (WV w _ _ _ lr) j n c xs rfl O.o U.o T.o (by unfold maxLen;omega) (by omega) (by simp) ?_;intro N c3 w3 G I);have F:Hid (Bw w w3):=hid (Below.grown ((Below.refl w.heap.size w).alloc lr _) I.o (by simp) (fun k Z=>by simp [Value.ownBlock] at Z;omega))
  go_ret;refine⟨N,c3,rfl,?_,F.o⟩
  have h:=G.o;rwa [Nat.zero_add,List.nil_append] at h
theorem RV:(prog.info? 9).map (fun i=>(i.zero,i.size,i.bytes))=some (some (s0),1,16):=by kernel_rfl
theorem Xk (A:oA)(c:Nat)(l:List lU)(w:World)(h:Zj w w.heap.size A Yy l)(hl:l.length<=1099511627776):
  cQ 77 #[.slice A l.length c] w fun e w'=> ∃ C D,e= .returned (.slice C l.length D)/\w'.ownsRow w.heap.size 9 1 (.slice C l.length D) l.length (l.flatMap Yy)/\Bw w w':=by
 obtain⟨i0,J,K,L,M⟩:=info_parts RV;have m:=hid h;clear h
 cases A with
 | none=>
  obtain rfl:l= []:=by
   rcases Nat.eq_zero_or_pos l.length with d | d
   ·exact List.eq_nil_of_length_eq_zero d
   ·obtain⟨j,s,_⟩:=m.o d
    cases s
  have kn: ∀ w,(binOp .eql 27 (.slice none 0 c) (.slice none 0 0)).run prog w= .ok (.bool true) w:=fun w=>Lib.run_eql_slice_nil w _ _ _ _ _ _ _ underlying27
  go_enter func77,ntmps77
  go_wp2;go_ret;exact⟨none,0,rfl,Xv _,Below.refl _ _⟩
 | some j=>
  have kn: ∀ w,(binOp .eql 27 (.slice (some j) l.length c) (.slice none 0 0)).run prog w= .ok (.bool false) w:=fun w=>Lib.run_eql_slice_nil w _ _ _ _ _ _ _ underlying27
  have U:Hid (∀ (i:Nat) (u:Value),(l.flatMap Yy)[i]?=some u->(w.alloc (.cells #[] 9)).cell? (j.add i)=some u):=hid (by
   intro i u E;have d:0<l.length:=by
    have:=(List.getElem?_eq_some_iff.1 E).1;rw [Zm Yy.k] at this;rcases Nat.eq_zero_or_pos l.length with d | d
    ·rw [d] at this;omega
    ·exact d
   obtain⟨aa,e,V,s⟩:=m.o d;injection e with e
   subst e;rw [World.cell?_alloc_lt w _ _ (by rw [ZL];exact V)];exact s i u E)
  have O:=hid (Zm Yy.k l);have T:=hid (Yg Yy.one l);clear m;generalize l.flatMap Yy=xs at*;generalize l.length=n at*;go_enter func77,ntmps77
  go_wp2_with (at_builtin;refine Zb rfl _ _ _ rfl w.heap.size 9 i0 _ 1 16 underlying27 J K L M rfl (by decide) (.slice (some (aD w.heap.size 0)) 0 0) 0 [] rfl (WV w _ _ _ lr) j n c xs rfl O.o U.o T.o (by unfold maxLen;omega) (by omega) (by simp) ?_;intro N c3 w3 G I);have F:Hid (Bw w w3):=hid (Below.grown ((Below.refl w.heap.size w).alloc lr _) I.o (by simp) (fun k Z=>by simp [Value.ownBlock] at Z;omega))
  go_ret;refine⟨N,c3,rfl,?_,F.o⟩
  have h:=G.o;rwa [Nat.zero_add,List.nil_append] at h
def Qo (r:Ru):Prop:=(-9223372036854775808<=r.low/\r.low<=9223372036854775807)/\(-9223372036854775808<=r.ZB/\r.ZB<=9223372036854775807)
theorem Ml {α:Type}{P:α->Prop}{l:List α}{j:Nat}{a:α}(h: ∀ (i:Nat)(h:i<l.length),i<j->P l[i])(d:P a): ∀ (i:Nat)(h:i< (l.set j a).length),i<j+1->P (l.set j a)[i]:=fun i m s=>by
 rw [List.getElem_set];split
 ·exact d
 ·exact h i (by simpa using m) (by omega)
theorem Lv {α:Type}{P:α->Prop}{l:List α}{j:Nat}{a:α}(h: ∀ (i:Nat)(h:i<l.length),j<=i->P l[i]): ∀ (i:Nat)(h:i< (l.set j a).length),j+1<=i->P (l.set j a)[i]:=fun i d m=>by
 rw [List.getElem_set];split
 ·omega
 ·exact h i (by simpa using d) (by omega)
theorem XG {w:World}{base g n c k:Nat}{T:TypeId}{xs:lV}(h:w.ownsRow base T k (.slice (some (aD g 0)) n c) n xs){i:Nat}(M:i<xs.length)(u:Value):(w.setCell (aD g i) u).ownsRow base T k (.slice (some (aD g 0)) n c) n (xs.set i u):=by
 obtain⟨J,s⟩:=h;refine⟨by simpa using J,?_⟩
 rcases s with ⟨m,_⟩ | ⟨L,cap,d,K,hb,I,C,D,E,F⟩
 ·cases m
 ·injection K with hv1 hv2 hv3
  injection hv1 with hv1
  injection hv1 with hv1
  subst hv1;subst hv3;have G:ZP w g T d.toList:=by simpa [ZP] using I
  have j:=G.Zx i u;refine .inr ⟨g,c,(d.toList.set i u).toArray,rfl,hb,j,C,D,by simpa using E,?_⟩
  rw [<-F,List.take_set]
theorem ZJ {w:World}{base g n c k:Nat}{T:TypeId}{xs:lV}(h:w.ownsRow base T k (.slice (some (aD g 0)) n c) n xs):base<=g/\g<w.heap.size/\Za w g T/\(∀ i,w.frozen? (aD g i)=false)/\ ∀ i u,xs[i]?=some u->w.cell? (aD g i)=some u:=by
 obtain⟨L,C⟩:=h;rcases C with ⟨s,_⟩ | ⟨G,cap,m,F,hb,E,I,J,K,D⟩
 ·cases s
 ·injection F with hv1 hv2 hv3
  injection hv1 with hv1
  injection hv1 with hv1
  subst hv1;have d:ZP w g T m.toList:=by simpa [ZP] using E
  refine⟨hb,d.lt,d.Xr,fun i=>d.frozen i,fun i u j=> ?_⟩
  rw [d.cell];rw [<-D,List.getElem?_take] at j;split at j
  ·exact j
  ·cases j
theorem _root_.Go.World.ownsRow.Yp {w:World}{base base':Nat}{e:TypeId}{size n:Nat}{v:Value}{xs:lV}(h:w.ownsRow base e size v n xs)(hb:base'<=base):w.ownsRow base' e size v n xs:=by
 refine⟨h.1,?_⟩
 rcases h.2 with h | ⟨g,cap,d,m,j,rest⟩
 ·exact .inl h
 ·exact .inr ⟨g,cap,d,m,Nat.le_trans hb j,rest⟩
theorem YB {w:World}{base:Nat}{e:TypeId}{size n:Nat}{v:Value}{xs:lV}(h:w.ownsRow base e size v n xs){k:Nat}(d:v.ownBlock=some k):k<w.heap.size:=(Yx h d).lt
theorem X7 {α:Type}{enc:α->lV}{k:Nat}(C: ∀ x,(enc x).length=k): ∀ (l:List α)(j i:Nat)(s:j<l.length)(m:i<k)(u:Value)(d:α),enc d=(enc l[j]).set i u->(l.flatMap enc).set (j*k+i) u=(l.set j d).flatMap enc
 | [],j,i,s,m,u,d,h=>absurd s (by simp)
 | a ::l,0,i,s,m,u,d,h=>by
  rw [List.flatMap_cons,Nat.zero_mul,Nat.zero_add,List.set_cons_zero,List.flatMap_cons,h,List.set_append_left _ _ (by rw [C];exact m)];rfl
 | a ::l,j+1,i,s,m,u,d,h=>by
  have D:=X7 C l j i (by simpa using s) m u d h;rw [List.flatMap_cons,List.set_cons_succ,List.flatMap_cons,<-D,List.set_append_right _ _ (by rw [C,Nat.add_mul,Nat.one_mul];omega),C]
  congr 2
  rw [Nat.add_mul,Nat.one_mul];omega
theorem Zj.Fk {α:Type}{enc:α->lV}{w:World}{B B':Nat}{A:oA}{l:List α}(h:Zj w B A enc l)(hb:B<=B'):Zj w B' A enc l:=fun m=>by
 obtain⟨d,e,j,h⟩:=h m;exact⟨d,e,Nat.lt_of_lt_of_le j hb,h⟩
theorem XS {w:World}{B:Nat}{l:List lU}{A:oA}(h:ZT w (· < B) [.Z2] (YV l) A):Zj w B A Yy l:=by
 obtain⟨G,j,s,_⟩:=WF (enc:=Yy) (sh:= [.Z2]) (fun b=> [Da.Z2 b]) id (fun _=>True) (fun x I u=>⟨x,rfl,by
  obtain⟨F,D,v0,E,e,rfl,m,C⟩:=u.cons;injection e with e1 e2
  subst e1;subst e2;obtain⟨_,rfl⟩:=C.nil;obtain⟨b,d,rfl⟩:=m.T0;injection d with d
  subst d;rfl,trivial⟩) Yy.k h
 rw [List.map_id] at j;subst j;exact s
theorem Cl.Yn {w:World}{B:Nat}{l:List Cl}{A:oA}(h:ZT w (· < B) Zz (l.map Cl.da) A):Zj w B A Cl.cs l:=by
 obtain⟨s,d,j,_⟩:=WF (enc:=Cl.cs) Cl.da id (fun _=>True) (fun x u m=>⟨x,rfl,Cl.YY m,trivial⟩) Cl.k h;rw [List.map_id] at d;subst d;exact j
theorem Sc.Yn {w:World}{B:Nat}{l:List Sc}{A:oA}(h:ZT w (· < B) Ze (l.map Sc.da) A):Zj w B A Sc.cs l:=by
 obtain⟨s,d,j,_⟩:=WF (enc:=Sc.cs) Sc.da id (fun _=>True) (fun x u m=>⟨x,rfl,Sc.YY m,trivial⟩) Sc.k h;rw [List.map_id] at d;subst d;exact j
theorem Ru.Yn {w:World}{B:Nat}{l:List Ru}{A:oA}(h:ZT w (· < B) YF (l.map Ru.da) A): ∃ rs:List YH,rs.map (·.1)=l/\Zj w B A YH.cs rs/\ ∀ r∈rs,ZT w (· < B) [.Z2] (YV r.1.Z3) r.2.1/\Qo r.1:=
 WF (enc:=YH.cs) (sh:=YF) Ru.da (·.1) _ (fun x m j=>by
  obtain⟨X,n,rfl,d⟩:=Ru.YY j;exact⟨(x,X,n),rfl,rfl,d⟩) YH.k h
theorem RK {w:World}{base c:Nat}{l:List lU}{A:oA}(h:w.ownsRow base 9 1 (.slice A l.length c) l.length (l.flatMap Yy)):ZT w (Nw w base [9]) [.Z2] (YV l) A:=by
 have d:=Ye (S:=fun _=>False) (sh:= [.Z2]) (fun b=> [Da.Z2 b]) id Yy.k h rfl (fun a _=>ZE.one (Yv.YO a));rw [List.map_id] at d;exact d.YW (fun k j=>j.elim (fun h=>h.elim) id) (fun _ _=>rfl)
structure XT (w:World) (lo hi:Nat) (t:YX):Prop where
 Z3:w.ownsRow lo 119 3 (.slice t.2.1 t.1.Z3.length t.2.2.1) t.1.Z3.length (t.1.Z3.flatMap Cl.cs)
 Jv: ∀ g,(Value.slice t.2.1 t.1.Z3.length t.2.2.1).ownBlock=some g->g<hi
 ZW: ∃ rs:List YH,rs.map (·.1)=t.1.ZW/\w.ownsRow lo 40 8 (.slice t.2.2.2.1 t.1.ZW.length t.2.2.2.2) t.1.ZW.length (rs.flatMap YH.cs)/\
  ∀ r∈rs,ZT w (fun g=>Nw w lo [9] g/\g<hi) [.Z2] (YV r.1.Z3) r.2.1/\Qo r.1
 Qu: ∀ g,(Value.slice t.2.2.2.1 t.1.ZW.length t.2.2.2.2).ownBlock=some g->g<hi
theorem SM (t:Tb)(X:oA)(x:Nat)(Y:oA)(y:Nat)(w:World)(hX:rA w Zz (t.Z3.map Cl.da) X)(hY:rA w YF (t.ZW.map Ru.da) Y)(ht:t.Zo 1099511627776):
  cQ 58 #[.agg #[sT t.Z9,sT t.name,sT t.ZN,.slice X t.Z3.length x,.slice Y t.ZW.length y]] w fun e w'=> ∃ X' x' Y' y',e= .returned (.agg (t.cs X' x' Y' y').toArray)/\XT w' w.heap.size w'.heap.size (t,X',x',Y',y')/\Bw w w':=by
 have HX:=hid (Cl.Yn hX);obtain⟨af,ak,aK,aL⟩:=Ru.Yn hY;have aQ:=hid ak;have aO:=hid aK;have aP:=hid aL;have aV:=ht.1;have ba:=ht.2.1;have HT:=hid ht.2.2;have aX:af.length=t.ZW.length:=by rw [<-ak,List.length_map]
 have HI:=iN 73 5;clear hX hY ak aK aL ht;go_enter func58,ntmps58
 go_wp2_with fail;refine Zi _ fun W F=> ?_
 have ad:=bQ F;have P1:=nD F;have Q1:=nF F;clear F;refine(Sp X x t.Z3 W (HX.o.later ad.o) aV).mono ?_
 rintro e W2 ⟨T,V,rfl,ho,hb⟩;have am:=bt ad hb;have ao:=hid ho;have P2:=bl P1 hb;have Q2:=bl Q1 hb;have aZ:=hid ad.o.size;have aU:w.heap.size+1<W.heap.size:=Q1.o.lt;have bb:=hb.size;clear ho hb ad P1 Q1;have p3:=ce P2 3;have f3:=P2.o.frozen 3;have p4:=ce P2 4;go_wp2_with fail;refine Zi _ fun I F=> ?_
 have ag:Hid (Bw w I):=hid (by rw [F];exact am.o.setCell lr _);have ap:Hid (I.ownsRow W.heap.size 119 3 (sl T t.Z3 V) t.Z3.length (t.Z3.flatMap Cl.cs)):=hid (by rw [F];exact ownsRow_setCell_below ao.o (by show w.heap.size<_;omega) _)
 have P3:=rB F (P2.o.Zx 3 _);have Q3:Hid (ZP I (w.heap.size+1) 73 [s0,s0,s0,sN,sN]):=hid (by rw [F];exact Q2.o.WT (by show _≠w.heap.size;omega) _)
 have bc:W2.heap.size<=I.heap.size:=by rw [F];simp [World.setCell]
 clear F P2 Q2 ao am p3 f3 p4;have ah:=SN Y y af I (aO.o.later ag.o) (by omega);rw [aX] at ah;refine ah.mono ?_
 rintro e J ⟨u,d,rfl,ho,hb⟩;have an:=bt ag hb;have av:=hid ho;have aq:=hid (ap.o.ZC hb);have P4:=bl P3 hb;have bd:=hb.size;have Q4:=bl Q3 hb;clear ho hb ag P3 Q3 ap ah;have p4:=ce P4 4;have f4:=P4.o.frozen 4;have aT:J.heap.size=(J.setCell (aN w 4) (sl u t.ZW d)).heap.size:=by simp [World.setCell]
 have D:Hid (Below w.heap.size w (J.setCell (aN w 4) (sl u t.ZW d))):=hid (an.o.setCell lr _);have ar:Hid ((J.setCell (aN w 4) (sl u t.ZW d)).ownsRow W.heap.size 119 3 (sl T t.Z3 V) t.Z3.length (t.Z3.flatMap Cl.cs)):=hid (ownsRow_setCell_below aq.o (by show w.heap.size<_;omega) _)
 have aw:Hid ((J.setCell (aN w 4) (sl u t.ZW d)).ownsRow I.heap.size 40 8 (sl u t.ZW d) t.ZW.length (af.flatMap YH.cs)):=hid (ownsRow_setCell_below av.o (by show w.heap.size<_;omega) _);have P5:Hid (ZP (J.setCell (aN w 4) (sl u t.ZW d)) w.heap.size 73 [sT t.Z9,sT t.name,sT t.ZN,sl T t.Z3 V,sl u t.ZW d]):=hid (P4.o.Zx 4 _);have Q5:Hid (ZP (J.setCell (aN w 4) (sl u t.ZW d)) (w.heap.size+1) 73 [s0,s0,s0,sN,sN]):=hid (Q4.o.WT (by show _≠w.heap.size;omega) _)
 have p5:(J.setCell (aN w 4) (sl u t.ZW d)).cell? (aN w 4)=some (sl u t.ZW d):=P5.o.cell 4;clear an aq av P4 Q4;go_wp2;go_loopw [15] (fun i wr=> ∃ (j:Nat) (rs:List YH),j<=t.ZW.length/\i=i6 j/\Hid (rs.map (·.1)=t.ZW)/\Hid (wr.ownsRow I.heap.size 40 8 (sl u t.ZW d) t.ZW.length (rs.flatMap YH.cs))/\Hid (wr.ownsRow W.heap.size 119 3 (sl T t.Z3 V) t.Z3.length (t.Z3.flatMap Cl.cs))/\
  Hid (∀ (i:Nat) (h:i<rs.length),i<j->ZT wr (Nw wr w.heap.size [9]) [.Z2] (YV rs[i].1.Z3) rs[i].2.1/\Qo rs[i].1)/\Hid (∀ (i:Nat) (h:i<rs.length),j<=i->rA w [.Z2] (YV rs[i].1.Z3) rs[i].2.1/\Qo rs[i].1)/\Hid (Bw w wr)/\Hid (ZP wr w.heap.size 73 [sT t.Z9,sT t.name,sT t.ZN,sl T t.Z3 V,sl u t.ZW d])/\Hid (ZP wr (w.heap.size+1) 73 [s0,s0,s0,sN,sN])) (fun i _=>t.ZW.length - (intOf i).toNat)
 case atStart=>exact⟨0,af,Nat.zero_le _,rfl,aQ,aw,ar,hid (fun i h h0=>absurd h0 (by omega)),hid (fun i h _=>aP.o _ (List.getElem_mem h)),D,P5,Q5⟩
 case round=>
  clear D ar aw P5 Q5 p5 p4 f4 aT;obtain⟨j,rs,hj,rfl,M,N,ae,HD,HE,L,HP,HQ⟩:=hrel;by_cases hlt:j<t.ZW.length
  ·have aj:rs.length=t.ZW.length:=by rw [<-M.o,List.length_map]
   have Z:j<rs.length:=by omega
   obtain⟨aH,aA⟩:=HE.o j Z lr;have HL:=hid (XS aH);have aM:=hid aA;have aY:=(HT.o rs[j].1 (by rw [<-M.o];exact List.mem_map.2 ⟨_,List.getElem_mem Z,rfl⟩)).1;obtain⟨g,rfl⟩: ∃ g,u=some (aD g 0):=by
    obtain⟨g,cap,hv,_,_⟩:=N.o.form (by omega);exact⟨g,by injection hv⟩
   obtain⟨a7,ai,aC,aE,aF⟩:=ZJ N.o;have aa:=aF (j*8+2) (.slice rs[j].2.1 rs[j].1.Z3.length rs[j].2.2) (by rw [Zl YH.k rs j 2 Z (by omega)];rfl)
   have aB:=aE (j*8+2);have au:=hid aC;have ac:=hid (fun(s:oA) (C:Nat)=>X7 YH.k rs j 2 Z (by omega) (.slice s rs[j].1.Z3.length C) ((rs[j].1,s,C):YH) rfl);clear aH aA aC aE aF;generalize hr:rs[j]=r at*;have p4:=ce HP 4;have aI:=HP.o.lt;have a6:(j:Int)< (t.ZW.length:Int):=by omega
   go_wp2_with fail;have az:(fun w'=>Bw wr w'/\w'.cell? (aN w 4)=some (sl (some (aD g 0)) t.ZW d)/\w'.cell? (aD g (j*8+2))=some (sl r.2.1 r.1.Z3 r.2.2)) wr.drew:=⟨br.drew,p4,aa⟩
   have ab:Hid (∀ w',Bw wr w'->(fun w'=>Bw wr w'/\w'.cell? (aN w 4)=some (sl (some (aD g 0)) t.ZW d)/\w'.cell? (aD g (j*8+2))=some (sl r.2.1 r.1.Z3 r.2.2)) w'):=hid fun w' h=>⟨h,ct p4 h aI,ct aa h ai⟩
   refine Ys 12 (S:=fun w'=>Bw wr w'/\w'.cell? (aN w 4)=some (sl (some (aD g 0)) t.ZW d)/\w'.cell? (aD g (j*8+2))=some (sl r.2.1 r.1.Z3 r.2.2)) (by kernel_rfl) az (fun m=> ?_)
   (try simp only [pp]);refine WZ 0 18 m ?_;refine WZ 1 19 m ?_;refine WZ 2 20 m ?_;refine WZ 3 21 m ?_;refine WZ 4 22 m ?_;refine WZ 5 23 m ?_;refine WZ 6 24 m ?_;refine WZ 7 25 m ?_;refine WZ 8 26 m ?_;refine UK 9 27 fun K E=> ?_
   go_simp;go_at_call 77
   have ay:Bw wr wr.drew:=br.drew;refine(Xk r.2.1 r.2.2 r.1.Z3 wr.drew (HL.o.below L.o |>.Fk (by simpa using L.o.size)) aY).mono ?_
   rintro e G ⟨s,C,rfl,aJ,hb⟩;have D:Hid (Bw wr G):=hid (ay.trans hb);have ax:=hid (RK aJ);have be:=hb.size;clear hb aJ;have m:=ab.o _ D.o;refine E.out _ _ m ?_
   clear E K;(try simp only [pp])
   refine UK 10 28 fun K E=> ?_
   go_simp;refine E.out _ _ m ?_
   clear E K;(try simp only [pp])
   refine UK 11 29 fun K E=> ?_
   go_simp;refine E.out _ _ m ?_
   clear E K;(try simp only [pp])
   refine Yt.WR (i:=12) (o:=⟨none,_,_,_,_,_⟩) (by kernel_rfl) rfl rfl (fun K E=> ?_)
   have e5:G.cell? (aD g (j*8+2))=some (sl r.2.1 r.1.Z3 r.2.2):=m.2.2;have f5:G.frozen? (aD g (j*8+2))=false:=(D.o.frozen (p:=(aD g (j*8+2))) ai).trans aB;go_simp;refine E.out _ _ (Yt.done (by kernel_rfl) ?_ _);clear E K;have a8:w.heap.size<g:=by omega
   have R1:=hid (N.o.ZC (by exact D.o));have aW:j*8+2< (rs.flatMap YH.cs).length:=by rw [Zm YH.k];omega
   have R2:Hid ((G.setCell (aD g (j*8+2)) (sl s r.1.Z3 C)).ownsRow I.heap.size 40 8 (sl (some (aD g 0)) t.ZW d) t.ZW.length ((rs.set j (r.1,s,C)).flatMap YH.cs)):=hid (by
    rw [<-ac.o s C];exact XG R1.o aW _)
   have O:ZS [40] G (G.setCell (aD g (j*8+2)) (sl s r.1.Z3 C)):=ZS.Zx (au.o.RN (D.o.block g ai)) (by simp) _;have C2:=hid ((ae.o.ZC (by exact D.o)).keeps O (by decide));have D2:=hid (Ml (a:=((r.1,s,C):YH)) (P:=fun z=>ZT (G.setCell (aD g (j*8+2)) (sl s r.1.Z3 C)) (Nw (G.setCell (aD g (j*8+2)) (sl s r.1.Z3 C)) w.heap.size [9]) [.Z2] (YV z.1.Z3) z.2.1/\Qo z.1)
    (fun i h aG=>⟨((HD.o i h aG).1.Ph (by exact D.o)).VI O (by decide),(HD.o i h aG).2⟩)
    ⟨(ax.o.Tk (by simpa using L.o.size) (fun _ h=>h)).VI O (by decide),aM.o⟩)
   have E2:=hid (Lv (l:=rs) (j:=j) (P:=fun z:YH=>rA w [.Z2] (YV z.1.Z3) z.2.1/\Qo z.1) (a:=((r.1,s,C):YH)) HE.o);have M2:Hid ((rs.set j (r.1,s,C)).map (·.1)=t.ZW):=hid (by rw [List.map_set,<-M.o,<-hr,<-List.getElem_map (f:=fun x:YH=>x.1) (h:=by simpa using Z),List.set_getElem_self]);have B2:Hid (Below w.heap.size w (G.setCell (aD g (j*8+2)) (sl s r.1.Z3 C))):=hid ((L.o.trans (D.o.mono L.o.size)).setCell (by show w.heap.size<=g;omega) _)
   have aR:=hid ((HP.o.below D.o aI).keeps O (by decide));have aS:=hid ((HQ.o.below D.o HQ.o.lt).keeps O (by decide));clear M N ae HD HE L HP HQ m R1 ab az p4 aa aB e5 f5 D ax O ay HL ac au;go_wp2;go_roundw
   case rel=>exact⟨j+1,rs.set j (r.1,s,C),by omega,by go_num,M2,R2,C2,D2,E2,B2,aR,aS⟩
   case measure=>simp [intOf];omega
  ·obtain rfl:j=t.ZW.length:=by omega
   go_wp2_with (first
    |(refine lO HP HI underlying73 ?_)
    |((refine sO HQ HI ?_);intro w6 H6))
   refine bodyPost_ret (rS (hid H6.o.YK) underlying73 HI) rfl ?_
   have aj:rs.length=t.ZW.length:=by rw [<-M.o,List.length_map]
   have K6:=H6.o.keeps;refine⟨T,V,u,d,rfl,⟨?_,?_,⟨rs,M.o,?_,?_⟩,?_⟩,H6.o.below L.o (by omega)⟩
   ·exact(ae.o.Yp (by omega)).keeps K6 (by decide)
   ·exact fun k U=>by have:=YB ((ae.o.Yp (base':=w.heap.size) (by omega)).keeps K6 (by decide)) U;omega
   ·exact(N.o.Yp (by omega)).keeps K6 (by decide)
   ·intro r hr;obtain⟨i,hi,rfl⟩:=List.getElem_of_mem hr;obtain⟨h1,h2⟩:=HD.o i hi (by omega);exact⟨(h1.VI K6 (by decide)).YW (fun k U=>⟨U,U.lt⟩) (fun _ _=>rfl),h2⟩
   ·exact fun k U=>by have:=YB ((N.o.Yp (base':=w.heap.size) (by omega)).keeps K6 (by decide)) U;omega
theorem XT.keeps {us:List TypeId}{w w':World}{C u:Nat}{t:YX}(h:XT w C u t)(d:ZS us w w')(D:119∉us)(E:40∉us)(F:9∉us):XT w' C u t:=by
 obtain⟨G,Jv,⟨rs,I,K,s⟩,Qu⟩:=h;have hd: ∀ t,t∈ [9]->t∉us:=fun t L=>by rw [List.mem_singleton.1 L];exact F
 exact⟨G.keeps d D,Jv,⟨rs,I,K.keeps d E,fun r m=>⟨(s r m).1.YW (fun k j=>⟨(j.1.keeps d hd).1,j.2⟩) (fun _ J=>World.cell?_of_block (J.1.keeps d hd).2),(s r m).2⟩⟩,Qu⟩
theorem XT.below {w w':World}{j d:Nat}{t:YX}(h:XT w j d t)(hb:Bw w w'):XT w' j d t:=h.keeps (us:= []) (ZS.ZA hb lr) (by simp) (by simp) (by simp)
theorem XT.mono {w:World}{F E C hi':Nat}{t:YX}(h:XT w F E t)(d:C<=F)(j:E<=hi'):XT w C hi' t:=by
 obtain⟨G,Jv,⟨rs,I,J,D⟩,Qu⟩:=h;exact⟨G.Yp d,fun g m=>Nat.lt_of_lt_of_le (Jv g m) j,⟨rs,I,J.Yp d,fun r u=>⟨(D r u).1.YW (fun k s=>⟨s.1.mono d (fun _ h=>h),Nat.lt_of_lt_of_le s.2 j⟩) (fun _ _=>rfl),(D r u).2⟩⟩,fun g m=>Nat.lt_of_lt_of_le (Qu g m) j⟩
theorem XT.VW {w:World}{j K:Nat}{t:YX}(h:XT w j K t):ZE w (Nw w j [119,40,9]) Zn t.1.da (YX.cs t):=by
 obtain⟨J,Jv,⟨rs,E,L,I⟩,Qu⟩:=h;have u:=Ye (S:=fun _=>False) (sh:=Zz) Cl.da id Cl.k J rfl (fun a _=>Cl.VW a);rw [List.map_id] at u;have C:=Ye (S:=Nw w j [9]) (sh:=YF) Ru.da (·.1) YH.k L (by rw [<-E,List.length_map]) (fun a F=>by
  obtain⟨s,m⟩:=I a F;have G:=Yv.Wn (c:=a.2.2) (s.YW (S':=Nw w j [9]) (fun _ h=>h.1) (fun _ _=>rfl));have D:ZE w (Nw w j [9]) YF a.1.da [sT a.1.name,i6 a.1.ZV,.slice a.2.1 (YV a.1.Z3).length a.2.2,i6 a.1.low,i6 a.1.ZB,sT a.1.Z9,sT a.1.ZZ,sT a.1.key]:=
   ZE.mk (Yv.YO _) (ZE.mk (Yv.Xo _) (ZE.mk G (ZE.mk (Yv.U8 m.1) (ZE.mk (Yv.U8 m.2) (ZE.mk (Yv.YO _) (ZE.mk (Yv.YO _) (ZE.one (Yv.YO _))))))))
  have e:(YV a.1.Z3).length=a.1.Z3.length:=by simp [YV]
  rw [e] at D;exact D)
 rw [E] at C;have s:=Yv.Wn (c:=t.2.2.1) (u.YW (S':=Nw w j [119,40,9]) (fun k d=>by
  rcases d with d | d
  ·exact d.elim
  ·exact d.mono lr (by simp)) (fun _ _=>rfl))
 have m:=Yv.Wn (c:=t.2.2.2.2) (C.YW (S':=Nw w j [119,40,9]) (fun k d=>by
  rcases d with d | d
  ·exact d.mono lr (by simp)
  ·exact d.mono lr (by simp)) (fun _ _=>rfl))
 rw [List.length_map] at s m;exact ZE.mk (Yv.YO _) (ZE.mk (Yv.YO _) (ZE.mk (Yv.YO _) (ZE.mk s (ZE.one m))))
structure VM (w:World) (base:Nat) (o:Ob) (A0:oA) (k0:Nat) (A1:oA) (k1:Nat) (ts:List YX) (b:Nat->Nat):Prop where
 data:ts.map (·.1)=o.Z8
 Z7:w.ownsRow base 89 2 (.slice A0 o.Z7.length k0) o.Z7.length (o.Z7.flatMap Sc.cs)
 Z8:w.ownsRow base 73 5 (.slice A1 o.Z8.length k1) o.Z8.length (ts.flatMap YX.cs)
 low:base<=b 0
 tab: ∀ (j:Nat) (h:j<ts.length),b j<=b (j+1)/\XT w (b j) (b (j+1)) ts[j]
theorem VM.sc {w:World}{base:Nat}{o:Ob}{d:oA}{k0:Nat}{m:oA}{k1:Nat}{ts:List YX}{b:Nat->Nat}(h:VM w base o d k0 m k1 ts b):ZT w (Nw w base [89]) Ze (o.Z7.map Sc.da) d:=by
 have j:=Ye (S:=fun _=>False) (sh:=Ze) Sc.da id Sc.k h.Z7 rfl (fun a _=>Sc.VW a);rw [List.map_id] at j;exact j.YW (fun k s=>s.elim (fun h=>h.elim) id) (fun _ _=>rfl)
theorem VM.S5 {w:World}{base:Nat}{o:Ob}{d:oA}{k0:Nat}{m:oA}{k1:Nat}{ts:List YX}{b:Nat->Nat}(h:VM w base o d k0 m k1 ts b): ∀ (j i:Nat),i<=j->j<=ts.length->b i<=b j
 | 0,i,hi,_=>by rw [Nat.le_zero.1 hi];exact Nat.le_refl _
 | j+1,i,hi,hj=>by
  rcases Nat.eq_or_lt_of_le hi with e | e
  ·rw [e];exact Nat.le_refl _
  ·exact Nat.le_trans (h.S5 j i (by omega) (by omega)) (h.tab j (by omega)).1
theorem VM.tb {w:World}{base:Nat}{o:Ob}{u:oA}{k0:Nat}{m:oA}{k1:Nat}{ts:List YX}{b:Nat->Nat}(h:VM w base o u k0 m k1 ts b):ZT w (Nw w base [73,119,40,9]) Zn (o.Z8.map Tb.da) m:=by
 have E:ts.length=o.Z8.length:=by rw [<-h.data,List.length_map]
 have s:=Ye (S:=Nw w base [119,40,9]) (sh:=Zn) Tb.da (·.1) YX.k h.Z8 E.symm (fun a C=>by
  obtain⟨j,D,rfl⟩:=List.getElem_of_mem C;exact((h.tab j D).2.VW).Tk (Nat.le_trans h.low (h.S5 j 0 (Nat.zero_le _) (by omega))) (fun _ h=>h))
 rw [h.data] at s;exact s.YW (fun k d=>by
  rcases d with d | d
  ·exact d.mono lr (by simp)
  ·exact d.mono lr (by simp)) (fun _ _=>rfl)
theorem VM.below {w w':World}{base:Nat}{o:Ob}{d:oA}{k0:Nat}{m:oA}{k1:Nat}{ts:List YX}{b:Nat->Nat}(h:VM w base o d k0 m k1 ts b)(hb:Bw w w'):VM w' base o d k0 m k1 ts b:=
 ⟨h.data,h.Z7.ZC hb,h.Z8.ZC hb,h.low,fun j s=>⟨(h.tab j s).1,(h.tab j s).2.below hb⟩⟩
theorem Fe {K:Act->World->Prop}{a:Act}(d:World)(k: ∀ W,W=d->K a W):K a d:=k _ rfl
theorem Qv {Q:Exit->Act->World->Prop}{e:Exit}{a:Act}(d:World)(k: ∀ W,W=d->Q e a W):Q e a d:=k _ rfl
theorem Ux {P:Program}{w:World}{ops:Array Oper}{o:Oper}{a:Act}{K:Act->World->Prop}{Q:Exit->Act->World->Prop}{Z:Prop}(T:o.guard=none)(s x:Operand)(t:TypeId)
  (ho:o.op= .call { callee:= .builtin .append,args:= #[s,x],argTypes:= #[t,t]})
  (base:Nat) (e:TypeId) (i:TypeInfo) (z:Value) (size bytes:Nat) (ht:P.underlying t=some (.slice e)) (hi:P.info? e=some i) (hz:i.zero=some z)
  (J:i.size=size) (O:i.bytes=bytes) (V:z.cells.size=size) (U:0<size)
  (v:Value) (n:Nat) (xs:lV) (hs:a.eval s=v) (L:w.ownsRow base e size v n xs)
  (D:Addr) (m c:Nat) (news:lV) (hx:a.eval x= .slice (some D) m c) (hl:news.length=m*size) (I: ∀ j u,news[j]?=some u->w.cell? (D.add j)=some u) (h1: ∀ u∈news,u.oneCell'=true)
  (N:n+m<=maxLen) (F:(n+m)*bytes<=140737488355328) (G:base<=w.heap.size)
  (h: ∀ d C w',Hid (w'.ownsRow base e size (.slice d (n+m) C) (n+m) (xs ++news))->Hid (w.grownBy w' v.ownBlock)->K (a.put o.dst (.slice d (n+m) C)) w'):if Region.wanted o (yielded ops a.tmps)=true then Oper.wp P o a w K Q else Z:=by
 have hw:Region.wanted o (yielded ops a.tmps)=true:=by simp [Region.wanted,T]
 rw [if_pos hw];obtain⟨v',w',M,E,h3,_⟩:=run_append_own (P:=P) w base t o.type e i z size bytes ht hi hz J O V U v n xs L D m c news hl I h1 N F G;unfold Oper.wp execOp;simp only [ho,resolve,invoke,builtin,Sem.run_bind,Sem.run_pure,Result.andThen_ok,List.map_toArray,List.map_cons,List.map_nil,hs,hx,M];obtain⟨d,C,rfl⟩:=WH E;exact h d C w' E h3
theorem FG (o:Ob)(A0:oA)(k0:Nat)(A1:oA)(k1:Nat)(w:World)(hS:rA w Ze (o.Z7.map Sc.da) A0)(hT:rA w Zn (o.Z8.map Tb.da) A1)(O:o.Zo 1099511627776):
  cQ 245 #[.agg #[.slice A0 o.Z7.length k0,.slice A1 o.Z8.length k1]] w fun e w'=> ∃ B0 l0 B1 l1 ts b,e= .returned (.agg #[.slice B0 o.Z7.length l0,.slice B1 o.Z8.length l1])/\VM w' w.heap.size o B0 l0 B1 l1 ts b/\Bw w w':=by
 have HS:=hid (Sc.Yn hS);have HT:=hid hT;have HO:=hid O;have aV:=O.1;have bg:=O.2.1;have HI:=iN 73 5;have an:=iN 26 2;obtain⟨i0,aS,aY,aZ,a6⟩:=info_parts Vc;clear hS hT O;go_enter func245,ntmps245
 go_wp2_with fail;refine Zi _ fun W E=> ?_
 have ai:=bQ E;have P1:=nD E;have Q1:=nF E;clear E;refine(Um A0 k0 o.Z7 W (HS.o.later ai.o) aV).mono ?_
 rintro e d ⟨B0,l0,rfl,O,hb⟩;have aj:=bt ai hb;have aw:=hid O;have P2:=bl P1 hb;have Q2:=bl Q1 hb;have aQ:w.heap.size+1<W.heap.size:=Q1.o.lt;have a7:=hb.size;clear O hb ai P1 Q1;have p1:(d.alloc (.cells #[sl B0 o.Z7 l0,sN] 26)).cell? (aN w 1)=some (sl A1 o.Z8 k1):=(P2.o.alloc _).cell 1;have ak:Hid (Below w.heap.size w (d.alloc (.cells #[sl B0 o.Z7 l0,sN] 26))):=hid (aj.o.alloc aj.o.size _);have ax:Hid ((d.alloc (.cells #[sl B0 o.Z7 l0,sN] 26)).ownsRow W.heap.size 89 2 (sl B0 o.Z7 l0) o.Z7.length (o.Z7.flatMap Sc.cs)):=hid (aw.o.ZC (br.alloc lr _));have R3:Hid (ZP (d.alloc (.cells #[sl B0 o.Z7 l0,sN] 26)) d.heap.size 26 [sl B0 o.Z7 l0,sN]):=hid (ZP.new d _ _);have Q3:Hid (ZP (d.alloc (.cells #[sl B0 o.Z7 l0,sN] 26)) (w.heap.size+1) 26 [sN,sN]):=hid (Q2.o.alloc _);clear aj aw P2 Q2;go_wp2;go_loopw [13] (fun i wr=> ∃ (j:Nat) (ts:List YX) (B1:oA) (l1:Nat) (b:Nat->Nat),j<=o.Z8.length/\i=i6 j/\Hid (ts.map (·.1)=o.Z8.take j)/\Hid (wr.ownsRow W.heap.size 89 2 (sl B0 o.Z7 l0) o.Z7.length (o.Z7.flatMap Sc.cs))/\
  Hid (wr.ownsRow w.heap.size 73 5 (.slice B1 j l1) j (ts.flatMap YX.cs))/\Hid (w.heap.size<=b 0/\b ts.length<=wr.heap.size/\ ∀ (i:Nat) (h:i<ts.length),b i<=b (i+1)/\XT wr (b i) (b (i+1)) ts[i])/\Hid (Bw w wr)/\Hid (ZP wr d.heap.size 26 [sl B0 o.Z7 l0,.slice B1 j l1])/\Hid (ZP wr (w.heap.size+1) 26 [sN,sN])) (fun i _=>o.Z8.length - (intOf i).toNat)
 case atStart=>exact⟨0,[],none,0,fun _=>w.heap.size,Nat.zero_le _,rfl,hid (by simp),ax,hid (World.ownsRow_nil _ _ _ _),hid ⟨Nat.le_refl _,ak.o.size,fun i h=>absurd h (by simp)⟩,ak,R3,Q3⟩
 case round=>
  clear ak ax R3 Q3 p1;obtain⟨j,ts,B1,l1,b,hj,rfl,HD,ao,ag,F,D,HR,HQ⟩:=hrel;by_cases hlt:j<o.Z8.length
  ·have aK:=HO.o.2.2 o.Z8[j] (List.getElem_mem hlt);have aC:Hid (o.Z8.take (j+1)=o.Z8.take j ++ [o.Z8[j]]):=hid (List.take_succ_eq_append_getElem hlt);have au:ts.length=j:=by have:=congrArg List.length HD.o;simpa [Nat.min_eq_left hj] using this
   obtain⟨ad,vs,rfl,hv,hr⟩:=(HT.o.later D.o).at_ (j:=j) (by simpa using hlt);rw [List.getElem_map] at hv;generalize o.Z8[j]=t at*;obtain⟨X,x,Y,y,rfl,hX,hY⟩:=Tb.YY hv;have aF:=hid hX;have aG:=hid hY;have aE:=hid aK;have HG:Hid (∀ i u,(t.cs X x Y y)[i]?=some u->wr.cell? ((ad.add (j*5)).add i)=some u):=hid fun i u hu=>by rw [ZG];exact hr i u hu
   clear hv hr hX hY aK;unfold Tb.cs at HG;have HL:Hid ((prog.info? 73).map (·.size)=some ([sT t.Z9,sT t.name,sT t.ZN,sl X t.Z3 x,sl Y t.ZW y]:lV).length):=HI;go_wp2_with (first | (with_reducible refine ZK rfl 73 _ rfl (ad.add (j*5)) rfl [sT t.Z9,sT t.name,sT t.ZN,sl X t.Z3 x,sl Y t.ZW y] _ HG.o underlying73 rfl HL.o ?_) | fail);refine Wh _ fun Wl E=> ?_
   have aM:=rL E (D.o.alloc D.o.size _);have G:=bP E;have I:=nC E;clear E;have RL:=bl HR G.o;have bb:=RL.o.lt;have aX:=I.o.lt;have aH:(fun w'=>w'.cell? (aN d 1)=some (.slice B1 j l1)/\w'.cell? (aN wr 0)=some (sT t.Z9)/\w'.cell? (aN wr 1)=some (sT t.name)/\w'.cell? (aN wr 2)=some (sT t.ZN)/\w'.cell? (aN wr 3)=some (sl X t.Z3 x)/\w'.cell? (aN wr 4)=some (sl Y t.ZW y)) Wl.drew:=⟨RL.o.drew.cell 1,I.o.drew.cell 0,I.o.drew.cell 1,I.o.drew.cell 2,I.o.drew.cell 3,I.o.drew.cell 4⟩
   have aa:Hid (∀ w',ZP w' d.heap.size 26 [sl B0 o.Z7 l0,.slice B1 j l1]->ZP w' wr.heap.size 73 [sT t.Z9,sT t.name,sT t.ZN,sl X t.Z3 x,sl Y t.ZW y]->(fun w'=>w'.cell? (aN d 1)=some (.slice B1 j l1)/\w'.cell? (aN wr 0)=some (sT t.Z9)/\w'.cell? (aN wr 1)=some (sT t.name)/\w'.cell? (aN wr 2)=some (sT t.ZN)/\w'.cell? (aN wr 3)=some (sl X t.Z3 x)/\w'.cell? (aN wr 4)=some (sl Y t.ZW y)) w'):=hid fun w' h1 N=>⟨h1.cell 1,N.cell 0,N.cell 1,N.cell 2,N.cell 3,N.cell 4⟩
   refine Ys 7 (S:=fun w'=>w'.cell? (aN d 1)=some (.slice B1 j l1)/\w'.cell? (aN wr 0)=some (sT t.Z9)/\w'.cell? (aN wr 1)=some (sT t.name)/\w'.cell? (aN wr 2)=some (sT t.ZN)/\w'.cell? (aN wr 3)=some (sl X t.Z3 x)/\w'.cell? (aN wr 4)=some (sl Y t.ZW y)) (by kernel_rfl) aH (fun C=> ?_)
   (try simp only [pp]);refine WZ 0 17 C ?_;refine WZ 1 18 C ?_;refine WZ 2 19 C ?_;refine UK 3 20 fun K m=> ?_
   go_simp;go_at_call 58
   have ah:Bw Wl Wl.drew:=br.drew;refine(SM t X x Y y Wl.drew (aF.o.later (G.o.trans (ah.mono G.o.size))) (aG.o.later (G.o.trans (ah.mono G.o.size))) aE.o).mono ?_
   rintro e w5 ⟨L,T,M,U,rfl,aJ,hb⟩;have ab:Hid (Bw Wl w5):=hid (ah.trans hb);have ae:=bt G ab.o;have HN:=hid aJ;have R5:=bl RL ab.o;have T6:=bl I ab.o;clear hb aJ RL I;have C:=aa.o _ R5.o T6.o;unfold Tb.cs;dsimp only;refine m.out _ _ C ?_
   clear m K;(try simp only [pp])
   refine UK 4 21 fun K m=> ?_
   go_simp;refine Fe _ fun w6 h6=> ?_
   have V:=bP h6;have N6:=nC h6;clear h6;have R6:=bl R5 V.o;have T7:=bl T6 V.o;have J:=bt ae V.o;have ay:=hid (HN.o.below V.o);clear R5 T6 HN;have C:=aa.o _ R6.o T7.o;refine m.out _ _ C ?_
   clear m K;(try simp only [pp])
   refine UK 5 22 fun K m=> ?_
   have O6:=hid (ag.o.ZC J.o);have bd:=J.o.size;refine Ux rfl _ _ _ rfl w.heap.size 73 i0 _ 5 96 underlying24 aS aY aZ a6 rfl (by decide) (.slice B1 j l1) j _ rfl O6.o (aN w5 0) 1 1 [sT t.Z9,sT t.name,sT t.ZN,sl L t.Z3 T,sl M t.ZW U] rfl rfl (ZP.news N6.o) (by simp [Value.oneCell']) (by unfold maxLen;omega) (by omega) (by have:=D.o.size;omega) ?_
   intro A7 c7 w7 aA Z;have K7:ZS [73] w6 w7:=ZS.grown O6.o Z.o (by simp) Z.o.size;have ar:some wr.heap.size≠(Value.slice B1 j l1).ownBlock:=fun e=>by have:=YB ag.o e.symm;omega
   have R7:=hid (R6.o.keeps K7 (by decide));have T8:=hid (T7.o.grown Z.o ar);have av:Hid (Bw w w7):=hid ((D.o.trans (J.o.mono D.o.size)).grown Z.o (by have:=D.o.size;omega) (ZD O6.o))
   have af:=hid ((ao.o.ZC J.o).keeps K7 (by decide));have aB:=hid ((HQ.o.below J.o HQ.o.lt).keeps K7 (by decide));have az:=hid (ay.o.keeps K7 (by decide) (by decide) (by decide));have ac:Hid (∀ (i:Nat) (h:i<ts.length),b i<=b (i+1)/\XT w7 (b i) (b (i+1)) ts[i]):=hid fun i h=>⟨(F.o.2.2 i h).1,(((F.o.2.2 i h).2.below J.o).keeps K7 (by decide) (by decide) (by decide))⟩
   have be:=Z.o.size;have aU:=V.o.size;have bc:=ab.o.size;have aW:=G.o.size;have C:=aa.o _ R7.o T8.o;refine m.out _ _ C ?_
   clear m K;(try simp only [pp])
   refine UK 6 23 fun K m=> ?_
   go_simp;refine m.out _ _ C ?_
   clear m K;(try simp only [pp])
   refine Yt.WR (i:=7) (o:=⟨none,_,_,_,_,_⟩) (by kernel_rfl) rfl rfl (fun K m=> ?_)
   have e5:w7.cell? (aN d 1)=some (.slice B1 j l1):=C.1;have f5:=R7.o.frozen 1;go_simp;refine m.out _ _ (Yt.done (by kernel_rfl) ?_ _);clear m K;refine Qv _ fun s h8=> ?_
   have ba:w.heap.size<=d.heap.size:=by omega
   have K8:ZS [26] w7 s:=by rw [h8];exact ZS.Zx R7.o.Xr (by simp) _
   have R8:=rB h8 (R7.o.Zx 1 _);have aP:Hid (ZP s (w.heap.size+1) 26 [sN,sN]):=hid (by rw [h8];exact aB.o.WT (by show _≠d.heap.size;omega) _)
   have aL:Hid (Bw w s):=hid (by rw [h8];exact av.o.setCell (by show w.heap.size<=d.heap.size;omega) _);have bf:w7.heap.size<=s.heap.size:=K8.size;clear h8;have ap:=hid (af.o.keeps K8 (by decide));have aq:Hid (s.ownsRow w.heap.size 73 5 (.slice A7 (j+1) c7) (j+1) ((ts ++ [(t,L,T,M,U)]).flatMap YX.cs)):=hid (by
    rw [List.flatMap_append];simpa [YX.cs,Tb.cs] using aA.o.keeps K8 (by decide))
   have aO:Hid ((ts ++ [((t,L,T,M,U):YX)]).map (·.1)=o.Z8.take (j+1)):=hid (by rw [List.map_append,HD.o,aC.o];rfl);have am:Hid (w.heap.size<=(fun i=>if i<=j then b i else s.heap.size) 0/\(fun i=>if i<=j then b i else s.heap.size) (ts ++ [((t,L,T,M,U):YX)]).length<=s.heap.size/\ ∀ (i:Nat) (h:i< (ts ++ [((t,L,T,M,U):YX)]).length),(fun i=>if i<=j then b i else s.heap.size) i<=(fun i=>if i<=j then b i else s.heap.size) (i+1)/\XT s ((fun i=>if i<=j then b i else s.heap.size) i) ((fun i=>if i<=j then b i else s.heap.size) (i+1)) (ts ++ [((t,L,T,M,U):YX)])[i]):=hid (by
    have aR:=F.o.1;have a8:=F.o.2.1;refine⟨by simpa using aR,by simp [au];rw [if_neg (by omega)];exact Nat.le_refl _,fun i h=> ?_⟩;by_cases hij:i<j
    ·have aI:i<ts.length:=by omega
     obtain⟨h1,N⟩:=ac.o i aI;rw [List.getElem_append_left aI];simp only [if_pos (show i<=j by omega),if_pos (show i+1<=j by omega)];exact⟨h1,N.keeps K8 (by decide) (by decide) (by decide)⟩
    ·have aT:i=ts.length:=by simp at h;omega
     subst aT;rw [List.getElem_append_right lr];simp only [Nat.sub_self,List.getElem_cons_zero,if_pos (show ts.length<=j by omega),if_neg (show ¬ ts.length+1<=j by omega)];refine⟨by omega,(az.o.keeps K8 (by decide) (by decide) (by decide)).mono (by simp;omega) (by omega)⟩)
   clear HD ao ag F D HR HQ C aa aH e5 f5 aA Z K7 K8 O6 R6 R7 T7 T8 av af aB ay az ac G ae J ab V aM N6 ah HG HL aC aF aG aE;go_wp2;go_roundw
   case rel=>exact⟨j+1,ts ++ [(t,L,T,M,U)],A7,c7,fun i=>if i<=j then b i else s.heap.size,by omega,by go_num,aO,ap,aq,am,aL,R8,aP⟩
   case measure=>simp [intOf];omega
  ·obtain rfl:j=o.Z8.length:=by omega
   rw [List.take_length] at HD;go_wp2_with (first
    |(refine lO HR an underlying26 ?_)
    |((refine sO HQ an ?_);intro w6 H6))
   refine bodyPost_ret (rS (hid H6.o.YK) underlying26 an) rfl ?_
   have K6:=H6.o.keeps;refine⟨B0,l0,B1,l1,ts,b,rfl,⟨HD.o,(ao.o.Yp (by omega)).keeps K6 (by decide),ag.o.keeps K6 (by decide),F.o.1,fun i h=>⟨(F.o.2.2 i h).1,(F.o.2.2 i h).2.keeps K6 (by decide) (by decide) (by decide)⟩⟩,H6.o.below D.o (by omega)⟩
theorem Zr {P:Program}{m:Func}{t u:Tmp}{j:TypeId}(h:m.results= #[.cell t j,.tmp u])(tmps:Array Value)(w:World)(b:Nat)(hb:tmps.getD t undef=pT b){t':TypeId}{cs:lV}(C:Hid (ZP w b t' cs)){n:Nat}(F:cs.length=n){d:TypeDesc}
  (G:P.underlying j=some d) (hd:d.isRow=true) (D:Hid ((P.info? j).map (·.size)=some n)):(results m tmps).run P w= .ok (.tuple #[.agg cs.toArray,tmps.getD u undef]) w:=by
 have E:=run_loadVar_mid w b 0 j cs d C.o.Yz G hd (F▸D.o);have s:tmps[t]?.getD undef=pT b:=by simpa using hb
 simp [results,h,s,E,asAddr]
def Sk (o:Ob)(s n:lU):Int:=if Zc o=true then(if(XA o s n).isSome=true then 0 else 61) else 63
theorem XT.rows {w:World}{u s:Nat}{t:YX}(h:XT w u s t):rA w Zz (t.1.Z3.map Cl.da) t.2.1/\rA w YF (t.1.ZW.map Ru.da) t.2.2.2.1:=by
 obtain⟨X,x,Y,y,d,j,m⟩:=Tb.YY h.VW;have e:YX.cs t=t.1.cs X x Y y:=d;unfold YX.cs Tb.cs at e;injection e with _ e
 injection e with _ e
 injection e with _ e
 injection e with e1 e
 injection e with e2 e
 injection e1 with e1
 injection e2 with e2
 rw [e1,e2];exact⟨j.LG,m.LG⟩
theorem TL (o:Ob)(N:oA)(k0:Nat)(O:oA)(k1:Nat)(s n:lU)(w:World)(hS:rA w Ze (o.Z7.map Sc.da) N)(hT:rA w Zn (o.Z8.map Tb.da) O)(ho:o.Zo 1099511627776):
  cQ 19 #[.agg #[.slice N o.Z7.length k0,.slice O o.Z8.length k1],sT s,sT n] w fun e w'=> ∃ t' X x Y y F,e= .returned (.tuple #[.agg (Tb.cs t' X x Y y).toArray,i6 F])/\F=Sk o s n/\Bw w w'/\
   rA w' Zz (t'.Z3.map Cl.da) X/\rA w' YF (t'.ZW.map Ru.da) Y/\(F=0->(∃ i,∃ E:i<o.Z8.length,XA o s n=some i/\t'=o.Z8[i])/\XT w' w.heap.size w'.heap.size (t',X,x,Y,y)):=by
 have d:=hid hS;have Z:=hid hT;have HO:=hid ho;have ak:=ho.2.1;have D:=iN 73 5;have C:Hid (Sk o s n=if Zc o=true then(if(XA o s n).isSome=true then 0 else 61) else 63):=hid rfl;have M:Hid (Sj o=if Zc o=true then 0 else 63):=hid rfl;clear hS hT ho;go_enter func19,ntmps19
 go_wp2_with fail;refine Zi _ fun W V=> ?_
 have K:=bQ V;have P1:=nD V;have Q1:=nF V;clear V;refine(Vp o N k0 O k1 W (d.o.later K.o) (Z.o.later K.o) HO.o).mono ?_
 rintro e W2 ⟨rfl,hb⟩;have L:=bt K hb;have T:=bl P1 hb;have Q2:=bl Q1 hb;clear hb K P1 Q1;generalize Sj o=eo at*
 cases hc:Zc o
 ·rw [hc] at C M;obtain rfl:eo=63:=M.o;have G:Hid (Sk o s n=63):=hid C.o;go_wp2_with (first | ((refine sO Q2 D ?_);intro wS d) | fail);refine bodyPost_ret (Zr rfl _ _ (w.heap.size+1) rfl (hid d.o.YK) (n:=5) rfl underlying73 rfl D) rfl ?_
  exact⟨⟨[],[],[],[],[]⟩,none,0,none,0,63,rfl,G.o.symm,d.o.below L.o (by omega),ZT.nil,ZT.nil,fun h=>absurd h (by decide)⟩
 rw [hc] at C M;obtain rfl:eo=0:=M.o;have p0:=ce T 0;have p1:=ce T 1;go_wp2_with fail;have cW:=Us (o.Z7.map Sc.da) (o.Z8.map Tb.da) N k0 O k1 s n W2 (Z.o.later L.o) (by simpa using ak);rw [List.length_map,List.length_map,Ut,Ts] at cW;refine cW.mono ?_
 rintro e W3 ⟨rfl,hb⟩;have I:=bt L hb;have P3:=bl T hb;have U:=bl Q2 hb;clear hb cW L T Q2 p0 p1
 cases ht:XA o s n with
 | none=>
  rw [ht] at C;have G:Hid (Sk o s n=61):=hid C.o;go_wp2_with (first | ((refine sO U D ?_);intro wS d) | fail);refine bodyPost_ret (Zr rfl _ _ (w.heap.size+1) rfl (hid d.o.YK) (n:=5) rfl underlying73 rfl D) rfl ?_
  exact⟨⟨[],[],[],[],[]⟩,none,0,none,0,61,rfl,G.o.symm,d.o.below I.o (by omega),ZT.nil,ZT.nil,fun h=>absurd h (by decide)⟩
 | some i=>
  rw [ht] at C;have G:Hid (Sk o s n=0):=hid C.o;obtain⟨E,_⟩:=Wt (show o.Z8.findIdx? (fun x=>x.Z9 == s && x.name == n)=some i from ht);have ae:=HO.o.2.2 o.Z8[i] (List.getElem_mem E);have HX:Hid (∀ t' F,t'=o.Z8[i]->(F=(0:Int)-> ∃ i,∃ E:i<o.Z8.length,some i=some i/\t'=o.Z8[i])):=hid fun t' F h _=>⟨i,E,rfl,h⟩
  have ah:Hid (∀ t',t'=o.Z8[i]-> ∃ m,∃ E:m<o.Z8.length,XA o s n=some m/\t'=o.Z8[m]):=hid fun t' h=>⟨i,E,ht,h⟩
  obtain⟨ad,vs,rfl,hv,J⟩:=(Z.o.later I.o).at_ (j:=i) (by simpa using E);rw [List.getElem_map] at hv;generalize o.Z8[i]=t at*;obtain⟨X,x,Y,y,rfl,hX,hY⟩:=Tb.YY hv;have ai:=hid hX;have aj:=hid hY;have ag:=hid ae;have HG:Hid (∀ m u,(t.cs X x Y y)[m]?=some u->W3.cell? ((ad.add (i*5)).add m)=some u):=hid fun m u hu=>by rw [ZG];exact J m u hu
  clear hv J hX hY ae;unfold Tb.cs at HG;have HL:Hid ((prog.info? 73).map (·.size)=some ([sT t.Z9,sT t.name,sT t.ZN,sl X t.Z3 x,sl Y t.ZW y]:lV).length):=D;have p1:=ce P3 1;rw [show WS (some i)=(i:Int) from rfl];have am:(0:Int)<=(i:Int):=by omega
  have an:(i:Int)< (o.Z8.length:Int):=by omega
  go_wp2_with (first | (with_reducible refine ZK rfl 73 _ rfl (ad.add (i*5)) rfl [sT t.Z9,sT t.name,sT t.ZN,sl X t.Z3 x,sl Y t.ZW y] _ HG.o underlying73 rfl HL.o ?_) | fail);refine(SM t X x Y y W3 ai.o aj.o ag.o).mono ?_
  rintro e W4 ⟨X2,x2,Y2,y2,rfl,ac,hb⟩;have af:=bt I hb;have Q4:=bl U hb;have ab:=hid ac;have ap:=hb.size;have aa:=hid I.o.size;have ao:=U.o.lt;clear hb ac I P3 U p1;unfold Tb.cs;go_wp2_with (first | ((refine sO Q4 D ?_);intro wS d) | fail);refine bodyPost_ret (Zr rfl _ _ (w.heap.size+1) rfl (hid d.o.YK) (n:=5) rfl underlying73 rfl D) rfl ?_
  have J:=(ab.o.keeps d.o.keeps (by decide) (by decide) (by decide)).rows;exact⟨t,X2,x2,Y2,y2,0,rfl,G.o.symm,d.o.below af.o (by omega),J.1,J.2,fun _=>⟨ah.o t rfl,(ab.o.keeps d.o.keeps (by decide) (by decide) (by decide)).mono (by have:=aa.o;omega) (by rw [d.o.size];exact Nat.le_refl _)⟩⟩
theorem rt {P:Program}{m:Func}{t u:Tmp}{j:TypeId}{tmps:Array Value}{w:World}{b:Nat}{t':TypeId}{cs:List Value}{n:Nat}{d:TypeDesc}(s:Hid (ZP w b t' cs))(E:P.underlying j=some d)(C:Hid ((P.info? j).map (·.size)=some n))
  (h:m.results= #[.cell t j,.tmp u]:=by exact rfl) (hb:tmps.getD t undef= .pointer (some ⟨b,0,none⟩):=by exact rfl) (D:cs.length=n:=by exact rfl) (hd:d.isRow=true:=by exact rfl):(results m tmps).run P w= .ok (.tuple #[.agg cs.toArray,tmps.getD u undef]) w:=
 Zr h tmps w b hb s D E hd C
structure ME (w:World) (o:Ob) (A0 A1:oA):Prop where
 sc:rA w Ze (o.Z7.map Sc.da) A0
 tb:rA w Zn (o.Z8.map Tb.da) A1
theorem ME.later {w w':World}{o:Ob}{d j:oA}(h:ME w o d j)(hb:Bw w w'):ME w' o d j:=⟨h.sc.later hb,h.tb.later hb⟩
theorem VM.r {w:World}{base:Nat}{o:Ob}{d:oA}{k0:Nat}{j:oA}{k1:Nat}{ts:List YX}{b:Nat->Nat}(h:VM w base o d k0 j k1 ts b):ME w o d j:=⟨h.sc.LG,h.tb.LG⟩
def OT:List TypeId:= [89,73,119,40,9]
structure Nv (w:World) (o:Ob) (A0 A1:oA):Prop where
 sc:ZT w (Xs w OT) Ze (o.Z7.map Sc.da) A0
 tb:ZT w (Xs w OT) Zn (o.Z8.map Tb.da) A1
theorem Nv.r {w:World}{o:Ob}{j m:oA}(h:Nv w o j m):ME w o j m:=⟨h.sc.YW (fun _ ⟨_,_,d⟩=>d.lt) (fun _ _=>rfl),h.tb.YW (fun _ ⟨_,_,d⟩=>d.lt) (fun _ _=>rfl)⟩
theorem Nv.keeps {us:List TypeId}{w w':World}{o:Ob}{d j:oA}(h:Nv w o d j)(m:ZS us w w')(hd: ∀ t,t∈OT->t∉us):Nv w' o d j:=⟨ZI h.sc m hd,ZI h.tb m hd⟩
theorem Nw.Rp {w:World}{base:Nat}{ts us:List TypeId}{k:Nat}(h:Nw w base ts k)(d: ∀ t,t∈ts->t∈us):Xs w us k:=by
 obtain⟨_,t,j,cs,h⟩:=h;exact⟨t,d t j,cs,(0,0),h⟩
theorem VM.t {w:World}{base:Nat}{o:Ob}{j:oA}{k0:Nat}{m:oA}{k1:Nat}{ts:List YX}{b:Nat->Nat}(h:VM w base o j k0 m k1 ts b):Nv w o j m:=
 ⟨h.sc.YW (fun k d=>d.Rp (by simp [OT])) (fun _ _=>rfl),h.tb.YW (fun k d=>d.Rp (by simp [OT])) (fun _ _=>rfl)⟩
structure Y6 (B:Nat) (x:Option Nat) (w w':World):Prop where
 os:w'.os=w.os
 tape:w'.tape=w.tape
 output:w'.output=w.output
 size:w.heap.size<=w'.heap.size
 block: ∀ k,k<B->x≠some k->w'.heap[k]?=w.heap[k]?
theorem _root_.Go.RowKit.Below.x {B:Nat}{w w':World}(h:Below B w w')(x:Option Nat):Y6 B x w w':=⟨h.os,h.tape,h.output,h.size,fun k d _=>h.block k d⟩
theorem Y6.low {B d:Nat}{x:Option Nat}{w w':World}(h:Y6 B x w w')(m:d<=B)(j: ∀ c,x=some c->d<=c):Below d w w':=⟨h.os,h.tape,h.output,h.size,fun k s=>h.block k (by omega) fun e=>by have:=j k e;omega⟩
theorem Y6.pre {B:Nat}{x:Option Nat}{w j w':World}(hb:Below B w j)(h:Y6 B x j w'):Y6 B x w w':=⟨h.os.trans hb.os,h.tape.trans hb.tape,h.output.trans hb.output,Nat.le_trans hb.size h.size,fun k d m=>(h.block k d m).trans (hb.block k d)⟩
theorem Y6.post {B:Nat}{x:Option Nat}{w j w':World}(h:Y6 B x w j)(hb:Below B j w'):Y6 B x w w':=⟨hb.os.trans h.os,hb.tape.trans h.tape,hb.output.trans h.output,Nat.le_trans h.size hb.size,fun k d m=>(hb.block k d).trans (h.block k d m)⟩
theorem Y6.mono {B B':Nat}{x:Option Nat}{w w':World}(h:Y6 B x w w')(j:B'<=B):Y6 B' x w w':=⟨h.os,h.tape,h.output,h.size,fun k m d=>h.block k (by omega) d⟩
theorem Y6.YK {B g:Nat}{x:Option Nat}{w w':World}{t:TypeId}{cs:lV}(h:Y6 B x w w')(d:ZP w g t cs)(j:g<B)(m:x≠some g):ZP w' g t cs:=(h.block g j m).trans d
def TT (x:Option Nat)(w:World)(base p:Nat)(R:Int->Ob->Prop)(e:Ending)(w':World):Prop:=
 ∃ er o' C0 m0 C1 m1,e= .returned (i6 er)/\R er o'/\ZP w' p 26 [.slice C0 o'.Z7.length m0,.slice C1 o'.Z8.length m1]/\Nv w' o' C0 C1/\Y6 base x w w'
def On (x:Option Nat)(g:Nat)(cb:Array Value)(o:Ob)(w0:World)(R:Int->Ob->Prop):Prop:=
 ∀ (w:World) (base p:Nat) (B0:oA) (l0:Nat) (B1:oA) (l1:Nat) (ts:List YX) (b:Nat->Nat),w0.heap.size<=base->Bw w0 w->VM w base o B0 l0 B1 l1 ts b->(∀ j,j<=ts.length->b j<=w.heap.size)->ZP w p 26 [.slice B0 o.Z7.length l0,.slice B1 o.Z8.length l1]->base<=p->Zc o=true->
  cQ g (#[pT p] ++cb) w (TT x w base p R)
def MM (o:Ob)(R:Int->Ob->Prop)(er:Int)(o':Ob):Prop:=
 if Zc o=true then(∃ o'',R er o''/\o'=if er=0 then o'' else⟨[],[]⟩) else er=63/\o'=⟨[],[]⟩
theorem VM.Ew {w:World}{base:Nat}{o:Ob}{C:oA}{k0:Nat}{D:oA}{k1:Nat}{ts:List YX}{b:Nat->Nat}(h:VM w base o C k0 D k1 ts b): ∃ E,VM w base o C k0 D k1 ts E/\ ∀ j,j<=ts.length->E j<=max base w.heap.size:=by
 refine⟨fun j=>if b j<=max base w.heap.size then b j else max base w.heap.size,⟨h.data,h.Z7,h.Z8,?_,fun j I=> ?_⟩,fun j I=> ?_⟩
 ·have:=h.low;show base<=if b 0<=max base w.heap.size then b 0 else max base w.heap.size
  split <;> omega
 ·obtain⟨M,K⟩:=h.tab j I;refine⟨by show (if b j<=max base w.heap.size then b j else max base w.heap.size)<=if b (j+1)<=max base w.heap.size then b (j+1) else max base w.heap.size;split <;> split <;> omega,?_⟩
  obtain⟨G,Jv,⟨rs,L,J,F⟩,Qu⟩:=K;have s:(if b j<=max base w.heap.size then b j else max base w.heap.size)<=b j:=by split <;> omega
  have up: ∀ g,g<b (j+1)->g<w.heap.size->g< (if b (j+1)<=max base w.heap.size then b (j+1) else max base w.heap.size):=fun g N O=>by split <;> omega
  exact⟨G.Yp s,fun g d=>up g (Jv g d) (YB G d),⟨rs,L,J.Yp s,fun r u=>⟨(F r u).1.YW (fun k m=>⟨m.1.mono s (fun _ h=>h),up k m.2 m.1.lt⟩) (fun _ _=>rfl),(F r u).2⟩⟩,fun g d=>up g (Qu g d) (YB J d)⟩
 ·show (if b j<=max base w.heap.size then b j else max base w.heap.size)<=max base w.heap.size
  split <;> omega
theorem VJ (x:Option Nat)(g:Nat)(cb:Array Value)(R:Int->Ob->Prop)(o:Ob)(I:oA)(k0:Nat)(J:oA)(k1:Nat)(w:World)(eg: ∀ args w,(callFunc g args).run prog w= .ok (.enter g args) w)(hO:ME w o I J)(ho:o.Zo 1099511627776)(ak:On x g cb o w R)(hx: ∀ c,x=some c->c<w.heap.size):
  cQ 172 #[.agg #[.slice I o.Z7.length k0,.slice J o.Z8.length k1],.func (.func g) #[] cb] w fun e w'=> ∃ d h K U L V,e= .returned (.tuple #[.agg #[.slice K h.Z7.length U,.slice L h.Z8.length V],i6 d])/\MM o R d h/\Nv w' h K L/\Y6 w.heap.size x w w':=by
 have af:=hid hO;have HO:=hid ho;have ap:=hid ak;have u:=iN 26 2;have G:Hid (Sj o=if Zc o=true then 0 else 63):=hid rfl;have E:Hid (∀ d h,MM o R d h=if Zc o=true then(∃ an,R d an/\h=if d=0 then an else⟨[],[]⟩) else d=63/\h=⟨[],[]⟩):=hid fun _ _=>rfl
 clear hO ho ak;go_enter func172,ntmps172
 go_wp2_with fail;refine Zi _ fun W s=> ?_
 have N:=bQ s;have P1:=nD s;have Q1:=nF s;clear s;have C:=af.o.later N.o;refine(Vp o I k0 J k1 W C.sc C.tb HO.o).mono ?_
 rintro e W2 ⟨rfl,hb⟩;have D:=bt N hb;have T:=bl P1 hb;have M:=bl Q1 hb;clear hb N P1 Q1 C;generalize Sj o=eo at*
 cases hc:Zc o
 ·rw [hc] at E G;obtain rfl:eo=63:=G.o;go_wp2_with (first | ((refine sO M u ?_);intro wS m) | fail);refine bodyPost_ret (rt (hid m.o.YK) underlying26 u) rfl ?_
  exact⟨63,⟨[],[]⟩,none,0,none,0,rfl,by rw [E.o];exact⟨rfl,rfl⟩,⟨ZT.nil,ZT.nil⟩,(m.o.below D.o (by omega)).x x⟩
 have ao:=hid hc;rw [hc] at E G;obtain rfl:eo=0:=G.o;have p0:=ce T 0;have p1:=ce T 1;go_wp2_with fail;have C:=af.o.later D.o;refine(FG o I k0 J k1 W2 C.sc C.tb HO.o).mono ?_
 rintro e W3 ⟨B0,l0,B1,l1,ts,b,rfl,am,hb⟩;have ab:=bt D hb;have Q3:=bl M hb;have aw:=hb.size;have av:=D.o.size;have au:=M.o.lt;obtain⟨b',Z,aj⟩:=am.Ew;have ae:=hid Z;have ad:=hid aj;clear hb D T M p0 p1 C am Z aj;go_wp2_with fail;refine Zi _ fun W4 s=> ?_
 have F:Bw W3 W4:=by rw [s];exact br.alloc lr _
 have O:=bt ab F;have R4:=nC s;have Q4:=bl Q3 F;clear s;refine(ap.o W4 W2.heap.size W3.heap.size B0 l0 B1 l1 ts b' (by omega) O.o (ae.o.below F) (fun j hj=>by have:=ad.o j hj;have:=F.size;omega) R4.o (by omega) ao.o).mono ?_
 rintro e W5 ⟨d,h,K,U,L,V,rfl,hR,ai,ah,hb⟩;have ac:=hid (Y6.pre O.o (hb.mono (by omega)));have Q5:=hid (hb.YK Q4.o (by omega) fun e=>by have:=hx _ e;omega)
 have R5:=hid ai;have ag:=hid hR;have aa:=hid ah;clear hb F ab O R4 Q4 hR ai ah ae ad Q3;by_cases he:d=0
 ·subst he;go_wp2_with (first
   |(refine lO R5 u underlying26 ?_)
   |((refine sO Q5 u ?_);intro wS m) | fail)
  refine bodyPost_ret (rt (hid m.o.YK) underlying26 u) rfl ?_
  exact⟨0,h,K,U,L,V,rfl,by rw [E.o];exact⟨h,ag.o,rfl⟩,aa.o.keeps m.o.keeps (by decide),ac.o.post (m.o.Rw.mono (by omega))⟩
 ·have aq:(d == 0)=false:=by simpa using he
  have ar:(d != 0)=true:=by simp [he]
  go_wp2_with (first | ((refine sO Q5 u ?_);intro wS m) | fail);refine bodyPost_ret (rt (hid m.o.YK) underlying26 u) rfl ?_
  exact⟨d,⟨[],[]⟩,none,0,none,0,rfl,by rw [E.o];exact⟨h,ag.o,by rw [if_neg he]⟩,⟨ZT.nil,ZT.nil⟩,ac.o.post (m.o.Rw.mono (by omega))⟩
end Go.Proofs.YtnhmoibjlakhjaaGreat
