/- Lemmas of the proof. No condition but each theorem's own. -/
import Derived.Test.YtnhmoibjlakhjaaGreatM14
import Derived.Test.YtnhmoibjlakhjaaGreatM15
import Derived.Test.YtnhmoibjlakhjaaGreatM03
import Derived.Test.YtnhmoibjlakhjaaGreatM10
import Derived.OrdersHeld
set_option linter.unusedVariables false
set_option linter.unusedSimpArgs false
namespace Go.Proofs.YtnhmoibjlakhjaaGreat
open Lib (hid)
set_option maxRecDepth 100000
set_option maxHeartbeats 16000000
open Go.RowKit
theorem Wk {w:World}{S:Nat→Prop}{ns:List (List UInt8)}{A:Option Addr}(h:ZV w S [.Z9] (YY ns) A){j:Nat}(hj:j<ns.length): ∃ ad,A=some ad∧w.cell? (ad.add j)=some (.string (Z9 ns[j])):=by
 obtain⟨ad,vs,e,hv,hr⟩:=h.at_ (j:=j) (by simpa [YY] using hj);have e1:(YY ns)[j]'(by simpa [YY] using hj)= [.Z9 ns[j]]:=by simp [YY]
 rw [e1] at hv;obtain⟨d0,ds0,v0,vs0,hd,rfl,h0,r0⟩:=hv.cons;injection hd with hd1 hd2
 subst hd1;obtain⟨b,hb0,rfl⟩:=h0.T0;injection hb0 with hb0
 subst hb0;exact⟨ad,e,by simpa using hr 0 _ rfl⟩
theorem Mf:(Tryz.prog.info? 62).map (fun i=>(i.zero,i.size,i.bytes))=some (some (.int .i64 0),1,8):=by kernel_rfl
def RI (l:List Int):List Value:=l.map fun n=> .int .i64 n
theorem Qj (l:List Cl)(ns:List (List UInt8))(A:Option Addr)(k:Nat)(B:Option Addr)(m:Nat)(w:World)(hA:ZV w (· < w.heap.size) Zo (l.map Cl.da) A)(hB:ZV w (· < w.heap.size) [.Z9] (YY ns) B)
  (hn:l.length≤1099511627776) (hm:ns.length≤1099511627776):
  Calls Tryz.prog 236 #[.slice A l.length k,.slice B ns.length m] w fun e w'=> ∃ A' c,e= .returned (.slice A' (YE l ns).length c)∧w'.ownsRow w.heap.size 62 1 (.slice A' (YE l ns).length c) (YE l ns).length (RI (YE l ns))∧Below w.heap.size w w':=by
 have HA:=hid hA;have HB:=hid hB;clear hA hB;obtain⟨i0,hi0,hz0,hz1,hz2⟩:=info_parts Mf;go_enter Tryz.func236,Tryz.ntmps236
 go_wp2;go_loopw [5,11] (fun s i wr=> ∃ (j:Nat) (A':Option Addr) (c:Nat),j≤ns.length∧i= .int .i64 j∧s= .slice A' (YE l (ns.take j)).length c∧Hid (wr.ownsRow w.heap.size 62 1 (.slice A' (YE l (ns.take j)).length c) (YE l (ns.take j)).length (RI (YE l (ns.take j))))∧Hid (Below w.heap.size w wr)) (fun _ i _=>ns.length - (intOf i).toNat)
 case atStart=>exact⟨0,none,0,Nat.zero_le _,rfl,rfl,hid (World.ownsRow_nil _ w.heap.size 62 1),hid br⟩
 case round=>
  obtain⟨j,A',c,hj,rfl,rfl,HO,HBw⟩:=hrel;by_cases hlt:j<ns.length
  ·obtain⟨ad,rfl,a0⟩:=Wk (HB.out.below HBw.out) hlt;have HX:=hid (Ov l ns j hlt);have hle:(YE l (ns.take j)).length≤ns.length:=Nat.le_trans (List.length_filterMap_le _ _) (by simp;omega)
   have HK0:=hid (Ow l ns[j]);have HK1:=hid (fun i=> @Qk l ns[j] i);have HBy:=hid (Xy l ns[j]);have e1:(YE l ns).length=(YE l ns).length:=rfl;generalize ns[j]=n at*;generalize hK:YE l (ns.take j)=xs at*;go_wp2_with fail;have cB:=XH (l.map Cl.da) A k n wr ((HA.out.below HBw.out).Y6 (fun _ h=>Nat.lt_of_lt_of_le h HBw.out.size) fun _ _=>rfl) (by simpa using hn);rw [List.length_map,HBy.out] at cB;refine cB.mono ?_
   rintro e w2 ⟨rfl,hb⟩;have HB2:=bt HBw hb;have HO2:=hid (HO.out.Zu hb);clear hb cB HO a0
   cases hc:XJ l n with
   | none=>
    have HX':Hid (YE l (ns.take (j+1))=xs):=hid (by rw [HX.out,HK0.out hc];simp);go_wp2;go_roundw
    case rel=>exact⟨j+1,A',c,by omega,by go_num,by rw [HX'.out],hid (by rw [HX'.out];exact HO2.out),HB2⟩
    case measure=>simp [intOf];omega
   | some i=>
    obtain⟨hi,hk⟩:=HK1.out i hc;have HX':Hid (YE l (ns.take (j+1))=xs ++ [l[i].ZQ]):=hid (by rw [HX.out,hk];rfl)
    obtain⟨ad2,vs,rfl,hv,hr⟩:=(HA.out.below HB2.out).at_ (j:=i) (by simpa using hi);rw [List.getElem_map] at hv;generalize l[i]=cl at*;obtain rfl:=Cl.Y4 hv;have a1:=ef (m:=i*3) hr 1;rw [show Xe (some i)=(i:Int) from rfl];clear hv hr;have hi':(0:Int)≤(i:Int):=by omega
    have HSZ:=HB2.out.size;go_wp2_with (at_builtin;refine MV rfl _ _ _ rfl w.heap.size 62 i0 _ 8 Tryz.underlying275 hi0 hz0 hz1 hz2 rfl _ _ _ rfl (HO2.out.alloc _) _ _ 1 1 _ rfl (Reads.Im w2 _ _) (Il _ _) (by unfold maxLen;omega) (by omega) (by simp;omega) w (HB2.out.alloc HSZ _) ?_;intro A2 c2 w3 HO3 hb3 _);go_roundw
    case rel=>exact⟨j+1,A2,c2,by omega,by go_num,by rw [HX'.out];simp,hid (by rw [HX'.out];simpa [RI] using HO3.out),hid hb3⟩
    case measure=>simp [intOf];omega
  ·obtain rfl:j=ns.length:=by omega
   rw [List.take_length] at HO ⊢;go_wp2;go_ret;exact⟨_,_,rfl,HO.out,HBw.out⟩
theorem Ql (ns:List (List UInt8))(A:Option Addr)(c:Nat)(x:List UInt8)(w:World)(hA:ZV w (· < w.heap.size) [.Z9] (YY ns) A)(hn:ns.length≤1099511627776):
  Calls Tryz.prog 69 #[.slice A ns.length c,.string (Z9 x)] w fun e w'=>e= .returned (.int .i64 (Zh (fun n=>x == n) ns 0))∧w'=w:=by
 have HA:=hid hA;clear hA;go_enter Tryz.func69,Tryz.ntmps69
 go_wp2;go_loopw [8] (fun i wr=> ∃ j:Nat,j≤ns.length∧i= .int .i64 j∧Hid (wr=w)∧Hid (Zh (fun n=>x == n) ns 0=Zh (fun n=>x == n) (ns.drop j) j)) (fun i _=>ns.length - (intOf i).toNat)
 case atStart=>exact⟨0,Nat.zero_le _,rfl,hid rfl,hid (by rw [List.drop_zero])⟩
 case round=>
  obtain⟨j,hj,rfl,HW,HE⟩:=hrel;by_cases hlt:j<ns.length
  ·obtain⟨ad,rfl,a0⟩:=Wk (w:=wr) (by rw [HW.out];exact HA.out) hlt;have HX:Hid (Zh (fun n=>x == n) ns 0=if(x == ns[j])=true then(j:Int) else Zh (fun n=>x == n) (ns.drop (j+1)) (j+1)):=hid (HE.out.trans (Xw hlt));generalize ns[j]=n at*
   cases hq:(x == n)
   ·rw [hq] at HX;have HX':Hid (Zh (fun n=>x == n) ns 0=Zh (fun n=>x == n) (ns.drop (j+1)) (j+1)):=hid HX.out;go_wp2;go_roundw
    case rel=>exact⟨j+1,by omega,by go_num,HW,HX'⟩
    case measure=>simp [intOf];omega
   ·rw [hq] at HX;have HX':Hid (Zh (fun n=>x == n) ns 0=(j:Int)):=hid HX.out;go_wp2;go_ret;exact⟨by rw [HX'.out];rfl,HW.out⟩
  ·obtain rfl:j=ns.length:=by omega
   rw [List.drop_length] at HE;go_wp2;go_ret;exact⟨by rw [HE.out];rfl,HW.out⟩
theorem Zl (ns:List (List UInt8))(A:Option Addr)(c:Nat)(x:List UInt8)(w:World)(hA:ZV w (· < w.heap.size) [.Z9] (YY ns) A)(hn:ns.length≤1099511627776):
  Calls Tryz.prog 30 #[.slice A ns.length c,.string (Z9 x)] w fun e w'=>e= .returned (.bool (ns.contains x))∧w'=w:=by
 have h:=Ql ns A c x w hA hn;have HD:Hid (decide (0≤Zh (fun n=>x == n) ns 0)=ns.contains x):=hid (by rw [WY,List.contains_eq_any_beq]);go_enter Tryz.func30,Tryz.ntmps30
 go_wp2_with fail;refine h.mono ?_
 rintro e w2 ⟨rfl,rfl⟩;go_wp2;go_ret;exact⟨by rw [←HD.out];rfl,rfl⟩
theorem UL {α:Type}(c:α→α→Int)(l:List α)(j:Nat)(h:j+1<l.length):Zn c (l.drop j)=(decide (c l[j] l[j+1]<0) && Zn c (l.drop (j+1))):=by
 rw [List.drop_eq_getElem_cons (show j<l.length by omega),List.drop_eq_getElem_cons h];rfl
theorem Uc {α:Type}(c:α→α→Int)(l:List α)(j:Nat)(h:l.length≤j+1):Zn c (l.drop j)=true:=by
 cases hd:l.drop j with
 | nil=>rfl
 | cons a r=>
  cases r with
  | nil=>rfl
  | cons b r=>
   have:=congrArg List.length hd;simp at this;omega
theorem Sc.Y4 {w:World}{S:Nat→Prop}{c:Sc}{vs:List Value}(h:ZG w S Zm c.da vs):vs=c.cs:=by
 obtain⟨s,h1,rfl⟩:=Sc.YM h
 cases c
 cases s
 simp [Sc.da] at h1;obtain⟨rfl,rfl⟩:=h1;rfl
theorem Pk (l:List Sc)(A:Option Addr)(k:Nat)(w:World)(hA:ZV w (· < w.heap.size) Zm (l.map Sc.da) A)(hn:l.length≤1099511627776):
  Calls Tryz.prog 105 #[.slice A l.length k,.func (.func 106) #[] #[]] w fun e w'=>e= .returned (.bool (Zn WM l))∧Below w.heap.size w w':=by
 have HA:=hid hA;clear hA;go_enter Tryz.func105,Tryz.ntmps105
 go_wp2;go_loopw [10] (fun i wr=> ∃ j:Nat,(j+1≤l.length∨j=0)∧i= .int .i64 j∧Hid (Zn WM l=Zn WM (l.drop j))∧Hid (Below w.heap.size w wr)) (fun i _=>l.length - (intOf i).toNat)
 case atStart=>exact⟨0,Or.inr rfl,rfl,hid (by rw [List.drop_zero]),hid br⟩
 case round=>
  obtain⟨j,hj,rfl,HE,HBw⟩:=hrel;by_cases hlt:j+1<l.length
  ·have hlt':(j:Int)< (l.length:Int) - 1:=by omega
   have hb1:(j:Int)+1< (l.length:Int):=by omega
   have hb2:(0:Int)≤(j:Int)+1:=by omega
   have hb3:((j:Int)+1).toNat=j+1:=by omega
   have hb4:(j:Int)< (l.length:Int):=by omega
   have hwr:IntKind.i64.wrap ((j:Int)+1)=(j:Int)+1:=by simp [IntKind.wrap,IntKind.bits,IntKind.signed];omega
   have hmax:(max 0 ((l.length:Int) - 1))=(l.length:Int) - 1:=by omega
   obtain⟨ad,vs,rfl,hv,hr⟩:=(HA.out.below HBw.out).at_ (j:=j) (by simpa using (by omega:j<l.length));obtain⟨ad',vs',e',hv',hr'⟩:=(HA.out.below HBw.out).at_ (j:=j+1) (by simpa using hlt);injection e' with e'
   subst e';rw [List.getElem_map] at hv hv';have HX:Hid (Zn WM l=(decide (WM l[j] l[j+1]<0) && Zn WM (l.drop (j+1)))):=hid (HE.out.trans (UL WM l j hlt));generalize l[j]=x at*;generalize l[j+1]=y at*;obtain rfl:=Sc.Y4 hv;obtain rfl:=Sc.Y4 hv';have a0:=e0 (m:=j*2) hr;have a1:=ef (m:=j*2) hr 1;have b0:=e0 (m:=(j+1)*2) hr';have b1:=ef (m:=(j+1)*2) hr' 1;clear hv hv' hr hr';rw [hmax];have hz:=World.block_lt_of_cell? wr _ a0;have hz':=World.block_lt_of_cell? wr _ b0;have hW0:Below wr.heap.size wr wr.drew:=Below.drew br;have hkeep:Hid (∀ w1 w2,(fun w'=>Below wr.heap.size wr w'∧w'.cell? (ad.add (j*2))=some (.string (Z9 x.name))∧w'.cell? ⟨(ad.add (j*2)).block,(ad.add (j*2)).off+1,none⟩=some (.string (Z9 x.ZN))∧w'.cell? (ad.add ((j+1)*2))=some (.string (Z9 y.name))∧w'.cell? ⟨(ad.add ((j+1)*2)).block,(ad.add ((j+1)*2)).off+1,none⟩=some (.string (Z9 y.ZN))) w1→Below w1.heap.size w1 w2→(fun w'=>Below wr.heap.size wr w'∧w'.cell? (ad.add (j*2))=some (.string (Z9 x.name))∧w'.cell? ⟨(ad.add (j*2)).block,(ad.add (j*2)).off+1,none⟩=some (.string (Z9 x.ZN))∧w'.cell? (ad.add ((j+1)*2))=some (.string (Z9 y.name))∧w'.cell? ⟨(ad.add ((j+1)*2)).block,(ad.add ((j+1)*2)).off+1,none⟩=some (.string (Z9 y.ZN))) w2):=hid (by
    intro w1 w2 ⟨h1,_⟩ h2;have h3:Below wr.heap.size wr w2:=h1.trans (h2.mono h1.size);exact⟨h3,ct a0 h3 hz,ct a1 h3 hz,ct b0 h3 hz',ct b1 h3 hz'⟩)
   have hcmp:=fun W=>Nc x y W
   unfold Sc.cs at hcmp;generalize WM x y=r at*;go_wp2_with fail;go_region_held_law (fun w'=>Below wr.heap.size wr w'∧w'.cell? (ad.add (j*2))=some (.string (Z9 x.name))∧w'.cell? ⟨(ad.add (j*2)).block,(ad.add (j*2)).off+1,none⟩=some (.string (Z9 x.ZN))∧w'.cell? (ad.add ((j+1)*2))=some (.string (Z9 y.name))∧w'.cell? ⟨(ad.add ((j+1)*2)).block,(ad.add ((j+1)*2)).off+1,none⟩=some (.string (Z9 y.ZN)))
    (first | exact hkeep.out _ _ (by assumption) (by assumption) | exact⟨hW0,a0,a1,b0,b1⟩)
    (first | (go_at_call 106;refine(hcmp _).mono ?_;rintro e w' ⟨rfl,hb⟩))
   rename_i hS;have HB2:=bt HBw hS.1;clear hS;by_cases hq:r<0
   ·have HX':Hid (Zn WM l=Zn WM (l.drop (j+1))):=hid (by rw [HX.out];simp [hq]);have hq': ¬ r≥0:=by omega
    have hq2: ¬ 0≤r:=by omega
    go_wp2;go_roundw
    case rel=>exact⟨j+1,by omega,by go_num,HX',HB2⟩
    case measure=>simp [intOf];omega
   ·have HX':Hid (Zn WM l=false):=hid (by rw [HX.out];simp [hq]);have hq':r≥0:=by omega
    have hq2:0≤r:=by omega
    go_wp2;go_ret;exact⟨by rw [HX'.out];rfl,HB2.out⟩
  ·have HR:Hid (Zn WM l=true):=hid (HE.out.trans (Uc WM l j (by omega)));have hlt': ¬ (j:Int)<max 0 ((l.length:Int) - 1):=by omega
   go_wp2;go_ret;exact⟨by rw [HR.out];rfl,HBw.out⟩
end Go.Proofs.YtnhmoibjlakhjaaGreat
namespace Go.Proofs.YtnhmoibjlakhjaaGreat
set_option maxRecDepth 100000
set_option maxHeartbeats 16000000
open Go.RowKit
section
variable {P : Program} {ops : Array Oper} {Q : Exit → Act → World → Prop} {md : Region.Mode} {S : World → Prop}
def MS (P:Program)(ops:Array Oper)(S:World→Prop)(o:Oper)(v:Value)(a:Act):Prop:=
 Region.wanted o (yielded ops a.tmps)=true∧ ∀ w,S w→ ∃ f args,(execOp a.eval o).run P w= .ok (.enter f args) w∧Calls P f args w fun e w'=>e= .returned v∧w'=w
theorem MS.wpOp {i:Nat}{o:Oper}{v:Value}{a:Act}(hi:ops[i]?=some o)(hy:MS P ops S o v a){K:Act→World→Prop}{w:World}(hS:S w)(h:K (a.put o.dst v) w):wpOp P ops Q i K a w:=by
 obtain⟨hw,hv⟩:=hy;obtain⟨f,args,hr,hc⟩:=hv w hS;unfold Go.wpOp;simp only [hi,hw,if_true,Oper.wp,hr,Oper.upon];refine .inl (Calls.mono hc ?_)
 rintro e w' ⟨rfl,rfl⟩;exact h
theorem S5 {op:Oper}{a:Act}(hw:Region.wanted op (yielded ops a.tmps)=true)(ty:TypeId)(x:Operand)(ho:op.op= .load ty x)(ad:Addr)(hx:a.eval x= .pointer (some ad))(cs:List Value)(d:TypeDesc)
  (hS: ∀ w,S w→ ∀ j v,cs[j]?=some v→w.cell? (ad.add j)=some v) (hu:P.underlying ty=some d) (hd:d.isRow=true) (hi:(P.info? ty).map (·.size)=some cs.length):YieldsIf P ops S op (.agg cs.toArray) a:=
 .inl ⟨hw,fun w h=>by
  unfold execOp;simp only [ho,hx,Instr.loadAt,Instr.sureAddr,Sem.run_bind,Sem.run_pure,Result.andThen_ok,UK w ad ty cs d (hS w h) hu hd hi]⟩
end
end Go.Proofs.YtnhmoibjlakhjaaGreat
