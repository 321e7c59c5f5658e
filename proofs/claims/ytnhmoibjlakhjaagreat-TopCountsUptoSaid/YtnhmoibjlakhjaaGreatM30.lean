/- Lemmas of the proof. No condition but each theorem's own. -/
import Derived.Test.YtnhmoibjlakhjaaGreatM29
import Derived.Shelf.SlSortCmp.NoneTotal
import Derived.WalkMore
import Derived.Test.YtnhmoibjlakhjaaGreatM18
import Derived.Test.YtnhmoibjlakhjaaGreatM03
import Derived.Test.YtnhmoibjlakhjaaGreatM10
set_option linter.unusedVariables false
set_option linter.unusedSimpArgs false
namespace Go.Proofs.YtnhmoibjlakhjaaGreat
open Lib (hid)
set_option maxRecDepth 100000
set_option maxHeartbeats 16000000
open Go.RowKit Go.Maps
def MR (c:Ca)(w:World)(e:Ending)(w':World):Prop:=
 ∃ (l:List Gr) (A:Option Addr) (k:Nat),e= .returned (.slice A l.length k)∧l.Perm (VX c)∧w'.ownsRow w.heap.size 53 6 (.slice A l.length k) l.length (l.flatMap Gr.cs)∧Below w.heap.size w w'
theorem Sm (r:Ro)(ZR:List UInt8):(X6 r ZR).length≤r.ZW.length:=by
 unfold X6;split
 ·exact List.length_filter_le _ _
 ·simp
theorem UZ {P:Program}{o:Oper}{a:Act}{w w':World}{K:Act→World→Prop}{Q:Exit→Act→World→Prop}{t:TypeId}(m x:Operand)(hop:o.op=Op.mapEntry t m x){vm key v:Value}(hm:a.eval m=vm)(hx:a.eval x=key)
  (hrun:(Instr.mapEntry t vm key).run P w= .ok v w') (h:K (a.put o.dst v) w'):Oper.wp P o a w K Q:=by
 unfold Oper.wp;simp [execOp,hop,hm,hx,hrun,Result.andThen];exact h
theorem VE {P:Program}{o:Oper}{a:Act}{w w':World}{K:Act→World→Prop}{Q:Exit→Act→World→Prop}{t:TypeId}(m x v:Operand)(hop:o.op=Op.entryStore t m x v){vm st val:Value}(hm:a.eval m=vm)(hx:a.eval x=st)(hv:a.eval v=val)
  (hrun:(Instr.entryStore t vm st val).run P w= .ok () w') (h:K (a.put o.dst undef) w'):Oper.wp P o a w K Q:=by
 unfold Oper.wp;simp [execOp,hop,hm,hx,hv,hrun,Result.andThen];exact h
theorem Below.QM (w W:World){o:Obj}(h:W=w.alloc o):Below w.heap.size w W.drew:=by
 subst h;exact(br.alloc lr _).drew
theorem RJ (c:Ca)(A:WV)(w:World)(hc:Wh w w.heap.size c A)(ht:c.Zs 1099511627776):
  Calls Tryz.prog 37 #[.agg (c.cs A).toArray] w (MR c w):=by
 have HC:=hid hc;have HT:=hid ht;have HHold:Hid (VX c=if XT c then X9 c c.Z3.length [] else []):=hid rfl;have HI6:=iN 53 6;have HI5:=iN 73 5;have HI7:=iN 33 7;clear hc ht;unfold Ca.cs;have P0:Hid (ZP (w.alloc (.cells #[.int .i64 c.ZO,.int .i64 c.ZU,.slice A.a0 c.ob.Z4.length A.k0,.slice A.a1 c.ob.Z7.length A.k1,.slice A.a2 c.ro.ZW.length A.k2,.slice A.a3 c.ro.Z2.length A.k3,.slice A.a4 c.Z3.length A.k4] 33)) w.heap.size 33 [.int .i64 c.ZO,.int .i64 c.ZU,.slice A.a0 c.ob.Z4.length A.k0,.slice A.a1 c.ob.Z7.length A.k1,.slice A.a2 c.ro.ZW.length A.k2,.slice A.a3 c.ro.Z2.length A.k3,.slice A.a4 c.Z3.length A.k4]):=hid (ZP.new w _ _);have HB0:Hid (Below w.heap.size w (w.alloc (.cells #[.int .i64 c.ZO,.int .i64 c.ZU,.slice A.a0 c.ob.Z4.length A.k0,.slice A.a1 c.ob.Z7.length A.k1,.slice A.a2 c.ro.ZW.length A.k2,.slice A.a3 c.ro.Z2.length A.k3,.slice A.a4 c.Z3.length A.k4] 33))):=hid (br.alloc lr _);have hmm:= @run_makeMap Tryz.prog;go_enter Tryz.func37,Tryz.ntmps37
 go_wp2_with fail;go_step3
 go_wp2_with (first | (refine lO P0 HI7 Tryz.underlying33 ?_) | fail);generalize (w.alloc (.cells #[.int .i64 c.ZO,.int .i64 c.ZU,.slice A.a0 c.ob.Z4.length A.k0,.slice A.a1 c.ob.Z7.length A.k1,.slice A.a2 c.ro.ZW.length A.k2,.slice A.a3 c.ro.Z2.length A.k3,.slice A.a4 c.Z3.length A.k4] 33))=W0 at*;have cS:=Rk c A W0 (HC.out.later HB0.out) HT.out;unfold Ca.cs at cS;refine cS.mono ?_
 rintro e W1 ⟨rfl,hb⟩;have HB1:=bt HB0 hb;have P1:=bl P0 hb;clear hb HB0 P0 cS W0
 cases hst:XT c
 ·have HRes:Hid (MR c w (.returned (.slice none 0 0)) W1):=hid ⟨[],none,0,rfl,by rw [HHold.out,hst];exact List.Perm.refl _,Xu _,HB1.out⟩;clear hst;go_wp2;rw [Exit.noGoto_ret];go_ret;exact HRes.out
 have HH2:Hid (VX c=X9 c c.Z3.length []):=hid (by rw [HHold.out,hst];rfl);have h64:c.Z3.length≤64:=(Yz hst).1;have HStd:=hid hst;clear hst HHold;have hlo:=P1.out.lt;have q6:((W1.alloc (.map #[] 0)).alloc (.map #[] 0)).cell? ⟨w.heap.size,6,none⟩=some (.slice A.a4 c.Z3.length A.k4):=((P1.out.alloc _).alloc _).cell 6;go_wp2_with fail;have M0:Hid (Y5 Tryz.prog 156 SV (W1.alloc (.map #[] 0)) (.int .i64 0) W1.heap.size 0 (SS [])):=hid (Y5.made Tryz.prog 156 SV W1 (.int .i64 0));have J0:Hid (LG c (W1.alloc (.map #[] 0)) ((W1.alloc (.map #[] 0)).alloc (.map #[] 0)) (W1.heap.size+1) 0 (fun _=> .slice none 0 0)):=hid ⟨br.alloc lr _,by
  have:=Y5.made Tryz.prog 9 Vq (W1.alloc (.map #[] 0)) (.slice none 0 0);rw [show (W1.alloc (.map #[] 0)).heap.size=W1.heap.size+1 from by simp] at this;exact this,fun _=>Or.inl rfl,fun i _ h=>absurd h (Nat.not_lt_zero _)⟩
 have HBb:Hid (Below w.heap.size w (W1.alloc (.map #[] 0))):=hid (HB1.out.alloc HB1.out.size _);have Pb:Hid (ZP (W1.alloc (.map #[] 0)) w.heap.size 33 [.int .i64 c.ZO,.int .i64 c.ZU,.slice A.a0 c.ob.Z4.length A.k0,.slice A.a1 c.ob.Z7.length A.k1,.slice A.a2 c.ro.ZW.length A.k2,.slice A.a3 c.ro.Z2.length A.k3,.slice A.a4 c.Z3.length A.k4]):=hid (P1.out.alloc _);have hsb:(W1.alloc (.map #[] 0)).heap.size=W1.heap.size+1:=by simp
 have HSb:=hid hsb;clear q6 hmm hsb;go_loopw [20] (fun i wr=> ∃ (j:Nat) (nx:List UInt8→Value),j≤c.Z3.length∧i= .int .i64 j∧Hid (LG c (W1.alloc (.map #[] 0)) wr (W1.heap.size+1) j nx)) (fun i _=>c.Z3.length - (intOf i).toNat)
 case atStart=>exact⟨0,_,Nat.zero_le _,rfl,J0⟩
 case round=>
  clear J0;obtain⟨j,nx,hj,rfl,HJ⟩:=hrel;have HBw:=bt HBb HJ.out.below;have K0:Hid (ZP wr w.heap.size 33 [.int .i64 c.ZO,.int .i64 c.ZU,.slice A.a0 c.ob.Z4.length A.k0,.slice A.a1 c.ob.Z7.length A.k1,.slice A.a2 c.ro.ZW.length A.k2,.slice A.a3 c.ro.Z2.length A.k3,.slice A.a4 c.Z3.length A.k4]):=bl Pb HJ.out.below;by_cases hlt:j<c.Z3.length
  ·obtain⟨ad,vs,hA4,hv,hr⟩:=((HC.out.later HBw.out).gr).at_ (j:=j) (by simpa using hlt);rw [List.getElem_map] at hv;have HSm:Hid (c.Z3[j].ZM.length≤1099511627776):=hid (by have:=U7 HStd.out (List.getElem_mem hlt);omega)
   have HGj:Hid (∀ v,c.Z3[j].ZM=v→True):=hid fun _ _=>trivial
   generalize hgj:c.Z3[j]=g at*;have HGJ:=hid hgj;obtain rfl:=Gr.Y4 hv;have HG:Hid (∀ i' u,(g.cs)[i']?=some u→wr.cell? ((ad.add (j*6)).add i')=some u):=hid fun i' u hu=>by rw [ZE];exact hr i' u hu
   unfold Gr.cs at HG;have HL:Hid ((Tryz.prog.info? 53).map (·.size)=some ([.string (Z9 g.Z8),.string (Z9 g.ZX),.int .i64 g.right,.string (Z9 g.ZM),.string (Z9 g.to),.bool g.Zy]:List Value).length):=HI6;obtain⟨A1,n1,c1,hv1⟩: ∃ A1 n1 c1,nx g.ZM= .slice A1 n1 c1:=by
    rcases HJ.out.all g.ZM with h | ⟨A1,c1,h,_⟩
    ·exact⟨_,_,_,h⟩
    ·exact⟨_,_,_,h⟩
   have hlook:(Instr.lookup 154 (.map (some (W1.heap.size+1))) (.string (Z9 g.ZM)) false).run Tryz.prog (wr.alloc (.cells #[.string (Z9 g.Z8),.string (Z9 g.ZX),.int .i64 g.right,.string (Z9 g.ZM),.string (Z9 g.to),.bool g.Zy] 53))= .ok (.slice A1 n1 c1) (wr.alloc (.cells #[.string (Z9 g.Z8),.string (Z9 g.ZX),.int .i64 g.right,.string (Z9 g.ZM),.string (Z9 g.to),.bool g.Zy] 53)):=by
    have:=(HJ.out.map.alloc (.cells #[.string (Z9 g.Z8),.string (Z9 g.ZX),.int .i64 g.right,.string (Z9 g.ZM),.string (Z9 g.to),.bool g.Zy] 53)).look WL Tryz.underlying154 (by kernel_rfl) (x:=g.ZM) (by have:=HSm.out;unfold maxLen;omega);rw [hv1] at this;exact this
   have HV1:=hid hv1;clear hv hr hgj hv1 HGj;rw [hA4];by_cases hn:n1=0
   ·subst hn;go_wp2_with (first | (with_reducible refine ZH rfl 53 _ rfl (ad.add (j*6)) rfl [.string (Z9 g.Z8),.string (Z9 g.ZX),.int .i64 g.right,.string (Z9 g.ZM),.string (Z9 g.to),.bool g.Zy] _ HG.out Tryz.underlying53 rfl HL.out ?_) | fail);refine VP _ fun W5 hW=> ?_
    have HW5:=hid hW;have HB5:Hid (Below w.heap.size w W5.drew):=hid (by rw [hW];exact(HBw.out.alloc HBw.out.size _).drew);have P5:=rB hW (K0.out.alloc _);have G5:=nC hW;rw [hA4] at P5;have HS9:W5.drew.cell? ⟨wr.heap.size,3,none⟩=some (.string (Z9 g.ZM))∧W5.drew.cell? ⟨w.heap.size,4,none⟩=some (.slice A.a2 c.ro.ZW.length A.k2)∧W5.drew.cell? ⟨w.heap.size,5,none⟩=some (.slice A.a3 c.ro.Z2.length A.k3):=⟨G5.out.cell 3,P5.out.cell 4,P5.out.cell 5⟩
    clear hW hlook HG HL;refine Zw 11 (S:=fun w'=>w'.cell? ⟨wr.heap.size,3,none⟩=some (.string (Z9 g.ZM))∧w'.cell? ⟨w.heap.size,4,none⟩=some (.slice A.a2 c.ro.ZW.length A.k2)∧w'.cell? ⟨w.heap.size,5,none⟩=some (.slice A.a3 c.ro.Z2.length A.k3)) (by kernel_rfl) HS9 (fun HD'=> ?_)
    (try simp only [pp]);refine Y8 0 31 HD' ?_;refine Y8 1 32 HD' ?_;refine Y8 2 33 HD' ?_;refine Y8 3 34 HD' ?_;refine Y8 4 35 HD' ?_;refine Y8 5 36 HD' ?_;refine Y8 6 37 HD' ?_;refine SE 7 38 fun K hK=> ?_
    go_simp;refine(SB c.ro A.a2 A.k2 A.a3 A.k3 g.ZM W5.drew (HC.out.later HB5.out).nm (HC.out.later HB5.out).mb HT.out.2.1).mono ?_
    rintro e W6 ⟨A6,c6,rfl,hr6,hb6⟩;have HD6:W6.cell? ⟨wr.heap.size,3,none⟩=some (.string (Z9 g.ZM))∧W6.cell? ⟨w.heap.size,4,none⟩=some (.slice A.a2 c.ro.ZW.length A.k2)∧W6.cell? ⟨w.heap.size,5,none⟩=some (.slice A.a3 c.ro.Z2.length A.k3):=⟨(hb6.cell (p:=⟨wr.heap.size,3,none⟩) (by show wr.heap.size<W5.heap.size;exact G5.out.lt)).trans HD'.1,(hb6.cell (p:=⟨w.heap.size,4,none⟩) (by show w.heap.size<W5.heap.size;exact P5.out.lt)).trans HD'.2.1,(hb6.cell (p:=⟨w.heap.size,5,none⟩) (by show w.heap.size<W5.heap.size;exact P5.out.lt)).trans HD'.2.2⟩
    have HR6:=hid hr6;have HJ6:=hid (HJ.out.later ((Below.QM wr W5 HW5.out).trans (hb6.mono (by rw [HW5.out];simp))))
    refine hK.out _ _ HD6 ?_
    clear hK K;(try simp only [pp])
    have HD':=HD6;refine Y8 8 30 HD' ?_;refine Y8 9 39 HD' ?_;refine ZB.pure (i:=10) (oi:=⟨some 40,_,_,_,_,_⟩) (v:= ?_) rfl (by kernel_rfl) (by kernel_rfl) (by kernel_rfl) (by kernel_rfl) (fun _ _ _ h=>h) (Or.inl ⟨by rfl,?_⟩) (fun _=>HD') ?_
    rotate_left
    ·intro w hSw;go_simp <;> with_reducible rfl
    (try simp only [pp]);obtain⟨W7,hput,hM7,hg7⟩:=HJ6.out.map.put WL Tryz.underlying154 (by unfold maxLen;omega) (x:=g.ZM) (by have:=HSm.out;unfold maxLen;omega) (.slice A6 (X6 c.ro g.ZM).length c6)
    have HJ7:=hid (HJ6.out.put hlt (by rw [HSb.out];exact Nat.le_refl _) (v:= .slice A6 (X6 c.ro g.ZM).length c6) (by rw [HGJ.out];exact⟨A6,c6,rfl,HR6.out⟩) (by rw [HGJ.out];exact hM7) hg7);refine ZB.Xq (i:=11) (o:=⟨none,_,_,_,_,_⟩) (by kernel_rfl) (by kernel_rfl) rfl (fun K hK=> ?_)
    rw [if_pos (by rfl)];refine WJ _ _ _ rfl rfl rfl rfl hput ?_
    refine hK.out _ _ (ZB.done (by kernel_rfl) ?_ _);clear hK K hput hM7 hg7 HD' HD6 HS9;go_wp2;go_roundw
    case rel=>exact⟨j+1,_,by omega,by go_num,HJ7⟩
    case measure=>simp [intOf];omega
   ·have hn':((n1:Int) == 0)=false:=by simpa using hn
    go_wp2_with (first | (with_reducible refine ZH rfl 53 _ rfl (ad.add (j*6)) rfl [.string (Z9 g.Z8),.string (Z9 g.ZX),.int .i64 g.right,.string (Z9 g.ZM),.string (Z9 g.to),.bool g.Zy] _ HG.out Tryz.underlying53 rfl HL.out ?_) | fail);go_roundw
    case rel=>exact⟨j+1,nx,by omega,by go_num,hid ((HJ.out.later (br.alloc lr _)).keep hlt (by rw [HGJ.out,HV1.out];intro e;injection e with _ e;exact hn e))⟩
    case measure=>simp [intOf];omega
  ·obtain rfl:j=c.Z3.length:=by omega
   go_wp2_with fail;go_step3
   go_wp2_with fail;rename World=>W3
   have hhm:W1.heap.size<W3.heap.size:=Nat.lt_of_lt_of_le (by have:=HSb.out;omega) HJ.out.below.size;have H0:Hid (Xd W1.heap.size [] [] (.slice none 0 0) W3 W3):=hid ⟨br.x _,M0.out.below HJ.out.below (by have:=HSb.out;omega),Xu _⟩
   have HAt:Hid (∀ i (hi:i<c.Z3.length),TV W3 W3.heap.size c.ro c.Z3[i].ZM (nx c.Z3[i].ZM)):=hid fun i hi=>HJ.out.met i hi hi
   have HIm:Hid (Y5 Tryz.prog 9 Vq W3 (.slice none 0 0) (W1.heap.size+1) c.Z3.length nx):=hid HJ.out.map;have him:W1.heap.size+1<W3.heap.size:=HJ.out.map.lt;have HM3:Hid (Y5 Tryz.prog 156 SV W3 (.int .i64 0) W1.heap.size 0 (SS [])):=hid H0.out.held;have hw3:w.heap.size<W3.heap.size:=K0.out.lt;clear M0 HJ HBb Pb HSb P1 HB1 hj hlt;go_loopw [7] (fun v wx=> ∃ (l:List Gr) (A1:Option Addr) (k1:Nat),v= .slice A1 l.length k1∧l.length≤c.Z3.length∧Hid (VX c=X9 c (c.Z3.length - l.length) l)∧Hid (I9 c.Z3 l≤c.Z3.length - l.length)∧Hid (Xd W1.heap.size l l (.slice A1 l.length k1) W3 wx)) (fun v _=>c.Z3.length - Jt v)
   case atStart=>exact⟨[],none,0,rfl,Nat.zero_le _,HH2,hid (by rw [J7];exact Nat.le_refl _),H0⟩
   case round=>
    clear H0;obtain⟨l,A1,k1,rfl,hll,HF,HMu,HK⟩:=hrel;have HGen:Hid (∀ W,Xd W1.heap.size l l (.slice A1 l.length k1) W3 W→Below w.heap.size w W∧ZP W w.heap.size 33 [.int .i64 c.ZO,.int .i64 c.ZU,.slice A.a0 c.ob.Z4.length A.k0,.slice A.a1 c.ob.Z7.length A.k1,.slice A.a2 c.ro.ZW.length A.k2,.slice A.a3 c.ro.Z2.length A.k3,.slice A.a4 c.Z3.length A.k4]):=hid fun W h=>
     ⟨HBw.out.trans (h.bx.low (Nat.le_of_lt hw3) (fun c e=>by injection e;omega)),h.bx.Ym K0.out hw3 (fun e=>by injection e;omega)⟩
    have q6:wr.cell? ⟨w.heap.size,6,none⟩=some (.slice A.a4 c.Z3.length A.k4):=(HGen.out _ HK.out).2.cell 6;go_wp2_with fail;clear q6;rename World=>wo
    go_loopw [7,45] (fun v i wy=> ∃ (j:Nat),j≤c.Z3.length∧v= .slice A1 l.length k1∧i= .int .i64 j∧Hid (∀ i (hi:i<c.Z3.length),i<j→Ya c l c.Z3[i]=false)∧Hid (Xd W1.heap.size l l (.slice A1 l.length k1) W3 wy)) (fun _ i _=>c.Z3.length - (intOf i).toNat)
    case atStart=>exact⟨0,Nat.zero_le _,rfl,rfl,hid (fun i hi h=>absurd h (Nat.not_lt_zero _)),HK⟩
    case round=>
     clear HK;obtain⟨j,hj,rfl,rfl,HNo,HK⟩:=hrel;by_cases hlt:j<c.Z3.length
     ·obtain⟨hBy,hKy⟩:=HGen.out _ HK.out;have HBy:=hid hBy;have HKy:=hid hKy;obtain⟨ad,vs,hA4,hv,hr⟩:=((HC.out.later HBy.out).gr).at_ (j:=j) (by simpa using hlt);rw [List.getElem_map] at hv;have hmem:c.Z3[j]∈c.Z3:=List.getElem_mem hlt;obtain⟨_,_,_,hgl,_,t0,it,htp,hsc⟩:=U7 HStd.out hmem;have HOk:Hid (c.Z3[j].JZ):=hid (Jj HStd.out hmem);have HAtj:=hid (HAt.out j hlt);have HNext:Hid (Ya c l c.Z3[j]=false→ ∀ i (hi:i<c.Z3.length),i<j+1→Ya c l c.Z3[i]=false):=hid fun h i hi hij=>by
       rcases Nat.lt_or_ge i j with h1 | h1
       ·exact HNo.out i hi h1
       ·obtain rfl:i=j:=by omega
        exact h
      have HYes:Hid (Ya c l c.Z3[j]=true→c.Z3.find? (Ya c l)=some c.Z3[j]):=hid fun h=>NL hlt HNo.out h
      have HMay:Hid (Ya c l c.Z3[j]=(!(l.any fun x=>YG x == YG c.Z3[j]) && (match Vo c c.Z3[j].Z8 c.Z3[j].ZX with | some t=>Wv c (X6 c.ro c.Z3[j].ZM) t || UT l (X6 c.ro c.Z3[j].ZM) t c.Z3[j].right true | none=>false))):=hid rfl;generalize hgj:c.Z3[j]=g at*;rw [htp] at HMay;have HTp:=hid htp;have HSc:=hid hsc;have HMem:=hid hmem;obtain rfl:=Gr.Y4 hv;have HG:Hid (∀ i' u,(g.cs)[i']?=some u→wr.cell? ((ad.add (j*6)).add i')=some u):=hid fun i' u hu=>by rw [ZE];exact hr i' u hu
      unfold Gr.cs at HG;have HL:Hid ((Tryz.prog.info? 53).map (·.size)=some ([.string (Z9 g.Z8),.string (Z9 g.ZX),.int .i64 g.right,.string (Z9 g.ZM),.string (Z9 g.to),.bool g.Zy]:List Value).length):=HI6;have K1:Hid (ZP (wr.alloc (.cells #[.string (Z9 g.Z8),.string (Z9 g.ZX),.int .i64 g.right,.string (Z9 g.ZM),.string (Z9 g.to),.bool g.Zy] 53)) w.heap.size 33 [.int .i64 c.ZO,.int .i64 c.ZU,.slice A.a0 c.ob.Z4.length A.k0,.slice A.a1 c.ob.Z7.length A.k1,.slice A.a2 c.ro.ZW.length A.k2,.slice A.a3 c.ro.Z2.length A.k3,.slice A.a4 c.Z3.length A.k4]):=hid (HKy.out.alloc _);clear hv hr hgj htp hsc hmem hBy hKy;rw [hA4];rw [hA4] at K1;go_wp2_with (first | (with_reducible refine ZH rfl 53 _ rfl (ad.add (j*6)) rfl [.string (Z9 g.Z8),.string (Z9 g.ZX),.int .i64 g.right,.string (Z9 g.ZM),.string (Z9 g.to),.bool g.Zy] _ HG.out Tryz.underlying53 rfl HL.out ?_) | (refine lO K1 HI7 Tryz.underlying33 ?_) | fail);refine Zj _ fun W5 hW=> ?_
      have HK5:Hid (Xd W1.heap.size l l (.slice A1 l.length k1) W3 W5):=hid (by rw [hW];exact HK.out.later (br.alloc lr _));have G5:=nC hW;have HK0:=HK;clear hW HG HL K1 HBy HKy HK;have cT:=Ux c A g.Z8 g.ZX W5 (HC.out.later (HGen.out _ HK5.out).1) HT.out.1.2.1;unfold Ca.cs at cT;rw [hA4] at cT;refine cT.mono ?_
      rintro e W6 ⟨t,X,x,Y,y,rfl,hb,ht⟩;obtain rfl:=ht t0 HTp.out;rw [show (Vo c g.Z8 g.ZX).isSome=true from by rw [HTp.out];rfl]
      have HK6:=hid (HK5.out.later hb);have G6:=bl G5 hb;clear hb cT HK5 G5 ht;unfold Tb.cs;have G6a:Hid (ZP (W6.alloc (.cells #[.string (Z9 t.Z8),.string (Z9 t.name),.string (Z9 t.ZN),.slice X t.ZY.length x,.slice Y t.ZT.length y] 73)) wr.heap.size 53 [.string (Z9 g.Z8),.string (Z9 g.ZX),.int .i64 g.right,.string (Z9 g.ZM),.string (Z9 g.to),.bool g.Zy]):=hid (G6.out.alloc _);go_wp2_with (first | (refine lO G6a HI6 Tryz.underlying53 ?_) | fail);refine Zj _ fun V7 hW=> ?_
      have HG3:Hid (W3.heap.size≤wr.heap.size):=hid (HK0.out.bx.size);have HK7:Hid (Xd W1.heap.size l l (.slice A1 l.length k1) W3 V7):=hid (by rw [hW];exact HK6.out.later (br.alloc lr _));have G7:=rB hW (G6.out.alloc _);have T7:=nC hW;clear hW HK6 G6 G6a;have cO:=Th g V7;unfold Gr.cs at cO;refine cO.mono ?_
      rintro e V8 ⟨rfl,hb⟩;have HK8:=hid (HK7.out.later hb);have G8:=bl G7 hb;have T8:=bl T7 hb;clear hb cO HK7 G7 T7;have K8:=hid (HGen.out _ HK8.out).2;have B8:=hid (HGen.out _ HK8.out).1
      cases hany:(l.any fun y=>YG y == YG g)
      ·have hl8:(Instr.lookup 153 (.map (some W1.heap.size)) (.agg (XI g).toArray) false).run Tryz.prog V8= .ok (.int .i64 0) V8:=HK8.out.look g HOk.out false hany;have HAny:=hid hany;have hm8:(Instr.lookup 154 (.map (some (W1.heap.size+1))) (.string (Z9 g.ZM)) false).run Tryz.prog V8= .ok (nx g.ZM) V8:=
        (HIm.out.same (HK8.out.bx.block _ him (fun e=>by injection e;omega))).look WL Tryz.underlying154 (by kernel_rfl) (x:=g.ZM) (by unfold maxLen;omega)
       obtain⟨I,ic,hnx,hrI⟩:=HAtj.out.round HK8.out.bx HM3.out;rw [hnx] at hm8;have HNx:=hid hnx;have HRI:=hid hrI;have hal:(X6 c.ro g.ZM).length≤1099511627776:=Nat.le_trans (Sm _ _) HT.out.2.1.1;clear hany hnx hrI;have q0:=ce K8 0;have q1:=ce K8 1;have q2:=ce K8 2;have q3:=ce K8 3;have q4:=ce K8 4;have q5:=ce K8 5;have q6:=ce K8 6;have g3:=ce G8 3;have s0:=ce T8 0;have s1:=ce T8 1;have s2:=ce T8 2;have s3:=ce T8 3;have s4:=ce T8 4;go_wp2_with fail;have cB:=Sj c A (X6 c.ro g.ZM) I ic t X x Y y it V8 (HC.out.later B8.out) HRI.out hal HT.out.1.1 HSc.out;unfold Ca.cs Tb.cs at cB;rw [hA4] at cB;refine cB.mono ?_
       rintro e V9 ⟨rfl,hb⟩;have HK9:=hid (HK8.out.later hb);have G9:=bl G8 hb;have T9:=bl T8 hb;have HRI9:=hid (HRI.out.later hb);clear hb cB hl8 hm8 q0 q1 q2 q3 q4 q5 q6 g3 s0 s1 s2 s3 s4
       cases hbo:Wv c (X6 c.ro g.ZM) t
       ·have HBo:=hid hbo;have hm9:(Instr.lookup 154 (.map (some (W1.heap.size+1))) (.string (Z9 g.ZM)) false).run Tryz.prog V9= .ok (.slice I (X6 c.ro g.ZM).length ic) V9:=by
         have:=(HIm.out.same (HK9.out.bx.block _ him (fun e=>by injection e;omega))).look WL Tryz.underlying154 (by kernel_rfl) (x:=g.ZM) (by unfold maxLen;omega);exact this.trans (by rw [HNx.out])
        have g3:=ce G9 3;have g2:=ce G9 2;clear hbo;have s0:=ce T9 0;have s1:=ce T9 1;have s2:=ce T9 2;have s3:=ce T9 3;have s4:=ce T9 4;go_wp2_with fail;have cG:=Qv l A1 k1 (X6 c.ro g.ZM) I ic t X x Y y g.right true V9 (JT (Xz HK9.out.own rfl)) (by omega) HRI9.out hal;unfold Tb.cs at cG;refine cG.mono ?_
        rintro e V10 ⟨rfl,hb⟩;have HK10:=hid (HK9.out.later hb);have G10:=bl G9 hb;clear hb cG hm9 g2 g3 s0 s1 s2 s3 s4
        cases hgi:UT l (X6 c.ro g.ZM) t g.right true
        ·have HM:Hid (Ya c l g=false):=hid (by rw [HMay.out,HAny.out];simp only [HBo.out,hgi];rfl);clear hgi;go_wp2_with fail;go_roundw
         case rel=>exact⟨j+1,by omega,rfl,by go_num,hid (HNext.out HM.out),HK10⟩
         case measure=>simp [intOf];omega
        ·have HM:Hid (Ya c l g=true):=hid (by rw [HMay.out,HAny.out];simp only [HBo.out,hgi];rfl);clear hgi;go_wp2_with fail;have HKd:Hid (Xd W1.heap.size l l (.slice A1 l.length k1) W3 V10.drew):=hid (HK10.out.later br.drew);have HGd:Hid (ZP V10.drew wr.heap.size 53 [.string (Z9 g.Z8),.string (Z9 g.ZX),.int .i64 g.right,.string (Z9 g.ZM),.string (Z9 g.to),.bool g.Zy]):=G10;have hS7:V10.drew.cell? ⟨wr.heap.size,0,none⟩=some (.string (Z9 g.Z8))∧V10.drew.cell? ⟨wr.heap.size,1,none⟩=some (.string (Z9 g.ZX))∧V10.drew.cell? ⟨wr.heap.size,2,none⟩=some (.int .i64 g.right)∧V10.drew.cell? ⟨wr.heap.size,3,none⟩=some (.string (Z9 g.ZM))∧V10.drew.cell? ⟨wr.heap.size,4,none⟩=some (.string (Z9 g.to))∧V10.drew.cell? ⟨wr.heap.size,5,none⟩=some (.bool g.Zy)∧(Instr.lookup 153 (.map (some W1.heap.size)) (.agg (XI g).toArray) false).run Tryz.prog V10.drew= .ok (.int .i64 0) V10.drew:=⟨HGd.out.cell 0,HGd.out.cell 1,HGd.out.cell 2,HGd.out.cell 3,HGd.out.cell 4,HGd.out.cell 5,HKd.out.look g HOk.out false HAny.out⟩
         refine Zw 7 (S:=fun w'=>w'.cell? ⟨wr.heap.size,0,none⟩=some (.string (Z9 g.Z8))∧w'.cell? ⟨wr.heap.size,1,none⟩=some (.string (Z9 g.ZX))∧w'.cell? ⟨wr.heap.size,2,none⟩=some (.int .i64 g.right)∧w'.cell? ⟨wr.heap.size,3,none⟩=some (.string (Z9 g.ZM))∧w'.cell? ⟨wr.heap.size,4,none⟩=some (.string (Z9 g.to))∧w'.cell? ⟨wr.heap.size,5,none⟩=some (.bool g.Zy)∧(Instr.lookup 153 (.map (some W1.heap.size)) (.agg (XI g).toArray) false).run Tryz.prog w'= .ok (.int .i64 0) w') (by kernel_rfl) hS7 (fun HD'=> ?_)
         (try simp only [pp]);refine Y8 0 83 HD' ?_;refine Y8 1 84 HD' ?_;refine SE 2 85 fun K hK=> ?_
         go_simp;have cO2:=Th g V10.drew;unfold Gr.cs at cO2;refine cO2.mono ?_
         rintro e Wf ⟨rfl,hb⟩;have HKe:=hid (HKd.out.later hb);have HGe:=bl HGd hb;have HDf:Wf.cell? ⟨wr.heap.size,0,none⟩=some (.string (Z9 g.Z8))∧Wf.cell? ⟨wr.heap.size,1,none⟩=some (.string (Z9 g.ZX))∧Wf.cell? ⟨wr.heap.size,2,none⟩=some (.int .i64 g.right)∧Wf.cell? ⟨wr.heap.size,3,none⟩=some (.string (Z9 g.ZM))∧Wf.cell? ⟨wr.heap.size,4,none⟩=some (.string (Z9 g.to))∧Wf.cell? ⟨wr.heap.size,5,none⟩=some (.bool g.Zy)∧(Instr.lookup 153 (.map (some W1.heap.size)) (.agg (XI g).toArray) false).run Tryz.prog Wf= .ok (.int .i64 0) Wf:=⟨HGe.out.cell 0,HGe.out.cell 1,HGe.out.cell 2,HGe.out.cell 3,HGe.out.cell 4,HGe.out.cell 5,HKe.out.look g HOk.out false HAny.out⟩
         obtain⟨v0,st,We,Wg,hEnt,hLk,hSto,hKg,hge,hgg⟩:=HKe.out.bump hhm g HOk.out HAny.out (by unfold maxLen;omega);have hgne:some wr.heap.size≠some W1.heap.size:=fun e=>by injection e with e;have:=HG3.out;omega
         have HGw:=hid (HGe.out.grown hge hgne);have HGg:=hid (HGe.out.grown hgg hgne);have HDe:We.cell? ⟨wr.heap.size,0,none⟩=some (.string (Z9 g.Z8))∧We.cell? ⟨wr.heap.size,1,none⟩=some (.string (Z9 g.ZX))∧We.cell? ⟨wr.heap.size,2,none⟩=some (.int .i64 g.right)∧We.cell? ⟨wr.heap.size,3,none⟩=some (.string (Z9 g.ZM))∧We.cell? ⟨wr.heap.size,4,none⟩=some (.string (Z9 g.to))∧We.cell? ⟨wr.heap.size,5,none⟩=some (.bool g.Zy)∧(Instr.lookup 153 (.map (some W1.heap.size)) (.agg (XI g).toArray) false).run Tryz.prog We= .ok (.int .i64 0) We:=⟨HGw.out.cell 0,HGw.out.cell 1,HGw.out.cell 2,HGw.out.cell 3,HGw.out.cell 4,HGw.out.cell 5,hLk⟩
         have HKg:=hid hKg;clear cO2 hb hKg hge hgg;refine hK.out _ _ HDf ?_
         clear hK K;(try simp only [pp])
         clear HD';have HD':=HDf;refine Y8 3 86 HD' ?_;refine Y8 4 87 HD' ?_;refine SE 5 88 fun K hK=> ?_
         rw [if_pos (by rfl)];refine UZ _ _ rfl rfl rfl hEnt ?_
         refine hK.out _ _ HDe ?_
         clear hK K HD';have HD':=HDe;(try simp only [pp])
         refine Y8 6 89 HD' ?_;refine ZB.Xq (i:=7) (o:=⟨none,_,_,_,_,_⟩) (by kernel_rfl) (by kernel_rfl) rfl (fun K hK=> ?_)
         rw [if_pos (by rfl)];refine VE _ _ _ rfl rfl rfl rfl hSto ?_
         refine hK.out _ _ (ZB.done (by kernel_rfl) ?_ _);clear hK K hEnt hLk hSto HD' HDe HDf hS7;have HOwg:=hid (HKg.out.later ((Below.refl Wg.heap.size Wg).alloc lr (.cells #[.string (Z9 g.Z8),.string (Z9 g.ZX),.int .i64 g.right,.string (Z9 g.ZM),.string (Z9 g.to),.bool g.Zy] 53))).own;have HNewg:=hid (ZP.news (ZP.new Wg 53 [.string (Z9 g.Z8),.string (Z9 g.ZX),.int .i64 g.right,.string (Z9 g.ZM),.string (Z9 g.to),.bool g.Zy]));obtain⟨i0,hi0,hz0,hz1,hz2⟩:=info_parts VW;have hbz:W3.heap.size≤(Wg.alloc (.cells #[.string (Z9 g.Z8),.string (Z9 g.ZX),.int .i64 g.right,.string (Z9 g.ZM),.string (Z9 g.to),.bool g.Zy] 53)).heap.size:=by have:=HKg.out.bx.size;simp;omega
         go_wp2_with (first | (refine lO HGg HI6 Tryz.underlying53 ?_) | (at_builtin;refine YZ rfl _ _ _ rfl W3.heap.size 53 i0 _ 6 80 Tryz.underlying31 hi0 hz0 hz1 hz2 rfl (by decide) (.slice A1 l.length k1) l.length _ rfl HOwg.out ⟨Wg.heap.size,0,none⟩ 1 1 [.string (Z9 g.Z8),.string (Z9 g.ZX),.int .i64 g.right,.string (Z9 g.ZM),.string (Z9 g.to),.bool g.Zy] rfl rfl HNewg.out (by simp [Value.oneCell']) (by unfold maxLen;omega) (by omega) hbz ?_;intro A9 c9 w9 HO9 hg9) | fail);have HFs:=hid (HYes.out HM.out);have hmu:=Ot (l:=l) (List.mem_of_find?_eq_some HFs.out) HAny.out;have hmu2:=HMu.out;have hln:(l ++ [g]).length=l.length+1:=by simp
         have hF9:VX c=X9 c (c.Z3.length - (l ++ [g]).length) (l ++ [g]):=by
          obtain⟨m,hm⟩: ∃ m,c.Z3.length - l.length=m+1:=⟨c.Z3.length - l.length - 1,by omega⟩
          rw [HF.out,hm,Un HFs.out,hln,show c.Z3.length - (l.length+1)=m from by omega]
         have hO9:w9.ownsRow W3.heap.size 53 6 (.slice A9 (l ++ [g]).length c9) (l ++ [g]).length ((l ++ [g]).flatMap Gr.cs):=by
          rw [hln,List.flatMap_append,List.flatMap_singleton];exact HO9.out
         have HK9z:=hid ((HKg.out.later ((Below.refl Wg.heap.size Wg).alloc lr (.cells #[.string (Z9 g.Z8),.string (Z9 g.ZX),.int .i64 g.right,.string (Z9 g.ZM),.string (Z9 g.to),.bool g.Zy] 53))).H9 hO9 hg9.out);rw [hA4];go_roundw
         case rel=>exact⟨l ++ [g],A9,c9,by rw [hln],by rw [hln];omega,hid hF9,hid (by rw [hln];omega),HK9z⟩
         case measure=>simp only [Jt];omega
       ·have HM:Hid (Ya c l g=true):=hid (by rw [HMay.out,HAny.out];simp only [hbo];rfl);clear hbo;go_wp2_with fail;have HKd:Hid (Xd W1.heap.size l l (.slice A1 l.length k1) W3 V9.drew):=hid (HK9.out.later br.drew);have HGd:Hid (ZP V9.drew wr.heap.size 53 [.string (Z9 g.Z8),.string (Z9 g.ZX),.int .i64 g.right,.string (Z9 g.ZM),.string (Z9 g.to),.bool g.Zy]):=G9;have hS7:V9.drew.cell? ⟨wr.heap.size,0,none⟩=some (.string (Z9 g.Z8))∧V9.drew.cell? ⟨wr.heap.size,1,none⟩=some (.string (Z9 g.ZX))∧V9.drew.cell? ⟨wr.heap.size,2,none⟩=some (.int .i64 g.right)∧V9.drew.cell? ⟨wr.heap.size,3,none⟩=some (.string (Z9 g.ZM))∧V9.drew.cell? ⟨wr.heap.size,4,none⟩=some (.string (Z9 g.to))∧V9.drew.cell? ⟨wr.heap.size,5,none⟩=some (.bool g.Zy)∧(Instr.lookup 153 (.map (some W1.heap.size)) (.agg (XI g).toArray) false).run Tryz.prog V9.drew= .ok (.int .i64 0) V9.drew:=⟨HGd.out.cell 0,HGd.out.cell 1,HGd.out.cell 2,HGd.out.cell 3,HGd.out.cell 4,HGd.out.cell 5,HKd.out.look g HOk.out false HAny.out⟩
        refine Zw 7 (S:=fun w'=>w'.cell? ⟨wr.heap.size,0,none⟩=some (.string (Z9 g.Z8))∧w'.cell? ⟨wr.heap.size,1,none⟩=some (.string (Z9 g.ZX))∧w'.cell? ⟨wr.heap.size,2,none⟩=some (.int .i64 g.right)∧w'.cell? ⟨wr.heap.size,3,none⟩=some (.string (Z9 g.ZM))∧w'.cell? ⟨wr.heap.size,4,none⟩=some (.string (Z9 g.to))∧w'.cell? ⟨wr.heap.size,5,none⟩=some (.bool g.Zy)∧(Instr.lookup 153 (.map (some W1.heap.size)) (.agg (XI g).toArray) false).run Tryz.prog w'= .ok (.int .i64 0) w') (by kernel_rfl) hS7 (fun HD'=> ?_)
        (try simp only [pp]);refine Y8 0 83 HD' ?_;refine Y8 1 84 HD' ?_;refine SE 2 85 fun K hK=> ?_
        go_simp;have cO2:=Th g V9.drew;unfold Gr.cs at cO2;refine cO2.mono ?_
        rintro e Wf ⟨rfl,hb⟩;have HKe:=hid (HKd.out.later hb);have HGe:=bl HGd hb;have HDf:Wf.cell? ⟨wr.heap.size,0,none⟩=some (.string (Z9 g.Z8))∧Wf.cell? ⟨wr.heap.size,1,none⟩=some (.string (Z9 g.ZX))∧Wf.cell? ⟨wr.heap.size,2,none⟩=some (.int .i64 g.right)∧Wf.cell? ⟨wr.heap.size,3,none⟩=some (.string (Z9 g.ZM))∧Wf.cell? ⟨wr.heap.size,4,none⟩=some (.string (Z9 g.to))∧Wf.cell? ⟨wr.heap.size,5,none⟩=some (.bool g.Zy)∧(Instr.lookup 153 (.map (some W1.heap.size)) (.agg (XI g).toArray) false).run Tryz.prog Wf= .ok (.int .i64 0) Wf:=⟨HGe.out.cell 0,HGe.out.cell 1,HGe.out.cell 2,HGe.out.cell 3,HGe.out.cell 4,HGe.out.cell 5,HKe.out.look g HOk.out false HAny.out⟩
        obtain⟨v0,st,We,Wg,hEnt,hLk,hSto,hKg,hge,hgg⟩:=HKe.out.bump hhm g HOk.out HAny.out (by unfold maxLen;omega);have hgne:some wr.heap.size≠some W1.heap.size:=fun e=>by injection e with e;have:=HG3.out;omega
        have HGw:=hid (HGe.out.grown hge hgne);have HGg:=hid (HGe.out.grown hgg hgne);have HDe:We.cell? ⟨wr.heap.size,0,none⟩=some (.string (Z9 g.Z8))∧We.cell? ⟨wr.heap.size,1,none⟩=some (.string (Z9 g.ZX))∧We.cell? ⟨wr.heap.size,2,none⟩=some (.int .i64 g.right)∧We.cell? ⟨wr.heap.size,3,none⟩=some (.string (Z9 g.ZM))∧We.cell? ⟨wr.heap.size,4,none⟩=some (.string (Z9 g.to))∧We.cell? ⟨wr.heap.size,5,none⟩=some (.bool g.Zy)∧(Instr.lookup 153 (.map (some W1.heap.size)) (.agg (XI g).toArray) false).run Tryz.prog We= .ok (.int .i64 0) We:=⟨HGw.out.cell 0,HGw.out.cell 1,HGw.out.cell 2,HGw.out.cell 3,HGw.out.cell 4,HGw.out.cell 5,hLk⟩
        have HKg:=hid hKg;clear cO2 hb hKg hge hgg;refine hK.out _ _ HDf ?_
        clear hK K;(try simp only [pp])
        clear HD';have HD':=HDf;refine Y8 3 86 HD' ?_;refine Y8 4 87 HD' ?_;refine SE 5 88 fun K hK=> ?_
        rw [if_pos (by rfl)];refine UZ _ _ rfl rfl rfl hEnt ?_
        refine hK.out _ _ HDe ?_
        clear hK K HD';have HD':=HDe;(try simp only [pp])
        refine Y8 6 89 HD' ?_;refine ZB.Xq (i:=7) (o:=⟨none,_,_,_,_,_⟩) (by kernel_rfl) (by kernel_rfl) rfl (fun K hK=> ?_)
        rw [if_pos (by rfl)];refine VE _ _ _ rfl rfl rfl rfl hSto ?_
        refine hK.out _ _ (ZB.done (by kernel_rfl) ?_ _);clear hK K hEnt hLk hSto HD' HDe HDf hS7;have HOwg:=hid (HKg.out.later ((Below.refl Wg.heap.size Wg).alloc lr (.cells #[.string (Z9 g.Z8),.string (Z9 g.ZX),.int .i64 g.right,.string (Z9 g.ZM),.string (Z9 g.to),.bool g.Zy] 53))).own;have HNewg:=hid (ZP.news (ZP.new Wg 53 [.string (Z9 g.Z8),.string (Z9 g.ZX),.int .i64 g.right,.string (Z9 g.ZM),.string (Z9 g.to),.bool g.Zy]));obtain⟨i0,hi0,hz0,hz1,hz2⟩:=info_parts VW;have hbz:W3.heap.size≤(Wg.alloc (.cells #[.string (Z9 g.Z8),.string (Z9 g.ZX),.int .i64 g.right,.string (Z9 g.ZM),.string (Z9 g.to),.bool g.Zy] 53)).heap.size:=by have:=HKg.out.bx.size;simp;omega
        go_wp2_with (first | (refine lO HGg HI6 Tryz.underlying53 ?_) | (at_builtin;refine YZ rfl _ _ _ rfl W3.heap.size 53 i0 _ 6 80 Tryz.underlying31 hi0 hz0 hz1 hz2 rfl (by decide) (.slice A1 l.length k1) l.length _ rfl HOwg.out ⟨Wg.heap.size,0,none⟩ 1 1 [.string (Z9 g.Z8),.string (Z9 g.ZX),.int .i64 g.right,.string (Z9 g.ZM),.string (Z9 g.to),.bool g.Zy] rfl rfl HNewg.out (by simp [Value.oneCell']) (by unfold maxLen;omega) (by omega) hbz ?_;intro A9 c9 w9 HO9 hg9) | fail);have HFs:=hid (HYes.out HM.out);have hmu:=Ot (l:=l) (List.mem_of_find?_eq_some HFs.out) HAny.out;have hmu2:=HMu.out;have hln:(l ++ [g]).length=l.length+1:=by simp
        have hF9:VX c=X9 c (c.Z3.length - (l ++ [g]).length) (l ++ [g]):=by
         obtain⟨m,hm⟩: ∃ m,c.Z3.length - l.length=m+1:=⟨c.Z3.length - l.length - 1,by omega⟩
         rw [HF.out,hm,Un HFs.out,hln,show c.Z3.length - (l.length+1)=m from by omega]
        have hO9:w9.ownsRow W3.heap.size 53 6 (.slice A9 (l ++ [g]).length c9) (l ++ [g]).length ((l ++ [g]).flatMap Gr.cs):=by
         rw [hln,List.flatMap_append,List.flatMap_singleton];exact HO9.out
        have HK9z:=hid ((HKg.out.later ((Below.refl Wg.heap.size Wg).alloc lr (.cells #[.string (Z9 g.Z8),.string (Z9 g.ZX),.int .i64 g.right,.string (Z9 g.ZM),.string (Z9 g.to),.bool g.Zy] 53))).H9 hO9 hg9.out);rw [hA4];go_roundw
        case rel=>exact⟨l ++ [g],A9,c9,by rw [hln],by rw [hln];omega,hid hF9,hid (by rw [hln];omega),HK9z⟩
        case measure=>simp only [Jt];omega
      ·have hl8:(Instr.lookup 153 (.map (some W1.heap.size)) (.agg (XI g).toArray) false).run Tryz.prog V8= .ok (.int .i64 1) V8:=HK8.out.look g HOk.out true hany;have HM:Hid (Ya c l g=false):=hid (by rw [HMay.out,hany];rfl)
       clear hany;go_wp2_with fail;go_roundw
       case rel=>exact⟨j+1,by omega,rfl,by go_num,hid (HNext.out HM.out),HK8⟩
       case measure=>simp [intOf];omega
     ·obtain rfl:j=c.Z3.length:=by omega
      have HNone:Hid (VX c=l):=hid (by rw [HF.out,QO (Mm fun i hi=>HNo.out i hi hi)]);have HBy:=hid (HGen.out _ HK.out).1;go_wp2_with fail;by_cases h0:0<l.length
      ·refine(M8 W3.heap.size l A1 k1 wr HK.out.own h0 (by omega)).mono ?_
       rintro e w' ⟨rfl,l',hp,_,ho,hb,_,_⟩;have hll':l.length=l'.length:=hp.length_eq.symm;have HRes:Hid (MR c w (.returned (.slice A1 l.length k1)) w'):=hid (by
        rw [hll'] at ho ⊢;exact⟨l',A1,k1,rfl,by rw [HNone.out];exact hp,ho.Yl (Nat.le_of_lt hw3),HBy.out.trans (hb.mono (Nat.le_of_lt hw3))⟩)
       clear hp ho hb hll';go_wp2;(try rw [Exit.noGoto_ret])
       go_ret;exact HRes.out
      ·obtain rfl:l= []:=by
        cases l with
        | nil=>rfl
        | cons a l=>exact absurd (Nat.succ_pos _) h0
       have hs0:=AnyF.slices_SortFunc_none Tryz.PR A1 k1 (.func (.func 90) #[] #[]) wr;change Calls Tryz.prog 89 _ _ _ at hs0
       refine hs0.mono ?_
       rintro e w' ⟨rfl,rfl⟩;have HRes:Hid (MR c w (.returned (.slice A1 ([]:List Gr).length k1)) w'):=hid ⟨[],A1,k1,rfl,by rw [HNone.out],HK.out.own.Yl (Nat.le_of_lt hw3),HBy.out⟩;clear hs0;go_wp2;(try rw [Exit.noGoto_ret])
       go_ret;exact HRes.out
end Go.Proofs.YtnhmoibjlakhjaaGreat
namespace Go.Proofs.YtnhmoibjlakhjaaGreat
open Lib (hid)
set_option maxRecDepth 100000
set_option maxHeartbeats 16000000
open Go.RowKit
theorem S7 (c:Ca)(A:WV)(w:World)(hc:Wh w w.heap.size c A)(ht:c.Zs 1099511627776):
  Calls Tryz.prog 44 #[.agg (c.cs A).toArray] w fun e w'=>e= .returned (.bool (XD c))∧Below w.heap.size w w':=by
 have HC:=hid hc;have HT:=hid ht;have HR:Hid (XD c=(XT c && (VX c).length == c.Z3.length)):=hid rfl;clear hc ht;generalize XD c=res at*;unfold Ca.cs;have P0:Hid (ZP (w.alloc (.cells #[.int .i64 c.ZO,.int .i64 c.ZU,.slice A.a0 c.ob.Z4.length A.k0,.slice A.a1 c.ob.Z7.length A.k1,.slice A.a2 c.ro.ZW.length A.k2,.slice A.a3 c.ro.Z2.length A.k3,.slice A.a4 c.Z3.length A.k4] 33)) w.heap.size 33 [.int .i64 c.ZO,.int .i64 c.ZU,.slice A.a0 c.ob.Z4.length A.k0,.slice A.a1 c.ob.Z7.length A.k1,.slice A.a2 c.ro.ZW.length A.k2,.slice A.a3 c.ro.Z2.length A.k3,.slice A.a4 c.Z3.length A.k4]):=hid (ZP.new w _ _);have HB0:Hid (Below w.heap.size w (w.alloc (.cells #[.int .i64 c.ZO,.int .i64 c.ZU,.slice A.a0 c.ob.Z4.length A.k0,.slice A.a1 c.ob.Z7.length A.k1,.slice A.a2 c.ro.ZW.length A.k2,.slice A.a3 c.ro.Z2.length A.k3,.slice A.a4 c.Z3.length A.k4] 33))):=hid (br.alloc lr _);go_enter Tryz.func44,Tryz.ntmps44
 go_wp2_with fail;generalize (w.alloc (.cells #[.int .i64 c.ZO,.int .i64 c.ZU,.slice A.a0 c.ob.Z4.length A.k0,.slice A.a1 c.ob.Z7.length A.k1,.slice A.a2 c.ro.ZW.length A.k2,.slice A.a3 c.ro.Z2.length A.k3,.slice A.a4 c.Z3.length A.k4] 33))=W0 at*;have cS:=fun W h=>Rk c A W h HT.out
 have cH:=fun W h=>RJ c A W h HT.out
 unfold Ca.cs at cS cH;have hz:=HB0.out.size
 cases hst:XT c
 ·have HR':Hid (res=false):=hid (by rw [HR.out,hst];rfl);rw [hst] at cS;clear hst cH HR;refine wp_region_held_drew (S:=fun w'=>Below W0.heap.size W0 w'∧w'.cell? ⟨w.heap.size,0,none⟩=some (.int .i64 c.ZO)∧w'.cell? ⟨w.heap.size,1,none⟩=some (.int .i64 c.ZU)∧w'.cell? ⟨w.heap.size,2,none⟩=some (.slice A.a0 c.ob.Z4.length A.k0)∧w'.cell? ⟨w.heap.size,3,none⟩=some (.slice A.a1 c.ob.Z7.length A.k1)∧w'.cell? ⟨w.heap.size,4,none⟩=some (.slice A.a2 c.ro.ZW.length A.k2)∧w'.cell? ⟨w.heap.size,5,none⟩=some (.slice A.a3 c.ro.Z2.length A.k3)∧w'.cell? ⟨w.heap.size,6,none⟩=some (.slice A.a4 c.Z3.length A.k4)) (by kernel_rfl) (⟨(Below.refl W0.heap.size W0).drew,cb P0 ((Below.refl W0.heap.size W0).drew) 0,cb P0 ((Below.refl W0.heap.size W0).drew) 1,cb P0 ((Below.refl W0.heap.size W0).drew) 2,cb P0 ((Below.refl W0.heap.size W0).drew) 3,cb P0 ((Below.refl W0.heap.size W0).drew) 4,cb P0 ((Below.refl W0.heap.size W0).drew) 5,cb P0 ((Below.refl W0.heap.size W0).drew) 6⟩) (fun HD=> ?_)
  (try simp only [pp]);refine tk 0 3 HD ?_;refine on 1 4 fun K hK=> ?_
  go_simp;refine(cS _ (HC.out.later (HB0.out.trans (HD.1.mono hz)))).mono ?_
  rintro e W1 ⟨rfl,hb⟩;have hbv:=HD.1.trans (hb.mono HD.1.size);refine hK.out _ _ ⟨hbv,cb P0 (hbv) 0,cb P0 (hbv) 1,cb P0 (hbv) 2,cb P0 (hbv) 3,cb P0 (hbv) 4,cb P0 (hbv) 5,cb P0 (hbv) 6⟩ (fun HD=> ?_);clear hb hbv;clear hK K;(try simp only [pp])
  refine tb 2 5 (.bool false) HD ?_;refine sk 3 6 HD ?_;refine sk 4 7 HD ?_;refine sk 5 8 HD ?_;refine sk 6 9 HD ?_;refine sk 7 10 HD ?_;refine sk 8 11 HD ?_;refine sk 9 12 HD ?_;refine tk 10 13 HD ?_;refine tk 11 2 HD ?_;refine wpAnyH_done (by kernel_rfl) ?_ _
  have HBz:=hid (HB0.out.trans (HD.1.mono hz));clear HD;go_wp2;go_ret;exact⟨by rw [HR'.out];rfl,HBz.out⟩
 ·have HR':Hid (res=((VX c).length == c.Z3.length)):=hid (by rw [HR.out,hst];rfl);rw [hst] at cS;clear hst HR;refine wp_region_held_drew (S:=fun w'=>Below W0.heap.size W0 w'∧w'.cell? ⟨w.heap.size,0,none⟩=some (.int .i64 c.ZO)∧w'.cell? ⟨w.heap.size,1,none⟩=some (.int .i64 c.ZU)∧w'.cell? ⟨w.heap.size,2,none⟩=some (.slice A.a0 c.ob.Z4.length A.k0)∧w'.cell? ⟨w.heap.size,3,none⟩=some (.slice A.a1 c.ob.Z7.length A.k1)∧w'.cell? ⟨w.heap.size,4,none⟩=some (.slice A.a2 c.ro.ZW.length A.k2)∧w'.cell? ⟨w.heap.size,5,none⟩=some (.slice A.a3 c.ro.Z2.length A.k3)∧w'.cell? ⟨w.heap.size,6,none⟩=some (.slice A.a4 c.Z3.length A.k4)) (by kernel_rfl) (⟨(Below.refl W0.heap.size W0).drew,cb P0 ((Below.refl W0.heap.size W0).drew) 0,cb P0 ((Below.refl W0.heap.size W0).drew) 1,cb P0 ((Below.refl W0.heap.size W0).drew) 2,cb P0 ((Below.refl W0.heap.size W0).drew) 3,cb P0 ((Below.refl W0.heap.size W0).drew) 4,cb P0 ((Below.refl W0.heap.size W0).drew) 5,cb P0 ((Below.refl W0.heap.size W0).drew) 6⟩) (fun HD=> ?_)
  (try simp only [pp]);refine tk 0 3 HD ?_;refine on 1 4 fun K hK=> ?_
  go_simp;refine(cS _ (HC.out.later (HB0.out.trans (HD.1.mono hz)))).mono ?_
  rintro e W1 ⟨rfl,hb⟩;have hbv:=HD.1.trans (hb.mono HD.1.size);refine hK.out _ _ ⟨hbv,cb P0 (hbv) 0,cb P0 (hbv) 1,cb P0 (hbv) 2,cb P0 (hbv) 3,cb P0 (hbv) 4,cb P0 (hbv) 5,cb P0 (hbv) 6⟩ (fun HD=> ?_);clear hb hbv;clear hK K;(try simp only [pp])
  refine tb 2 5 (.bool true) HD ?_;refine tk 3 6 HD ?_;refine tk 6 9 HD ?_;refine tk 7 10 HD ?_;refine tk 8 11 HD ?_;refine on 4 7 fun K hK=> ?_
  go_simp;refine(cH _ (HC.out.later (HB0.out.trans (HD.1.mono hz)))).mono ?_
  rintro e W2 ⟨l,A2,k2,rfl,hp,_,hb⟩;have HLen:=hid hp.length_eq;have hbv:=HD.1.trans (hb.mono HD.1.size);refine hK.out _ _ ⟨hbv,cb P0 (hbv) 0,cb P0 (hbv) 1,cb P0 (hbv) 2,cb P0 (hbv) 3,cb P0 (hbv) 4,cb P0 (hbv) 5,cb P0 (hbv) 6⟩ (fun HD=> ?_);clear hb hbv hp;clear hK K;(try simp only [pp])
  refine tk 5 8 HD ?_;refine tk 9 12 HD ?_;refine tk 10 13 HD ?_;refine tk 11 2 HD ?_;refine wpAnyH_done (by kernel_rfl) ?_ _
  have HBz:=hid (HB0.out.trans (HD.1.mono hz));clear HD;go_wp2;go_ret;refine⟨?_,HBz.out⟩
  rw [HR'.out,←HLen.out];simp
  rw [Bool.eq_iff_iff];simp only [beq_iff_eq];omega
theorem NK (c:Ca)(A:WV)(w:World)(hc:Wh w w.heap.size c A)(ht:c.Zs 1099511627776):
  Calls Tryz.prog 65 #[.agg (c.cs A).toArray] w fun e w'=>e= .returned (.int .i64 (if XD c then 0 else 1))∧Below w.heap.size w w':=by
 have HC:=hid hc;have HT:=hid ht;have HI7:=iN 33 7;clear hc ht;have HB0:Hid (Below w.heap.size w (w.alloc (.cells #[.int .i64 c.ZO,.int .i64 c.ZU,.slice A.a0 c.ob.Z4.length A.k0,.slice A.a1 c.ob.Z7.length A.k1,.slice A.a2 c.ro.ZW.length A.k2,.slice A.a3 c.ro.Z2.length A.k3,.slice A.a4 c.Z3.length A.k4] 33))):=hid (br.alloc lr _);have P0:Hid (ZP (w.alloc (.cells #[.int .i64 c.ZO,.int .i64 c.ZU,.slice A.a0 c.ob.Z4.length A.k0,.slice A.a1 c.ob.Z7.length A.k1,.slice A.a2 c.ro.ZW.length A.k2,.slice A.a3 c.ro.Z2.length A.k3,.slice A.a4 c.Z3.length A.k4] 33)) w.heap.size 33 [.int .i64 c.ZO,.int .i64 c.ZU,.slice A.a0 c.ob.Z4.length A.k0,.slice A.a1 c.ob.Z7.length A.k1,.slice A.a2 c.ro.ZW.length A.k2,.slice A.a3 c.ro.Z2.length A.k3,.slice A.a4 c.Z3.length A.k4]):=hid (ZP.new w _ _);have cW:=S7 c A _ (HC.out.later HB0.out) HT.out;unfold Ca.cs at cW ⊢;generalize XD c=res at*;go_enter Tryz.func65,Tryz.ntmps65
 go_wp2_with (first | (refine lO P0 HI7 Tryz.underlying33 ?_) | fail);refine cW.mono ?_
 rintro e w' ⟨rfl,hb⟩;have HB1:=bt HB0 hb;clear cW hb P0 HB0
 cases res
 ·go_wp2;go_ret;exact⟨rfl,HB1.out⟩
 ·go_wp2;go_ret;exact⟨rfl,HB1.out⟩
theorem Qz (c:Ca)(A:WV)(ZR s n:List UInt8)(w:World)(hc:Wh w w.heap.size c A)(ht:c.Zs 1099511627776):
  Calls Tryz.prog 13 #[.agg (c.cs A).toArray,.string (Z9 ZR),.string (Z9 s),.string (Z9 n)] w fun e w'=>e= .returned (.bool (WC c ZR s n))∧Below w.heap.size w w':=by
 have HC:=hid hc;have HT:=hid ht;have hnl:=ht.2.1.1;have hgl:=ht.2.2;have HR:Hid (WC c ZR s n=match Vo c s n with | some t=>(XD c && (c.ro.ZW.contains ZR && Wv c (X6 c.ro ZR) t)) | none=>false):=hid (by unfold WC;cases Vo c s n <;> simp only [Bool.and_assoc])
 have HI7:=iN 33 7;have HI5:=iN 73 5;clear hc ht;generalize WC c ZR s n=res at*;unfold Ca.cs;have P0:Hid (ZP (w.alloc (.cells #[.int .i64 c.ZO,.int .i64 c.ZU,.slice A.a0 c.ob.Z4.length A.k0,.slice A.a1 c.ob.Z7.length A.k1,.slice A.a2 c.ro.ZW.length A.k2,.slice A.a3 c.ro.Z2.length A.k3,.slice A.a4 c.Z3.length A.k4] 33)) w.heap.size 33 [.int .i64 c.ZO,.int .i64 c.ZU,.slice A.a0 c.ob.Z4.length A.k0,.slice A.a1 c.ob.Z7.length A.k1,.slice A.a2 c.ro.ZW.length A.k2,.slice A.a3 c.ro.Z2.length A.k3,.slice A.a4 c.Z3.length A.k4]):=hid (ZP.new w _ _);have HB0:Hid (Below w.heap.size w (w.alloc (.cells #[.int .i64 c.ZO,.int .i64 c.ZU,.slice A.a0 c.ob.Z4.length A.k0,.slice A.a1 c.ob.Z7.length A.k1,.slice A.a2 c.ro.ZW.length A.k2,.slice A.a3 c.ro.Z2.length A.k3,.slice A.a4 c.Z3.length A.k4] 33))):=hid (br.alloc lr _);go_enter Tryz.func13,Tryz.ntmps13
 go_wp2_with (first | (refine lO P0 HI7 Tryz.underlying33 ?_) | fail);generalize (w.alloc (.cells #[.int .i64 c.ZO,.int .i64 c.ZU,.slice A.a0 c.ob.Z4.length A.k0,.slice A.a1 c.ob.Z7.length A.k1,.slice A.a2 c.ro.ZW.length A.k2,.slice A.a3 c.ro.Z2.length A.k3,.slice A.a4 c.Z3.length A.k4] 33))=W0 at*;have cT:=Ux c A s n W0 (HC.out.later HB0.out) HT.out.1.2.1;unfold Ca.cs at cT;refine cT.mono ?_
 rintro e W1 ⟨t,X,x,Y,y,rfl,hb,ht⟩;have HB1:=bt HB0 hb;have P1:=bl P0 hb;have HTt:=hid ht;clear hb cT HB0 P0 ht;unfold Tb.cs;have hlo:=P1.out.lt;have p4:(W1.alloc (.cells #[.string (Z9 t.Z8),.string (Z9 t.name),.string (Z9 t.ZN),.slice X t.ZY.length x,.slice Y t.ZT.length y] 73)).cell? ⟨w.heap.size,4,none⟩=some (.slice A.a2 c.ro.ZW.length A.k2):=(P1.out.alloc _).cell 4;have p5:(W1.alloc (.cells #[.string (Z9 t.Z8),.string (Z9 t.name),.string (Z9 t.ZN),.slice X t.ZY.length x,.slice Y t.ZT.length y] 73)).cell? ⟨w.heap.size,5,none⟩=some (.slice A.a3 c.ro.Z2.length A.k3):=(P1.out.alloc _).cell 5;go_wp2_with fail;refine Zj _ fun W2 hW=> ?_
 have HB2:=rL hW (HB1.out.alloc HB1.out.size _);have P2:=rB hW (P1.out.alloc _);have T2:=nC hW;clear hW HB1 P1 p4 p5;refine(SB c.ro A.a2 A.k2 A.a3 A.k3 ZR W2 (HC.out.later HB2.out).nm (HC.out.later HB2.out).mb HT.out.2.1).mono ?_
 rintro e W3 ⟨I,ic,rfl,hrI,hb⟩;have HB3:=bt HB2 hb;have P3:=bl P2 hb;have T3:=bl T2 hb;have HRI:=hid hrI;have hal:(X6 c.ro ZR).length≤1099511627776:=Nat.le_trans (Sm _ _) HT.out.2.1.1;clear hb hrI HB2 P2 T2
 cases htp:Vo c s n with
 | none=>
  have HR':Hid (res=false):=hid (by rw [HR.out,htp]);rw [htp] at HR;clear htp HTt HR;go_wp2;go_ret;exact⟨by rw [HR'.out];rfl,HB3.out⟩
 | some t0=>
  obtain rfl:=HTt.out t0 htp;rw [htp] at HR;have HTp:=hid htp;replace HR:Hid (res=((XD c && (c.ro.ZW.contains ZR && Wv c (X6 c.ro ZR) t)))):=hid HR.out;clear htp HTt;have q0:=ce P3 0;have q1:=ce P3 1;have q2:=ce P3 2;have q3:=ce P3 3;have q4:=ce P3 4;have q5:=ce P3 5;have q6:=ce P3 6;go_wp2_with fail;have cW:=S7 c A W3 (HC.out.later HB3.out) HT.out;unfold Ca.cs at cW;refine cW.mono ?_
  rintro e W4 ⟨rfl,hb⟩;have HB4:=bt HB3 hb;have P4:=bl P3 hb;have T4:=bl T3 hb;have HRI4:=hid (HRI.out.later hb);clear hb cW HB3 P3 T3 HRI q0 q1 q2 q3 q4 q5 q6
  cases hwh:XD c
  ·have HR':Hid (res=false):=hid (by rw [HR.out,hwh];rfl);clear HR hwh;go_wp2;go_ret;exact⟨by rw [HR'.out];rfl,HB4.out⟩
  rw [hwh,Bool.true_and] at HR;have HSc:Hid (∃ i,WU c.ob.Z4 t.Z8=some i):=hid (Option.isSome_iff_exists.1 (Ur (Yz (by unfold XD at hwh;simp only [Bool.and_eq_true] at hwh;exact hwh.1)).2.1 (S8 HTp.out).1));clear hwh;have p4:=ce P4 4;go_wp2_with fail;refine(Zl c.ro.ZW A.a2 A.k2 ZR W4 (HC.out.later HB4.out).nm hnl).mono ?_
  rintro e w5 ⟨rfl,rfl⟩;generalize c.ro.ZW.contains ZR=b2 at*
  cases b2
  ·have HR':Hid (res=false):=hid HR.out;clear HR;go_wp2;go_ret;exact⟨by rw [HR'.out];rfl,HB4.out⟩
  rw [Bool.true_and] at HR;clear p4;have q0:=ce P4 0;have q1:=ce P4 1;have q2:=ce P4 2;have q3:=ce P4 3;have q4:=ce P4 4;have q5:=ce P4 5;have q6:=ce P4 6;have s0:=ce T4 0;have s1:=ce T4 1;have s2:=ce T4 2;have s3:=ce T4 3;have s4:=ce T4 4;go_wp2_with fail;obtain⟨it,hit⟩:=HSc.out;have cB:=Sj c A (X6 c.ro ZR) I ic t X x Y y it w5 (HC.out.later HB4.out) HRI4.out hal HT.out.1.1 hit;unfold Ca.cs Tb.cs at cB;refine cB.mono ?_
  rintro e W6 ⟨rfl,hb⟩;have HB6:=bt HB4 hb;clear hb cB q0 q1 q2 q3 q4 q5 q6 s0 s1 s2 s3 s4 HB4 P4 T4 HRI4 HSc hit;generalize Wv c (X6 c.ro ZR) t=b3 at*;go_wp2;go_ret;exact⟨by rw [HR.out];rfl,HB6.out⟩
end Go.Proofs.YtnhmoibjlakhjaaGreat
namespace Go.Proofs.YtnhmoibjlakhjaaGreat
set_option maxRecDepth 100000
set_option maxHeartbeats 16000000
open Go.RowKit
theorem VU: ∀ (xs:List Value)(o:Nat)(vs:List Value),(X8 xs o vs).length=xs.length
 | _,_,[]=>rfl
 | xs,o,v ::r=>by rw [X8,VU _ _ r,List.length_set]
theorem X3 {base g n c k:Nat}{T:TypeId} : ∀ (vs:List Value){w:World}{xs:List Value}(o:Nat),w.ownsRow base T k (.slice (some ⟨g,0,none⟩) n c) n xs→o+vs.length≤xs.length→(w.setCells g o vs).ownsRow base T k (.slice (some ⟨g,0,none⟩) n c) n (X8 xs o vs)
 | [],_,_,_,h,_=>h
 | v ::r,w,xs,o,h,hl=>by
  rw [List.length_cons] at hl;exact X3 r (o+1) (XU h (by omega) v) (by rw [List.length_set];omega)
theorem Ml {α:Type}{enc:α→List Value}{k:Nat}(hk: ∀ x,(enc x).length=k)(l:List α)(j:Nat)(hj:j<l.length)(a:α):X8 (l.flatMap enc) (j*k) (enc a)=(l.set j a).flatMap enc:=by
 have h1:l=l.take j ++ (l[j] ::l.drop (j+1)):=by rw [List.getElem_cons_drop,List.take_append_drop]
 have h2:l.set j a=l.take j ++ (a ::l.drop (j+1)):=by rw [List.set_eq_take_append_cons_drop,if_pos hj]
 have h3:((l.take j).flatMap enc).length=j*k:=by rw [Zp hk,List.length_take,Nat.min_eq_left (Nat.le_of_lt hj)]
 rw [h2];conv=>lhs;rw [h1]
 rw [List.flatMap_append,List.flatMap_cons,List.flatMap_append,List.flatMap_cons,←h3];exact XL (enc a) _ (enc l[j]) _ (by rw [hk,hk])
theorem K3 {α:Type}{enc:α→List Value}{k:Nat}(hk: ∀ x,(enc x).length=k){w:World}{base g n c:Nat}{T:TypeId}{l:List α}(h:w.ownsRow base T k (.slice (some ⟨g,0,none⟩) n c) n (l.flatMap enc)){j:Nat}(hj:j<l.length)(a:α):
  (w.setCells g (j*k) (enc a)).ownsRow base T k (.slice (some ⟨g,0,none⟩) n c) n ((l.set j a).flatMap enc):=by
 have h1:=X3 (enc a) (j*k) h (by
  rw [Zp hk,hk];calc j*k+k=(j+1)*k:=by rw [Nat.add_mul,Nat.one_mul]
   _≤l.length*k:=Nat.mul_le_mul_right k hj)
 rwa [Ml hk l j hj a] at h1
theorem Xj {w:World}{base:Nat}{T:TypeId}{size n c:Nat}{A:Option Addr}{xs:List Value}(h:w.ownsRow base T size (.slice A n c) n xs)(hn:0<n): ∃ g,A=some ⟨g,0,none⟩:=by
 obtain⟨g,cap,hv,_,_⟩:=h.form hn;exact⟨g,by injection hv⟩
theorem Tb.YB {w:World}{B:Nat}{l:List Tb}{A:Option Addr}(h:ZV w (· < B) Zv (l.map Tb.da) A): ∃ ts:List Za,ts.map (·.1)=l∧Zg w B A Za.cs ts∧ ∀ t∈ts,ZV w (· < B) Zo (t.1.ZY.map Cl.da) t.2.1∧ZV w (· < B) YP (t.1.ZT.map Ru.da) t.2.2.2.1:=
 WN (enc:=Za.cs) (sh:=Zv) Tb.da (·.1) (fun t:Za=>ZV w (· < B) Zo (t.1.ZY.map Cl.da) t.2.1∧ZV w (· < B) YP (t.1.ZT.map Ru.da) t.2.2.2.1) (fun t vs hv=>by
  obtain⟨X,x,Y,y,rfl,hX,hY⟩:=Tb.Y4 hv;exact⟨(t,X,x,Y,y),rfl,rfl,hX,hY⟩) Za.k h
theorem Tb.Sz {w:World}{S:Nat→Prop}{t:Za}(hX:ZV w S Zo (t.1.ZY.map Cl.da) t.2.1)(hY:ZV w S YP (t.1.ZT.map Ru.da) t.2.2.2.1):ZG w S Zv t.1.da (Za.cs t):=by
 obtain⟨t,X,x,Y,y⟩:=t;refine ZG.mk (YJ.YW _) (ZG.mk (YJ.YW _) (ZG.mk (YJ.YW _) (ZG.mk ?_ (ZG.one ?_))))
 ·have:=YJ.WH x hX;rwa [List.length_map] at this
 ·have:=YJ.WH y hY;rwa [List.length_map] at this
def CT:List TypeId:= [89,73,119,40,9,147,53]
structure Uw (w:World) (c:Ca) (A:WV):Prop where
 sc:ZV w (XA w CT) Zm (c.ob.Z4.map Sc.da) A.a0
 tb:ZV w (XA w CT) Zv (c.ob.Z7.map Tb.da) A.a1
 nm:ZV w (XA w CT) [.Z9] (YY c.ro.ZW) A.a2
 mb:ZV w (XA w CT) Y9 (c.ro.Z2.map Mb.da) A.a3
 gr:ZV w (XA w CT) YA (c.Z3.map Gr.da) A.a4
theorem ZV.U3 {w:World}{us:List TypeId}{sh:List Sh}{ds:List (List Da)}{A:Option Addr}(h:ZV w (XA w us) sh ds A):ZV w (· < w.heap.size) sh ds A:=h.Y6 (fun _ ⟨_,_,hp⟩=>hp.lt) (fun _ _=>rfl)
theorem Uw.Vy {w:World}{c:Ca}{A:WV}(h:Uw w c A):Wh w w.heap.size c A:=⟨h.sc.U3,h.tb.U3,h.nm.U3,h.mb.U3,h.gr.U3⟩
theorem Uw.keeps {us:List TypeId}{w w':World}{c:Ca}{A:WV}(h:Uw w c A)(hk:ZS us w w')(hd: ∀ t,t∈CT→t∉us):Uw w' c A:=⟨ZI h.sc hk hd,ZI h.tb hk hd,ZI h.nm hk hd,ZI h.mb hk hd,ZI h.gr hk hd⟩
theorem Uw.later {w w':World}{c:Ca}{A:WV}(h:Uw w c A)(hb:Below w.heap.size w w'):Uw w' c A:=h.keeps (us:= []) (ZS.Zr hb lr) (by simp)
theorem ZV.TD {w:World}{us:List TypeId}{sh:List Sh}{ds:List (List Da)}{A:Option Addr}(h:ZV w (XA w us) sh ds A)(hs: ∀ t,t∈us→t∈CT):ZV w (XA w CT) sh ds A:=h.Y6 (fun _ ⟨t,ht,hp⟩=>⟨t,hs t ht,hp⟩) (fun _ _=>rfl)
def CG:List TypeId:= [89,73,119,40,9,147]
structure Sv (w:World) (c:Ca) (A:WV):Prop where
 sc:ZV w (XA w CG) Zm (c.ob.Z4.map Sc.da) A.a0
 tb:ZV w (XA w CG) Zv (c.ob.Z7.map Tb.da) A.a1
 nm:ZV w (XA w CG) [.Z9] (YY c.ro.ZW) A.a2
 mb:ZV w (XA w CG) Y9 (c.ro.Z2.map Mb.da) A.a3
theorem Sv.keeps {us:List TypeId}{w w':World}{c:Ca}{A:WV}(h:Sv w c A)(hk:ZS us w w')(hd: ∀ t,t∈CG→t∉us):Sv w' c A:=⟨ZI h.sc hk hd,ZI h.tb hk hd,ZI h.nm hk hd,ZI h.mb hk hd⟩
theorem Sv.later {w w':World}{c:Ca}{A:WV}(h:Sv w c A)(hb:Below w.heap.size w w'):Sv w' c A:=h.keeps (us:= []) (ZS.Zr hb lr) (by simp)
theorem Sv.Kt {w:World}{c:Ca}{A:WV}(h:Sv w c A)(hg:ZV w (XA w CT) YA (c.Z3.map Gr.da) A.a4):Uw w c A:=⟨h.sc.TD (by decide),h.tb.TD (by decide),h.nm.TD (by decide),h.mb.TD (by decide),hg⟩
theorem PM.Ig {w:World}{o:Ob}{A0 A1:Option Addr}(h:PM w o A0 A1):ZV w (XA w CT) Zm (o.Z4.map Sc.da) A0:=h.sc.TD (by decide)
theorem PM.Ie {w:World}{o:Ob}{A0 A1:Option Addr}(h:PM w o A0 A1):ZV w (XA w CT) Zv (o.Z7.map Tb.da) A1:=h.tb.TD (by decide)
theorem Vs {us:List TypeId}{α:Type}{enc:α→List Value}{w:World}{base c n:Nat}{T:TypeId}{sh:List Sh}{A:Option Addr}(da:α→List Da)(hk: ∀ x,(enc x).length=sh.length){l:List α}(h:w.ownsRow base T sh.length (.slice A n c) n (l.flatMap enc))(hn:n=l.length)(hT:T∈us)
  (hc: ∀ a∈l,ZG w (XA w us) sh (da a) (enc a)):ZV w (XA w us) sh (l.map da) A:=by
 have h1:=Yw (S:=XA w us) (sh:=sh) da id hk h hn hc;rw [List.map_id] at h1;exact h1.Y6 (fun k hk=>by
  rcases hk with hk | hk
  ·exact hk
  ·exact hk.Ti (by simpa using hT)) (fun _ _=>rfl)
theorem Sw {us:List TypeId}{w:World}{base c:Nat}{l:List Sc}{A:Option Addr}(h:w.ownsRow base 89 2 (.slice A l.length c) l.length (l.flatMap Sc.cs))(hu:89∈us:=by decide):ZV w (XA w us) Zm (l.map Sc.da) A:=Vs (sh:=Zm) Sc.da Sc.k h rfl hu fun a _=>Sc.VO a
theorem Tv {us:List TypeId}{w:World}{base c:Nat}{l:List Mb}{A:Option Addr}(h:w.ownsRow base 147 2 (.slice A l.length c) l.length (l.flatMap Mb.cs))(hu:147∈us:=by decide):ZV w (XA w us) Y9 (l.map Mb.da) A:=Vs (sh:=Y9) Mb.da Mb.k h rfl hu fun a _=>Mb.VO a
theorem XW {us:List TypeId}{w:World}{base c:Nat}{l:List Gr}{A:Option Addr}(h:w.ownsRow base 53 6 (.slice A l.length c) l.length (l.flatMap Gr.cs))(hu:53∈us:=by decide):ZV w (XA w us) YA (l.map Gr.da) A:=Vs (sh:=YA) Gr.da Gr.k h rfl hu fun a _=>Gr.VO a
theorem WG {us:List TypeId}{w:World}{base c:Nat}{l:List (List UInt8)}{A:Option Addr}(h:w.ownsRow base 9 1 (.slice A l.length c) l.length (l.flatMap YT))(hu:9∈us:=by decide):ZV w (XA w us) [.Z9] (YY l) A:=Vs (sh:= [.Z9]) (fun b=> [Da.Z9 b]) YT.k h rfl hu fun a _=>ZG.one (YJ.YW _)
theorem Tn: ∀ {a:List UInt8},Y3 a a=0
 | []=>rfl
 | a ::l=>by
  have h:=Tn (a:=l);simp only [Y3] at h ⊢;simp [Lib.compareBytes,h]
theorem Oh {α:Type}{c:α→α→Int}{a:α}{l:List α}(h:Zn c (a ::l)=true):Zn c l=true:=by
 cases l with
 | nil=>rfl
 | cons b l=>rw [Zn,Bool.and_eq_true] at h;exact h.2
theorem SN {α:Type}{c:α→α→Int}(hc:UW c): ∀ {l:List α}{a:α},Zn c (a ::l)=true→ ∀ x∈l,c a x<0
 | [],_,_,x,hx=>by cases hx
 | b ::l,a,h,x,hx=>by
  rw [Zn,Bool.and_eq_true,decide_eq_true_eq] at h;rcases List.mem_cons.1 hx with rfl | hx
  ·exact h.1
  ·have h2:=SN hc h.2 x hx;have h3:=hc.trans a b x (by omega) (by omega);rcases Int.lt_or_eq_of_le h3 with h4 | h4
   ·exact h4
   ·have h5:c x a=0:=by rw [hc.M5 a x,h4];rfl
    have h6:=hc.trans x a b (by omega) (by omega);have h7:=hc.M5 b x;omega
theorem LM:UW Xn:=(XK.Tf fun x:Tb=>x.Z8).Js (XK.Tf fun x:Tb=>x.name)
theorem JP {a b:Tb}(h1:a.Z8=b.Z8)(h2:a.name=b.name):Xn a b=0:=by
 unfold Xn;rw [h1,h2,Tn,Tn];rfl
theorem PZ: ∀ {l:List Tb}{j:Nat}(hj:j<l.length),Zn Xn l=true→(l.findIdx? fun x=>x.Z8 == l[j].Z8 && x.name == l[j].name)=some j
 | a ::l,0,hj,h=>by simp [List.findIdx?_cons]
 | a ::l,j+1,hj,h=>by
  have hj':j<l.length:=by simpa using hj
  have h1:=SN LM h l[j] (List.getElem_mem hj');have h2:=PZ hj' (Oh h);have hne:(a.Z8 == l[j].Z8 && a.name == l[j].name)=false:=by
   cases hb:(a.Z8 == l[j].Z8 && a.name == l[j].name) with
   | false=>rfl
   | true=>
    simp only [Bool.and_eq_true,beq_iff_eq] at hb;rw [JP hb.1 hb.2] at h1;omega
  rw [List.findIdx?_cons];simp only [List.getElem_cons_succ,hne,h2];rfl
theorem OS {o:Ob}(h:YR o=true):Zn Xn o.Z7=true∧Zn WM o.Z4=true:=by
 unfold YR at h;simp only [Bool.and_eq_true] at h;exact⟨h.1.1.1.2,h.1.1.2⟩
theorem PN {o:Ob}(h:YR o=true){j:Nat}(hj:j<o.Z7.length):Xr o o.Z7[j].Z8 o.Z7[j].name=some j:=PZ hj (OS h).1
end Go.Proofs.YtnhmoibjlakhjaaGreat
namespace Go.Proofs.YtnhmoibjlakhjaaGreat
open Lib (hid)
set_option maxRecDepth 100000
set_option maxHeartbeats 16000000
open Go.RowKit
theorem Gr.YB {w:World}{B:Nat}{l:List Gr}{A:Option Addr}(h:ZV w (· < B) YA (l.map Gr.da) A):Zg w B A Gr.cs l:=by
 obtain⟨l',h1,h2,_⟩:=WN (enc:=Gr.cs) (sh:=YA) Gr.da id (fun _=>True) (fun x vs hv=>⟨x,rfl,Gr.Y4 hv,trivial⟩) Gr.k h;rw [List.map_id] at h1;rwa [h1] at h2
def NV:List TypeId:= [119,40,9]
structure PL (w w':World) (b:Nat) (t:TypeId):Prop where
 Xo: ∀ k,k≠b→w'.heap[k]?=w.heap[k]?
 size:w'.heap.size=w.heap.size
 XM:Zc w b t
 SY:Below b w w'
theorem PL.keeps {w w':World}{b:Nat}{t:TypeId}(h:PL w w' b t):ZS [t] w w':=⟨Nat.le_of_eq h.size.symm,fun k t' hk hn=>h.Xo k (by rintro rfl;exact hn (by simp [hk.same h.XM]))⟩
theorem VF {P:Program}{ops:Array Oper}{rest:List Oper}{op:Oper}{a:Act}{w:World}{Q:Exit→Act→World→Prop}(hgd:op.guard=none)(ty:TypeId)(x y:Operand)(ho:op.op= .store ty x y)
  {α:Type} {enc:α→List Value} {k:Nat} (hk: ∀ x,(enc x).length=k) (g j:Nat) (v:α) (hx:a.eval x= .pointer (some ⟨g,j*k,none⟩)) (hy:a.eval y= .agg (enc v).toArray) {base n c:Nat} {T:TypeId} {l:List α} (hown:Hid (w.ownsRow base T k (.slice (some ⟨g,0,none⟩) n c) n (l.flatMap enc))) (hln:l.length=n) (hj:j<l.length)
  (hi:Hid ((P.info? ty).map (·.size)=some k)) (h1: ∀ u∈enc v,u.oneCell'=true)
  (h: ∀ w',Hid (PL w w' g T)→Hid (w'.ownsRow base T k (.slice (some ⟨g,0,none⟩) n c) n ((l.set j v).flatMap enc))→wpList P ops Q rest (a.put op.dst undef) w'):wpList P ops Q (op ::rest) a w:=by
 have hlt:j*k+k≤c*k:=by
  have hc:=(YQ hown.out).1;calc j*k+k=(j+1)*k:=by rw [Nat.add_mul,Nat.one_mul]
   _≤c*k:=Nat.mul_le_mul_right k (by omega)
 have hb:=ZL hown.out;refine wpList_store_mid hgd ty x y ho g (j*k) (enc v).toArray hx hy (by rw [List.size_toArray,hk];exact Zf hown.out _ _ hlt) (by rw [List.size_toArray,hk];exact hi.out) (all_oneCell_toArray h1) (h _ (hid ?_) (hid (K3 hk hown.out hj v)));exact⟨fun q hq=>Zb w g hq _ _,Y7 w g _ _,hb.2.2.1,ZJ lr _ _⟩
theorem Kj {w:World}{us:List TypeId}{sh:List Sh}{ds:List Da}{vs:List Value}(h:ZG w (XA w us) sh ds vs):ZG w (· < w.heap.size) sh ds vs:=ZG.Y6 (fun _ ⟨_,_,hp⟩=>hp.lt) (fun _ _=>rfl) sh ds vs h
theorem NO {w w':World}{sh:List Sh}{ds:List Da}{vs:List Value}(h:ZG w (· < w.heap.size) sh ds vs)(hb:Below w.heap.size w w'):ZG w' (· < w'.heap.size) sh ds vs:=ZG.Y6 (fun k hk=>Nat.lt_of_lt_of_le hk hb.size) (fun p hp=>hb.cell hp) sh ds vs h
theorem VB (c:Ca)(A:WV)(w:World)(hc:Wh w w.heap.size c A)(ht:c.Zs 1099511627776)(hck:YR c.ob=true):
  Calls Tryz.prog 185 #[.agg (c.cs A).toArray] w fun e w'=> ∃ A':WV,e= .returned (.agg (c.cs A').toArray)∧Sv w' c A'∧w'.ownsRow w.heap.size 53 6 (.slice A'.a4 c.Z3.length A'.k4) c.Z3.length (c.Z3.flatMap Gr.cs)∧Below w.heap.size w w':=by
 have HC:=hid hc;have HT:=hid ht;have hsl:=ht.1.1;have htl:=ht.1.2.1;have hnl:=ht.2.1.1;have hml:=ht.2.1.2.1;have hgl:=ht.2.2;have HCk:=hid hck;have HI7:=iN 33 7;have HI5:=iN 73 5;clear hc ht hck;unfold Ca.cs;go_enter Tryz.func185,Tryz.ntmps185
 go_wp2_with fail;refine Zj _ fun W hW=> ?_
 have HB1:=bQ hW;have P1:=nD hW;have Q1:=nF hW;clear hW;refine(Vf A.a0 A.k0 c.ob.Z4 W (Sc.YB (HC.out.later HB1.out).sc) hsl).mono ?_
 rintro e W2 ⟨B0,l0,rfl,ho,hb⟩;have HB2:=bt HB1 hb;have HS2:=hid (ho.Yl HB1.out.size);have P2:=bl P1 hb;have Q2:=bl Q1 hb;clear ho hb HB1 P1 Q1;have p2:=ce P2 2;have f2:=P2.out.frozen 2;have p3:(W2.setCell ⟨w.heap.size,2,none⟩ (.slice B0 c.ob.Z4.length l0)).cell? ⟨w.heap.size,3,none⟩=some (.slice A.a1 c.ob.Z7.length A.k1):=(P2.out.ZD 2 _).cell 3;go_wp2_with fail;refine Zj _ fun W3 hW=> ?_
 have HB3:Hid (Below w.heap.size w W3):=hid (by rw [hW];exact HB2.out.setCell lr _);have P3:=rB hW (P2.out.ZD 2 _);have Q3:Hid (ZP W3 (w.heap.size+1) 33 [.int .i64 0,.int .i64 0,.slice none 0 0,.slice none 0 0,.slice none 0 0,.slice none 0 0,.slice none 0 0]):=hid (by rw [hW];exact Q2.out.Xo (by show _≠w.heap.size;omega) _)
 have HS3:Hid (W3.ownsRow w.heap.size 89 2 (.slice B0 c.ob.Z4.length l0) c.ob.Z4.length (c.ob.Z4.flatMap Sc.cs)):=hid (by rw [hW];exact HS2.out.keeps (ts:= [33]) (ZS.ZD P2.out.XM (by simp) _) (by decide));clear hW HB2 P2 Q2 HS2 p2 f2 p3;obtain⟨ts0,hts0,hrd0,hgood0⟩:=Tb.YB (HC.out).tb;have hl0:ts0.length=c.ob.Z7.length:=by rw [←hts0,List.length_map]
 have HD0:=hid hts0;have HG0:=hid hgood0;have cT:=OR A.a1 A.k1 ts0 W3 (hrd0.later HB3.out) (by omega);rw [hl0] at cT;clear hts0 hgood0 hrd0;refine cT.mono ?_
 rintro e W4 ⟨B1,l1,rfl,ho,hb⟩;have HB4:=bt HB3 hb;have HT4:=hid (ho.Yl HB3.out.size);have HS4:=hid (HS3.out.Zu hb);have P4:=bl P3 hb;have Q4:=bl Q3 hb;clear ho hb cT HB3 P3 Q3 HS3;have p3:=ce P4 3;have f3:=P4.out.frozen 3;have p3':(W4.setCell ⟨w.heap.size,3,none⟩ (.slice B1 c.ob.Z7.length l1)).cell? ⟨w.heap.size,3,none⟩=some (.slice B1 c.ob.Z7.length l1):=(P4.out.ZD 3 _).cell 3;go_wp2_with fail;refine VP _ fun W5 hW=> ?_
 have HB5:Hid (Below w.heap.size w W5):=hid (by rw [hW];exact HB4.out.setCell lr _);have P5:=rB hW (P4.out.ZD 3 _);have Q5:Hid (ZP W5 (w.heap.size+1) 33 [.int .i64 0,.int .i64 0,.slice none 0 0,.slice none 0 0,.slice none 0 0,.slice none 0 0,.slice none 0 0]):=hid (by rw [hW];exact Q4.out.Xo (by show _≠w.heap.size;omega) _)
 have HK5:Hid (ZS [33] W4 W5):=hid (by rw [hW];exact ZS.ZD P4.out.XM (by simp) _);have HS5:=hid (HS4.out.keeps HK5.out (by decide));have HT5:=hid (HT4.out.keeps HK5.out (by decide));have HG5:Hid (∀ i (h:i<ts0.length),ZG W5 (· < w.heap.size) Zv ts0[i].1.da (Za.cs ts0[i])):=hid fun i h=>by
  obtain⟨hX,hY⟩:=HG0.out _ (List.getElem_mem h);exact Tb.Sz (hX.below HB5.out) (hY.below HB5.out)
 clear hW HB4 P4 Q4 HS4 HT4 HG0 HK5 p3 f3 p3';go_loopw [21] (fun i wr=> ∃ (j:Nat) (ts:List Za),j≤c.ob.Z7.length∧i= .int .i64 j∧Hid (ts.map (·.1)=c.ob.Z7)∧Hid (wr.ownsRow w.heap.size 73 5 (.slice B1 c.ob.Z7.length l1) c.ob.Z7.length (ts.flatMap Za.cs))∧Hid (∀ i (h:i<ts.length),(i<j→ZG wr (XA wr NV) Zv ts[i].1.da (Za.cs ts[i]))∧(j≤i→ZG wr (· < w.heap.size) Zv ts[i].1.da (Za.cs ts[i])))∧Hid (wr.ownsRow w.heap.size 89 2 (.slice B0 c.ob.Z4.length l0) c.ob.Z4.length (c.ob.Z4.flatMap Sc.cs))∧Hid (Below w.heap.size w wr)∧Hid (ZP wr w.heap.size 33 [.int .i64 c.ZO,.int .i64 c.ZU,.slice B0 c.ob.Z4.length l0,.slice B1 c.ob.Z7.length l1,.slice A.a2 c.ro.ZW.length A.k2,.slice A.a3 c.ro.Z2.length A.k3,.slice A.a4 c.Z3.length A.k4])∧Hid (ZP wr (w.heap.size+1) 33 [.int .i64 0,.int .i64 0,.slice none 0 0,.slice none 0 0,.slice none 0 0,.slice none 0 0,.slice none 0 0])) (fun i _=>c.ob.Z7.length - (intOf i).toNat)
 case atStart=>exact⟨0,ts0,Nat.zero_le _,rfl,HD0,HT5,hid (fun i h=>⟨fun h2=>absurd h2 (Nat.not_lt_zero _),fun _=>HG5.out i h⟩),HS5,HB5,P5,Q5⟩
 case round=>
  clear HD0 HT5 HG5 HS5 HB5 P5 Q5;obtain⟨j,ts,hj,rfl,HD,HTo,HCe,HSo,HBw,HP,HQ⟩:=hrel;have htsl:ts.length=c.ob.Z7.length:=by rw [←HD.out,List.length_map]
  by_cases hlt:j<c.ob.Z7.length
  ·obtain⟨gt,rfl⟩:=Xj HTo.out (by omega);have hjt:j<ts.length:=by omega
   have HFd:Hid (ts[j].1=c.ob.Z7[j]):=hid (by
    have h1:=HD.out;have h2:(ts.map (·.1))[j]?=c.ob.Z7[j]?:=by rw [h1]
    rw [List.getElem?_map,List.getElem?_eq_getElem hjt,List.getElem?_eq_getElem hlt] at h2;simpa using h2)
   have HEr:Hid (QP c.ob ts[j].1.Z8 ts[j].1.name=0):=hid (by
    unfold QP;rw [if_pos HCk.out,HFd.out,PN HCk.out hlt];rfl)
   have HAt:Hid (∀ i,Xr c.ob ts[j].1.Z8 ts[j].1.name=some i→i=j):=hid fun i h=>by
    rw [HFd.out,PN HCk.out hlt] at h;injection h with h
    exact h.symm
   have HAll:Hid (∀ t∈ts,ZG wr (· < wr.heap.size) Zv t.1.da (Za.cs t)):=hid fun t ht=>by
    obtain⟨i,hi,rfl⟩:=List.getElem_of_mem ht;rcases Nat.lt_or_ge i j with h1 | h1
    ·exact Kj ((HCe.out i hi).1 h1)
    ·exact ZG.Y6 (fun k hk=>Nat.lt_of_lt_of_le hk HBw.out.size) (fun _ _=>rfl) _ _ _ ((HCe.out i hi).2 h1)
   have HGc:Hid (∀ i' u,(Za.cs ts[j])[i']?=some u→wr.cell? ((⟨gt,j*5,none⟩:Addr).add i')=some u):=hid fun i' u hu=>by
    have hi':i'<5:=(List.getElem?_eq_some_iff.1 hu).1;rw [Addr.add_mid];exact Xh HTo.out hjt i' hi' u hu
   generalize htj:ts[j]=tj at*;obtain⟨t,X,x,Y,y⟩:=tj;unfold Za.cs Tb.cs at HGc;simp only at HGc HEr HAt HFd;have HTj:=hid htj;have HL:Hid ((Tryz.prog.info? 73).map (·.size)=some ([.string (Z9 t.Z8),.string (Z9 t.name),.string (Z9 t.ZN),.slice X t.ZY.length x,.slice Y t.ZT.length y]:List Value).length):=HI5;have k2:(wr.alloc (.cells #[.string (Z9 t.Z8),.string (Z9 t.name),.string (Z9 t.ZN),.slice X t.ZY.length x,.slice Y t.ZT.length y] 73)).cell? ⟨w.heap.size,2,none⟩=some (.slice B0 c.ob.Z4.length l0):=(HP.out.alloc _).cell 2;have k3:(wr.alloc (.cells #[.string (Z9 t.Z8),.string (Z9 t.name),.string (Z9 t.ZN),.slice X t.ZY.length x,.slice Y t.ZT.length y] 73)).cell? ⟨w.heap.size,3,none⟩=some (.slice (some ⟨gt,0,none⟩) c.ob.Z7.length l1):=(HP.out.alloc _).cell 3;clear htj;go_wp2_with (first | (with_reducible refine ZH rfl 73 _ rfl ⟨gt,j*5,none⟩ rfl [.string (Z9 t.Z8),.string (Z9 t.name),.string (Z9 t.ZN),.slice X t.ZY.length x,.slice Y t.ZT.length y] _ HGc.out Tryz.underlying73 rfl HL.out ?_) | fail);refine Zj _ fun W6 hW=> ?_
   have HBr6:=bP hW;have T6:=nC hW;clear hW k2 k3 HGc HL;have HS6:=hid (HSo.out.Zu HBr6.out);have HT6:=hid (HTo.out.Zu HBr6.out);have hR6:ZV W6 (· < W6.heap.size) Zv (c.ob.Z7.map Tb.da) (some ⟨gt,0,none⟩):=by
    have h1:=Yw (S:=(· < W6.heap.size)) (sh:=Zv) Tb.da (·.1) Za.k HT6.out htsl.symm (fun a ha=>NO (HAll.out a ha) HBr6.out);rw [HD.out] at h1;exact h1.Y6 (fun k hk=>by
     rcases hk with hk | hk
     ·exact hk
     ·obtain⟨_,_,hp⟩:=hk.Ti (us:= [73]) (by simp);exact hp.lt) (fun _ _=>rfl)
   refine(OE c.ob B0 l0 (some ⟨gt,0,none⟩) l1 t.Z8 t.name W6 (Sw (us:=CG) HS6.out).U3 hR6 HT.out.1).mono ?_
   rintro e W7 ⟨t',X',x',Y',y',er,rfl,her,hb,_,_,hf⟩;obtain rfl:er=0:=by rw [her,HEr.out]
   obtain⟨⟨i,hi,hti,htt⟩,htab⟩:=hf rfl;obtain rfl:=(HAt.out i hti).symm;obtain rfl:t'=t:=by rw [htt,←HFd.out]
   have HTab:=hid htab;have HBr7:=bt HBr6 hb;have T7:=bl T6 hb;have HT7:=hid (HTo.out.Zu HBr7.out);have HS7:=hid (HSo.out.Zu HBr7.out);have P7:=bl HP HBr7.out;have Q7:=bl HQ HBr7.out;have hgtl:gt<wr.heap.size:=(ZL HTo.out).2.1;have hgtw:w.heap.size≤gt:=(ZL HTo.out).1;have hpl:=HP.out.lt;have hql:=HQ.out.lt;have hs6:W6.heap.size≤W7.heap.size:=hb.size;have HTo':=HTo;have HSo':=HSo;have HP':=HP;have HQ':=HQ;clear hb her hf hti htt htab HBr6 T6 HS6 HT6 hR6 HTo HSo HP HQ;unfold Tb.cs;go_wp2_with (first | ((refine sO T7 HI5 ?_);intro wS HS;have k3:wS.cell? ⟨w.heap.size,3,none⟩=some (.slice (some ⟨gt,0,none⟩) c.ob.Z7.length l1):=(HS.out.other P7.out (by omega)).cell 3;have N7:=hid HS.out.Ym;have HTs:=hid (Xt HT7.out fun q hq=>HS.out.Xo q (by have e:=XQ HTo'.out hq;omega))) | (refine lO N7 HI5 Tryz.underlying73 ?_) | (refine VF rfl 73 _ _ rfl Za.k gt j (t',X',x',Y',y') rfl rfl HTs htsl hjt HI5 (Za.one _) ?_;intro wU HU HTu) | fail);have HKs:Hid (ZS [73] wr wU):=hid (((ZS.Zr HBr7.out lr).trans HS.out.keeps).trans HU.out.keeps);have hsz:wS.heap.size=W7.heap.size:=HS.out.size;have hszU:wU.heap.size=wS.heap.size:=HU.out.size;have HBU:Hid (Below w.heap.size w wU):=hid ((HS.out.below (HBw.out.trans (HBr7.out.mono HBw.out.size)) (by have:=HBw.out.size;omega)).trans (HU.out.SY.mono hgtw))
   have PU:Hid (ZP wU w.heap.size 33 [.int .i64 c.ZO,.int .i64 c.ZU,.slice B0 c.ob.Z4.length l0,.slice (some ⟨gt,0,none⟩) c.ob.Z7.length l1,.slice A.a2 c.ro.ZW.length A.k2,.slice A.a3 c.ro.Z2.length A.k3,.slice A.a4 c.Z3.length A.k4]):=hid (HP'.out.keeps HKs.out (by decide));have QU:Hid (ZP wU (w.heap.size+1) 33 [.int .i64 0,.int .i64 0,.slice none 0 0,.slice none 0 0,.slice none 0 0,.slice none 0 0,.slice none 0 0]):=hid (HQ'.out.keeps HKs.out (by decide));have HSU:=hid (HSo'.out.keeps HKs.out (by decide));have HDU:Hid ((ts.set j (t',X',x',Y',y')).map (·.1)=c.ob.Z7):=hid (by
    rw [List.map_set,HD.out,HFd.out,List.set_getElem_self])
   have HCU:Hid (∀ i (h:i< (ts.set j (t',X',x',Y',y')).length),(i<j+1→ZG wU (XA wU NV) Zv (ts.set j (t',X',x',Y',y'))[i].1.da (Za.cs (ts.set j (t',X',x',Y',y'))[i]))∧(j+1≤i→ZG wU (· < w.heap.size) Zv (ts.set j (t',X',x',Y',y'))[i].1.da (Za.cs (ts.set j (t',X',x',Y',y'))[i]))):=hid fun i h=>by
    have hi2:i<ts.length:=by rw [List.length_set] at h;exact h
    by_cases hij:i=j
    ·subst hij;refine⟨fun _=> ?_,fun h=>absurd h (by omega)⟩
     rw [List.getElem_set_self];have h1:ZG wU (Nw wU W6.heap.size NV) Zv t'.da (Za.cs (t',X',x',Y',y')):=((HTab.out.keeps HS.out.keeps (by decide) (by decide) (by decide)).keeps HU.out.keeps (by decide) (by decide) (by decide)).VO;exact ZG.Y6 (fun k hk=>hk.Ti (fun _ h=>h)) (fun _ _=>rfl) _ _ _ h1
    ·rw [List.getElem_set_ne (fun e=>hij e.symm)];refine⟨fun h1=>((HCe.out i hi2).1 (by omega)).keeps HKs.out (by decide),fun h1=> ?_⟩
     exact ZG.Y6 (fun k hk=>hk) (fun p hp=>by
      have e1:=HBw.out.cell hp;have e2:=HBU.out.cell hp;rw [e2,e1]) _ _ _ ((HCe.out i hi2).2 (by omega))
   go_roundw
   case rel=>exact⟨j+1,ts.set j (t',X',x',Y',y'),by omega,by go_num,HDU,HTu,HCU,HSU,HBU,PU,QU⟩
   case measure=>simp [intOf];omega
  ·obtain rfl:j=c.ob.Z7.length:=by omega
   have HTbT:Hid (ZV wr (XA wr CG) Zv (c.ob.Z7.map Tb.da) B1):=hid (by
    have h1:=Yw (S:=XA wr CG) (sh:=Zv) Tb.da (·.1) Za.k HTo.out htsl.symm (fun a ha=>by
     obtain⟨i,hi,rfl⟩:=List.getElem_of_mem ha;exact ZG.Y6 (fun _ ⟨t,ht,hp⟩=>⟨t,(by decide: ∀ t,t∈NV→t∈CG) t ht,hp⟩) (fun _ _=>rfl) _ _ _ ((HCe.out i hi).1 (by omega)))
    rw [HD.out] at h1;exact h1.Y6 (fun k hk=>by
     rcases hk with hk | hk
     ·exact hk
     ·exact hk.Ti (by decide)) (fun _ _=>rfl))
   have HScT:Hid (ZV wr (XA wr CG) Zm (c.ob.Z4.map Sc.da) B0):=hid (Sw HSo.out);clear HTo HCe HSo HD hlt;go_wp2_with fail;have hS9:wr.drew.cell? ⟨w.heap.size,4,none⟩=some (.slice A.a2 c.ro.ZW.length A.k2)∧wr.drew.cell? ⟨w.heap.size,5,none⟩=some (.slice A.a3 c.ro.Z2.length A.k3):=⟨HP.out.cell 4,HP.out.cell 5⟩
   refine Zw 10 (S:=fun w'=>w'.cell? ⟨w.heap.size,4,none⟩=some (.slice A.a2 c.ro.ZW.length A.k2)∧w'.cell? ⟨w.heap.size,5,none⟩=some (.slice A.a3 c.ro.Z2.length A.k3)) (by kernel_rfl) hS9 (fun HD'=> ?_)
   (try simp only [pp]);refine Y8 0 43 HD' ?_;refine Y8 1 44 HD' ?_;refine Y8 2 45 HD' ?_;refine Y8 4 47 HD' ?_;refine Y8 5 48 HD' ?_;refine Y8 6 49 HD' ?_;refine SE 3 46 fun K hK=> ?_
   go_simp;refine(XG A.a2 A.k2 c.ro.ZW wr.drew (Ys (HC.out.later HBw.out.drew).nm) hnl).mono ?_
   rintro e V1 ⟨B2,l2,rfl,ho,hb⟩;have HN1:=hid (ho.Yl (show w.heap.size≤wr.drew.heap.size from HBw.out.size));have HVb1:Hid (Below wr.heap.size wr V1):=hid (br.drew.trans hb);have PV1:=bl HP HVb1.out;have HDf:V1.cell? ⟨w.heap.size,4,none⟩=some (.slice A.a2 c.ro.ZW.length A.k2)∧V1.cell? ⟨w.heap.size,5,none⟩=some (.slice A.a3 c.ro.Z2.length A.k3):=⟨PV1.out.cell 4,PV1.out.cell 5⟩
   clear ho hb;refine hK.out _ _ HDf ?_
   clear hK K;(try simp only [pp])
   clear HD';have HD':=HDf;refine SE 7 50 fun K hK=> ?_
   go_simp;refine(Xx A.a3 A.k3 c.ro.Z2 V1 (Mb.YB (HC.out.later (HBw.out.trans (HVb1.out.mono HBw.out.size))).mb) hml).mono ?_
   rintro e V2 ⟨B3,l3,rfl,ho,hb⟩;have HVb2:=bt HVb1 hb;have HM2:=hid (ho.Yl (Nat.le_trans HBw.out.size HVb1.out.size));have HN2:=hid (HN1.out.Zu hb);have PV2:=bl HP HVb2.out;have HDg:V2.cell? ⟨w.heap.size,4,none⟩=some (.slice A.a2 c.ro.ZW.length A.k2)∧V2.cell? ⟨w.heap.size,5,none⟩=some (.slice A.a3 c.ro.Z2.length A.k3):=⟨PV2.out.cell 4,PV2.out.cell 5⟩
   clear ho hb;refine hK.out _ _ HDg ?_
   clear hK K;(try simp only [pp])
   clear HD';have HD':=HDg;refine UY 8 51 (fun _=>HD') ?_;refine UY 9 52 (fun _=>HD') ?_;refine ZB.Xq (i:=10) (o:=⟨none,_,_,_,_,_⟩) (by kernel_rfl) (by kernel_rfl) rfl (fun K hK=> ?_)
   have e4:V2.cell? ⟨w.heap.size,4,none⟩=some (.slice A.a2 c.ro.ZW.length A.k2):=HDg.1;have e5:V2.cell? ⟨w.heap.size,5,none⟩=some (.slice A.a3 c.ro.Z2.length A.k3):=HDg.2;have f4:=PV2.out.frozen 4;have f5:=PV2.out.frozen 5;go_simp;refine hK.out _ _ (ZB.done (by kernel_rfl) ?_ _);clear hK K HD' HDg HDf hS9 e4 e5 f4 f5;refine SA _ fun V3 hV=> ?_
   have HK3:Hid (ZS [33] V2 V3):=hid (by rw [hV];exact(ZS.ZD PV2.out.XM (by simp) _).trans (ZS.ZD (PV2.out.XM.setCell _ _) (by simp) _));have PV3:Hid (ZP V3 w.heap.size 33 [.int .i64 c.ZO,.int .i64 c.ZU,.slice B0 c.ob.Z4.length l0,.slice B1 c.ob.Z7.length l1,.slice B2 c.ro.ZW.length l2,.slice B3 c.ro.Z2.length l3,.slice A.a4 c.Z3.length A.k4]):=hid (by rw [hV];exact(PV2.out.ZD 4 _).ZD 5 _);have QV3:Hid (ZP V3 (w.heap.size+1) 33 [.int .i64 0,.int .i64 0,.slice none 0 0,.slice none 0 0,.slice none 0 0,.slice none 0 0,.slice none 0 0]):=hid (by rw [hV];exact((HQ.out.below HVb2.out HQ.out.lt).Xo (by show _≠w.heap.size;omega) _).Xo (by show _≠w.heap.size;omega) _)
   have HBV3:Hid (Below w.heap.size w V3):=hid (by rw [hV];exact((HBw.out.trans (HVb2.out.mono HBw.out.size)).setCell lr _).setCell lr _);clear hV;have g6:=ce PV3 6;go_wp2_with fail;refine(VL A.a4 A.k4 c.Z3 V3 (Gr.YB (HC.out.later HBV3.out).gr) hgl).mono ?_
   rintro e V4 ⟨B4,l4,rfl,ho,hb⟩;have HG4:=hid (ho.Yl HBV3.out.size);have HBV4:=bt HBV3 hb;have PV4:=bl PV3 hb;have QV4:=bl QV3 hb;have HK4:Hid (ZS [33] wr V4):=hid (((ZS.Zr HVb2.out lr).trans HK3.out).trans (ZS.Zr hb lr));have HN4:=hid ((HN2.out.keeps HK3.out (by decide)).Zu hb);have HM4:=hid ((HM2.out.keeps HK3.out (by decide)).Zu hb);clear ho hb g6 PV3 QV3 HN2 HM2 HK3 HBV3;have g6:=ce PV4 6;have f6:=PV4.out.frozen 6;have PV5:Hid (ZP (V4.setCell ⟨w.heap.size,6,none⟩ (.slice B4 c.Z3.length l4)) w.heap.size 33 [.int .i64 c.ZO,.int .i64 c.ZU,.slice B0 c.ob.Z4.length l0,.slice B1 c.ob.Z7.length l1,.slice B2 c.ro.ZW.length l2,.slice B3 c.ro.Z2.length l3,.slice B4 c.Z3.length l4]):=hid (PV4.out.ZD 6 _);have QV5:Hid (ZP (V4.setCell ⟨w.heap.size,6,none⟩ (.slice B4 c.Z3.length l4)) (w.heap.size+1) 33 [.int .i64 0,.int .i64 0,.slice none 0 0,.slice none 0 0,.slice none 0 0,.slice none 0 0,.slice none 0 0]):=hid (QV4.out.Xo (by show _≠w.heap.size;omega) _)
   have HBV5:Hid (Below w.heap.size w (V4.setCell ⟨w.heap.size,6,none⟩ (.slice B4 c.Z3.length l4))):=hid (HBV4.out.setCell lr _);have HK5:Hid (ZS [33] V4 (V4.setCell ⟨w.heap.size,6,none⟩ (.slice B4 c.Z3.length l4))):=hid (ZS.ZD PV4.out.XM (by simp) _);go_wp2_with (first | (refine lO PV5 HI7 Tryz.underlying33 ?_) | ((refine sO QV5 HI7 ?_);intro wZ HZ) | fail);refine bodyPost_ret (rS (hid HZ.out.Ym) Tryz.underlying33 HI7) rfl ?_
   have hKz:=HK5.out.trans HZ.out.keeps;have hKw:=HK4.out.trans hKz;exact⟨⟨B0,l0,B1,l1,B2,l2,B3,l3,B4,l4⟩,rfl,⟨ZI HScT.out hKw (by decide),ZI HTbT.out hKw (by decide),ZI (WG (us:=CG) HN4.out) hKz (by decide),ZI (Tv (us:=CG) HM4.out) hKz (by decide)⟩,HG4.out.keeps hKz (by decide),HZ.out.below HBV5.out (by omega)⟩
theorem Ub {P:Program}(w:World)(base:Nat)(t ty e:TypeId)(i:TypeInfo)(ht:P.underlying t=some (.slice e))(hi:P.info? e=some i){k:Nat}(hk:i.size=k)
  (v:Value) (n:Nat) (xs:List Value) (hown:w.ownsRow base e k v n xs) (c:Nat):(Builtin.append_ #[t,t] ty #[v,.slice none 0 c]).run P w= .ok v w:=by
 rcases hown.2 with ⟨rfl,rfl⟩ | ⟨g,cap,cur,rfl,_,_,hnc,_⟩
 ·simp [Builtin.append_,run_underlying ht,sizeOf,typeInfo,hi,Builtin.lenOf,Builtin.firstCells]
 ·simp [Builtin.append_,run_underlying ht,sizeOf,typeInfo,hi,Builtin.lenOf,Builtin.firstCells,hnc,storeCells]
theorem Pn {α:Type}{enc:α→List Value}{w:World}{B:Nat}{A:Option Addr}{l:List α}(h:Zg w B A enc l):(A=none∧l= [])∨ ∃ ad,A=some ad∧ ∀ (i:Nat)(u:Value),(l.flatMap enc)[i]?=some u→w.cell? (ad.add i)=some u:=by
 cases A with
 | none=>
  refine Or.inl ⟨rfl,?_⟩
  rcases Nat.eq_zero_or_pos l.length with h0 | h0
  ·exact List.eq_nil_of_length_eq_zero h0
  ·obtain⟨ad,h1,_⟩:=h h0
   cases h1
 | some ad=>
  refine Or.inr ⟨ad,rfl,fun i u hu=> ?_⟩
  have h0:0<l.length:=by
   rcases Nat.eq_zero_or_pos l.length with h0 | h0
   ·rw [List.eq_nil_of_length_eq_zero h0] at hu;simp at hu
   ·exact h0
  obtain⟨ad',e,_,h1⟩:=h h0;injection e with e
  subst e;exact h1 i u hu
theorem Xg {P:Program}{w:World}{ops:Array Oper}{rest:List Oper}{o:Oper}{a:Act}{Q:Exit→Act→World→Prop}(hgd:o.guard=none)(s x:Operand)(t:TypeId)
  (ho:o.op= .call { callee:= .builtin .append,args:= #[s,x],argTypes:= #[t,t]})
  (base:Nat) (e:TypeId) (i:TypeInfo) (z:Value) (size bytes:Nat) (ht:P.underlying t=some (.slice e)) (hi:P.info? e=some i) (hz:i.zero=some z)
  (hsize:i.size=size) (hby:i.bytes=bytes) (hzs:z.cells.size=size) (hsz:0<size)
  (v:Value) (n:Nat) (xs:List Value) (hs:a.eval s=v) (hown:w.ownsRow base e size v n xs)
  {α:Type} {enc:α→List Value} (hk: ∀ x,(enc x).length=size) (hone: ∀ x,∀ v∈enc x,v.oneCell'=true) (A:Option Addr) (c:Nat) (l:List α) (hx:a.eval x= .slice A l.length c) {B:Nat} (hr:Zg w B A enc l)
  (h63:n+l.length≤maxLen) (hbytes:(n+l.length)*bytes≤140737488355328) (hbase:base≤w.heap.size)
  (h: ∀ A' c' w',Hid (w'.ownsRow base e size (.slice A' (n+l.length) c') (n+l.length) (xs ++l.flatMap enc))→Hid (w.grownBy w' v.ownBlock)→wpList P ops Q rest (a.put o.dst (.slice A' (n+l.length) c')) w'):wpList P ops Q (o ::rest) a w:=by
 rcases Pn hr with ⟨rfl,rfl⟩ | ⟨ad,rfl,hc⟩
 ·refine wpList_plain hgd fun K hK=> ?_
  have hrun:=Ub (P:=P) w base t o.type e i ht hi hsize v n xs hown c;unfold Oper.wp execOp;simp only [List.length_nil] at hx;simp only [ho,resolve,invoke,builtin,Sem.run_bind,Sem.run_pure,Result.andThen_ok,List.map_toArray,List.map_cons,List.map_nil,hs,hx,hrun];obtain⟨A',c',rfl⟩:=WP hown;have:=h A' c' w (hid (by simpa using hown)) (hid (World.grownBy.refl w _));exact hK _ _ (by simpa using this)
 ·exact YZ hgd s x t ho base e i z size bytes ht hi hz hsize hby hzs hsz v n xs hs hown ad l.length c (l.flatMap enc) hx (Zp hk l) hc (Yn hone l) h63 hbytes hbase h
end Go.Proofs.YtnhmoibjlakhjaaGreat
namespace Go.Proofs.YtnhmoibjlakhjaaGreat
set_option maxRecDepth 100000
set_option maxHeartbeats 16000000
open Go.RowKit
theorem Jn (a:Sc)(w:World):(binOp .neq 89 (.agg #[.string (Z9 a.name),.string (Z9 a.ZN)]) (.agg #[.string (Z9 a.name),.string (Z9 a.ZN)])).run Tryz.prog w= .ok (.bool false) w:=by
 have hu:=Tryz.underlying89;have hs:=Tryz.underlying9;have hp:Tryz.prog.stoodInHeld 89=false:=by kernel_rfl
 rw [run_neq_struct];go_simp
theorem Jo (a:Mb)(w:World):(binOp .neq 147 (.agg #[.string (Z9 a.ZR),.string (Z9 a.of)]) (.agg #[.string (Z9 a.ZR),.string (Z9 a.of)])).run Tryz.prog w= .ok (.bool false) w:=by
 have hu:=Tryz.underlying147;have hs:=Tryz.underlying9;have hp:Tryz.prog.stoodInHeld 147=false:=by kernel_rfl
 rw [run_neq_struct];go_simp
theorem Jq (a:Cl)(w:World):(binOp .neq 119 (.agg #[.string (Z9 a.name),.int .i64 a.ZQ,.bool a.null]) (.agg #[.string (Z9 a.name),.int .i64 a.ZQ,.bool a.null])).run Tryz.prog w= .ok (.bool false) w:=by
 have hu:=Tryz.underlying119;have hs:=Tryz.underlying9;have hb:=Tryz.underlying4;have hk:=Tryz.underlying62;have hp:Tryz.prog.stoodInHeld 119=false:=by kernel_rfl
 rw [run_neq_struct];go_simp
theorem Jp (a:Gr)(w:World):(binOp .neq 53 (.agg #[.string (Z9 a.Z8),.string (Z9 a.ZX),.int .i64 a.right,.string (Z9 a.ZM),.string (Z9 a.to),.bool a.Zy]) (.agg #[.string (Z9 a.Z8),.string (Z9 a.ZX),.int .i64 a.right,.string (Z9 a.ZM),.string (Z9 a.to),.bool a.Zy])).run Tryz.prog w= .ok (.bool false) w:=by
 have hu:=Tryz.underlying53;have hs:=Tryz.underlying9;have hb:=Tryz.underlying4;have hk:=Tryz.underlying41;have hp:Tryz.prog.stoodInHeld 53=false:=by kernel_rfl
 rw [run_neq_struct];go_simp
end Go.Proofs.YtnhmoibjlakhjaaGreat
