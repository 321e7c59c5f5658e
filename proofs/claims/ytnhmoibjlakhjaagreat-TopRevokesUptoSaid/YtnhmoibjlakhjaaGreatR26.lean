/- Lemmas of the proof. No condition but each theorem's own. -/
import Derived.Test.YtnhmoibjlakhjaaGreatR25
import Derived.Test.YtnhmoibjlakhjaaGreatR18
import Derived.Test.YtnhmoibjlakhjaaGreatR10
import Derived.Test.YtnhmoibjlakhjaaGreatR03
import Derived.Test.YtnhmoibjlakhjaaGreatR20
import Derived.Laws.StructEq
set_option linter.unusedVariables false
set_option linter.unusedSimpArgs false
namespace Go.Proofs.YtnhmoibjlakhjaaGreat
open Lib (hid)
set_option maxRecDepth 100000
set_option maxHeartbeats 16000000
open Go.RowKit Go.Maps
def LQ (ms:List Mb)(ZT:List UInt8)(w:World)(e:Ending)(w':World):Prop:=
 ∃ (fb N:Nat) (f:List UInt8→Nat),e= .returned (.map (some fb))∧Y7 Tryz.prog 9 Vy w' (.int .i64 0) fb N (Tf f)∧(∀ x,f x≤1099511627776)∧(∀ x,0<f x↔x∈Ui ms ZT)∧Below w.heap.size w w'∧w.heap.size≤fb
theorem wp_append_run {P:Program}{o:Oper}{a:Act}{w w':World}{K:Act→World→Prop}{Q:Exit→Act→World→Prop}(s x:Operand)(t:TypeId)(ho:o.op= .call { callee:= .builtin .append,args:= #[s,x],argTypes:= #[t,t]}){vs vx v:Value}(hs:a.eval s=vs)(hx:a.eval x=vx)
  (hrun:(Builtin.append_ #[t,t] o.type #[vs,vx]).run P w= .ok v w') (h:K (a.put o.dst v) w'):Oper.wp P o a w K Q:=by
 unfold Oper.wp execOp;simp only [ho,resolve,invoke,builtin,Sem.run_bind,Sem.run_pure,Result.andThen_ok,List.map_toArray,List.map_cons,List.map_nil,hs,hx,hrun];exact h
theorem Rv {P:Program}{w:World}{a:Addr}{m:Mode}(f:Fn)(x y:Array Value):(store a (.func f x y) m).run P w=stored P w a (.func f x y) m:=run_store P w a _ m rfl
attribute [local go_sem] Rv
theorem Kq (ms:List Mb):mu ms (fun _=>0)=ms.length:=by
 simp [mu]
theorem Rq (ms:List Mb)(NA:Option Addr)(nn nc:Nat)(A:Option Addr)(c:Nat)(ZT:List UInt8)(w:World)(hA:Ze w w.heap.size A Mb.cs ms)(hl:ms.length≤65536)
  (hb: ∀ m∈ms,m.ZT.length≤1099511627776∧m.of.length≤1099511627776) (hr:ZT.length≤1099511627776):
  Calls Tryz.prog 95 #[.agg #[.slice NA nn nc,.slice A ms.length c],.string (Z9 ZT)] w (LQ ms ZT w):=by
 have HA:=hid hA;have HBd:=hid hb;clear hA hb;go_enter Tryz.func95,Tryz.ntmps95
 have hmm:= @run_makeMap Tryz.prog;go_wp2_with fail;refine Uv _ fun W hW=> ?_
 have HN:Hid (Ph ms w.heap.size w W 0 (fun _=> .slice none 0 0)):=hid (by
  refine⟨?_,?_,?_,fun x=> ?_,(fun x y g hx _=>by cases hx),?_⟩
  ·rw [hW];exact((br.alloc lr _).alloc (by simp) _).alloc (by simp;omega) _
  ·rw [hW];have:=(ZP.new ((w.alloc (.cells #[.slice NA nn nc,.slice A ms.length c] 30)).alloc (.map #[] 0)) 154 [.map (some (w.heap.size+1))]).cell 0;rw [show ((w.alloc (.cells #[.slice NA nn nc,.slice A ms.length c] 30)).alloc (.map #[] 0)).heap.size=w.heap.size+2 from by simp] at this;exact this
  ·rw [hW];have:=Y7.made Tryz.prog 9 Vy (w.alloc (.cells #[.slice NA nn nc,.slice A ms.length c] 30)) (.slice none 0 0);rw [show (w.alloc (.cells #[.slice NA nn nc,.slice A ms.length c] 30)).heap.size=w.heap.size+1 from by simp] at this;exact this.alloc _
  ·rw [List.take_zero];exact World.ownsRow_nil _ _ _ _
  ·rw [hW];simp)
 clear hW;go_loopw [14] (fun i wr=> ∃ (j:Nat) (nx:List UInt8→Value),j≤ms.length∧i= .int .i64 j∧Hid (Ph ms w.heap.size w wr j nx)) (fun i _=>ms.length - (intOf i).toNat)
 case atStart=>exact⟨0,_,Nat.zero_le _,rfl,HN⟩
 case round=>
  obtain⟨j,nx,hj,rfl,HJ⟩:=hrel;by_cases hlt:j<ms.length
  ·obtain⟨ad,rfl,hB,hread⟩:=(HA.out.later HJ.out.below) (by omega);have a0:wr.cell? (ad.add (j*2))=some (.string (Z9 ms[j].ZT)):=hread _ _ (by have:=Zj Mb.k ms j 0 hlt (by omega);rw [Nat.add_zero] at this;rw [this];rfl)
   have a1:wr.cell? ⟨(ad.add (j*2)).block,(ad.add (j*2)).off+1,none⟩=some (.string (Z9 ms[j].of)):=by rw [←YH ad (j*2) 1 (by omega)];exact hread _ _ (by rw [Zj Mb.k ms j 1 hlt (by omega)];rfl)
   obtain⟨hS0,hS1,v,W2,W3,nx',hrun,hS2,hput,hK⟩:=HJ.out.step hlt hl (HBd.out _ (List.getElem_mem hlt)).1;have HK:=hid hK;obtain⟨Ax,cx,hnx⟩:=Wi (HJ.out.own ms[j].ZT);rw [hnx] at hrun hS0 hS1 hS2;have hsz:=HJ.out.size;clear hread hK HJ hnx HN;generalize (Yl (List.take j ms) ms[j].ZT).length=nxl at*;generalize ms[j]=m at*;go_wp2_with fail;refine YB 11 (S:=fun w'=>w'.cell? ⟨w.heap.size+2,0,none⟩=some (.map (some (w.heap.size+1)))∧w'.cell? ⟨wr.heap.size,0,none⟩=some (.string (Z9 m.ZT))∧w'.cell? ⟨wr.heap.size,1,none⟩=some (.string (Z9 m.of))∧(Instr.lookup 154 (.map (some (w.heap.size+1))) (.string (Z9 m.ZT)) false).run Tryz.prog w'= .ok (.slice Ax nxl cx) w') (by kernel_rfl) hS0 (fun HD'=> ?_)
   (try simp only [pp]);refine Xk 0 18 HD' ?_;refine Xk 1 19 HD' ?_;refine Xk 2 20 HD' ?_;refine Xk 3 21 HD' ?_;refine Xk 4 22 HD' ?_;refine Xk 5 23 HD' ?_;refine Xk 6 24 HD' ?_;refine Xk 7 25 HD' ?_;refine Xk 8 26 HD' ?_;refine Vd 9 27 fun K hK=> ?_
   go_simp;refine hK.out _ _ hS1 ?_
   clear hK K;(try simp only [pp])
   refine Vd 10 28 fun K hK=> ?_
   rw [if_pos (by rfl)];refine wp_append_run _ _ _ rfl rfl rfl hrun ?_
   refine hK.out _ _ hS2 ?_
   clear hK K;(try simp only [pp])
   refine YI.Xo (i:=11) (o:=⟨none,_,_,_,_,_⟩) (by kernel_rfl) rfl rfl (fun K hK=> ?_)
   rw [if_pos (by rfl)];refine WL _ _ _ rfl rfl rfl rfl hput ?_
   refine hK.out _ _ (YI.done (by kernel_rfl) ?_ _);clear hK K;clear hS0 hS1 hS2 hrun hput HD' a0 a1;go_wp2;go_roundw
   case rel=>exact⟨j+1,nx',by omega,by go_num,HK⟩
   case measure=>simp [intOf];omega
  ·obtain rfl:j=ms.length:=by omega
   have hsz:=HJ.out.size;have PX:ZP (((wr.alloc (.map #[] 0)).alloc (.cells #[.map (some wr.heap.size)] 164)).alloc (.cells #[(.func (.func 154) #[] #[.pointer (some ⟨wr.heap.size+1,0,none⟩),.pointer (some ⟨w.heap.size+2,0,none⟩),.pointer (some ⟨wr.heap.size+2,0,none⟩)])] 208)) (wr.heap.size+1+1) 208 [(.func (.func 154) #[] #[.pointer (some ⟨wr.heap.size+1,0,none⟩),.pointer (some ⟨w.heap.size+2,0,none⟩),.pointer (some ⟨wr.heap.size+2,0,none⟩)])]:=by
    have:=ZP.new ((wr.alloc (.map #[] 0)).alloc (.cells #[.map (some wr.heap.size)] 164)) 208 [(.func (.func 154) #[] #[.pointer (some ⟨wr.heap.size+1,0,none⟩),.pointer (some ⟨w.heap.size+2,0,none⟩),.pointer (some ⟨wr.heap.size+2,0,none⟩)])];rw [show ((wr.alloc (.map #[] 0)).alloc (.cells #[.map (some wr.heap.size)] 164)).heap.size=wr.heap.size+1+1 from by simp] at this;exact this
   have PY:ZP (((wr.alloc (.map #[] 0)).alloc (.cells #[.map (some wr.heap.size)] 164)).alloc (.cells #[(.func (.func 154) #[] #[.pointer (some ⟨wr.heap.size+1,0,none⟩),.pointer (some ⟨w.heap.size+2,0,none⟩),.pointer (some ⟨wr.heap.size+2,0,none⟩)])] 208)) (wr.heap.size+1) 164 [.map (some wr.heap.size)]:=by
    have:=(ZP.new (wr.alloc (.map #[] 0)) 164 [.map (some wr.heap.size)]).alloc (.cells #[(.func (.func 154) #[] #[.pointer (some ⟨wr.heap.size+1,0,none⟩),.pointer (some ⟨w.heap.size+2,0,none⟩),.pointer (some ⟨wr.heap.size+2,0,none⟩)])] 208);rw [show (wr.alloc (.map #[] 0)).heap.size=wr.heap.size+1 from by simp] at this;exact this
   have BX:Below wr.heap.size wr (((wr.alloc (.map #[] 0)).alloc (.cells #[.map (some wr.heap.size)] 164)).alloc (.cells #[(.func (.func 154) #[] #[.pointer (some ⟨wr.heap.size+1,0,none⟩),.pointer (some ⟨w.heap.size+2,0,none⟩),.pointer (some ⟨wr.heap.size+2,0,none⟩)])] 208)):=((br.alloc lr _).alloc (by simp) _).alloc (by simp;omega) _;have MX:Y7 Tryz.prog 9 Vy (((wr.alloc (.map #[] 0)).alloc (.cells #[.map (some wr.heap.size)] 164)).alloc (.cells #[(.func (.func 154) #[] #[.pointer (some ⟨wr.heap.size+1,0,none⟩),.pointer (some ⟨w.heap.size+2,0,none⟩),.pointer (some ⟨wr.heap.size+2,0,none⟩)])] 208)) (.int .i64 0) wr.heap.size 0 (Tf fun _=>0):=((Y7.made Tryz.prog 9 Vy wr (.int .i64 0)).alloc _).alloc _;have HPX:=hid PX;have HPY:=hid PY;have HBX:=hid BX;have HMX:=hid MX;clear PX PY BX MX;go_wp2_with fail;refine Zm _ fun W4 hW4=> ?_
   have FV:Hid (W4=(((wr.alloc (.map #[] 0)).alloc (.cells #[.map (some wr.heap.size)] 164)).alloc (.cells #[(.func (.func 154) #[] #[.pointer (some ⟨wr.heap.size+1,0,none⟩),.pointer (some ⟨w.heap.size+2,0,none⟩),.pointer (some ⟨wr.heap.size+2,0,none⟩)])] 208))):=hid hW4;have HB4:Hid (Below wr.heap.size wr W4):=hid (by rw [FV.out];exact HBX.out);have HM4:Hid (Y7 Tryz.prog 9 Vy W4 (.int .i64 0) wr.heap.size 0 (Tf fun _=>0)):=hid (by
    rw [FV.out];exact HMX.out)
   have HK4:Hid (Pf ms (wr.heap.size+1) (w.heap.size+2) (wr.heap.size+2) wr.heap.size (w.heap.size+1) ms.length nx W4):=hid (by
    have hB4:=HB4.out;refine⟨?_,?_,?_,by omega,by omega,by omega,by omega,HJ.out.map.later hB4,fun x=> ?_⟩
    ·rw [FV.out];exact HPY.out.cell 0
    ·exact(hB4.cell (p:=⟨w.heap.size+2,0,none⟩) (by show w.heap.size+2<_;omega)).trans HJ.out.cell
    ·rw [FV.out];exact HPX.out.cell 0
    ·have ho:=HJ.out.own x;rw [List.take_length] at ho;obtain⟨Ax,cx,hnx⟩:=Wi ho;refine⟨Ax,cx,hnx,fun i hi=> ?_⟩
     rw [hnx] at ho;obtain⟨ad,hA1,hb1,hr1⟩:=(XA ho rfl).later hB4 (by omega);obtain⟨ad2,hA2,hb2,_⟩:=(XA ho rfl) (by omega);rw [hA1] at hA2;injection hA2 with hA2
     subst hA2;refine⟨ad,hA1,by omega,?_⟩
     have:=hr1 (i*1) (.string (Z9 (Yl ms x)[i])) (by have:=Zj YS.k (Yl ms x) i 0 hi (by omega);rw [Nat.add_zero] at this;rw [this];rfl);rwa [Nat.mul_one] at this)
   have HBw4:Hid (Below w.heap.size w W4):=hid (HJ.out.below.trans (HB4.out.mono (by omega)));clear hW4 FV HB4 HJ HN HPX HPY HBX HMX;have hmu0:=Kq ms;refine(Kd ms (wr.heap.size+1) (w.heap.size+2) (wr.heap.size+2) wr.heap.size (w.heap.size+1) ms.length nx (fun m hm=>(HBd.out m hm).2) (ms.length+2) ZT (fun _=>0) 0 W4 hr HK4.out HM4.out (fun _=>Nat.le_refl _) (by omega) (by omega) (by omega)).mono ?_
   rintro e w5 ⟨N',f',rfl,hg5,hM5,hN5,hs5,_,hm5⟩;have c5:=(HK4.out.grown hg5).c1;have HR:Hid (LQ ms ZT w (.returned (.map (some wr.heap.size))) w5):=hid ⟨wr.heap.size,N',f',rfl,hM5,fun x=>by have:=hN5 x;omega,fun x=>hm5 [] (fun y=>by simp) x,HBw4.out.grown hg5 (by have:=HBw4.out.size;omega) (fun k hk=>by injection hk with hk;omega),by omega⟩
   clear hg5 hM5 hN5 hs5 hm5 HK4 HM4 HBw4;go_wp2;go_ret;exact HR.out
end Go.Proofs.YtnhmoibjlakhjaaGreat
namespace Go.Proofs.YtnhmoibjlakhjaaGreat
open Lib (hid)
set_option maxRecDepth 100000
set_option maxHeartbeats 16000000
open Go.RowKit Go.Maps
theorem Mb.YO {w:World}{S:Nat→Prop}{c:Mb}{vs:List Value}(h:ZH w S Y5 c.da vs):vs=c.cs:=by
 obtain⟨s,h1,rfl⟩:=Mb.YN h
 cases c
 cases s
 simp [Mb.da] at h1;obtain⟨rfl,rfl⟩:=h1;rfl
theorem Mb.Yj {w:World}{B:Nat}{l:List Mb}{A:Option Addr}(h:ZV w (· < B) Y5 (l.map Mb.da) A):Ze w B A Mb.cs l:=by
 obtain⟨l',h1,h2,_⟩:=WP (enc:=Mb.cs) Mb.da id (fun _=>True) (fun x vs hv=>⟨x,rfl,Mb.YO hv,trivial⟩) (fun x=>rfl) h;rw [List.map_id] at h1;rw [←h1];exact h2
def VU (r:Ro)(m:Mb):Bool:=r.ZW.contains m.ZT && (r.ZW.contains m.of && !(Ui r.Z2 m.of).contains m.ZT)
theorem Rw (r:Ro)(A0:Option Addr)(k0:Nat)(A1:Option Addr)(k1:Nat)(w:World)(hN:ZV w (· < w.heap.size) [.Z9] (YU r.ZW) A0)(hM:ZV w (· < w.heap.size) Y5 (r.Z2.map Mb.da) A1)
  (hnl:r.ZW.length≤1099511627776) (hml:r.Z2.length≤1099511627776) (hb: ∀ m∈r.Z2,m.ZT.length≤1099511627776∧m.of.length≤1099511627776):
  Calls Tryz.prog 94 #[.agg #[.slice A0 r.ZW.length k0,.slice A1 r.Z2.length k1]] w fun e w'=>e= .returned (.bool (Yu r))∧Below w.heap.size w w':=by
 have HN:=hid hN;have HNE:=hid (X9 hN);have HME:=hid (Mb.Yj hM);have HBd:=hid hb;clear hN hM hb;have HR:Hid (Yu r=(decide (r.ZW.length≤16) && (decide (r.Z2.length≤256) && (Zo Y4 r.ZW && (Zo X3 r.Z2 && (r.ZW.all Zr && r.Z2.all (VU r))))))):=hid (by simp only [Yu,Bool.and_assoc];rfl)
 generalize Yu r=res at*;go_enter Tryz.func94,Tryz.ntmps94
 have B0:Below w.heap.size w (w.alloc (.cells #[.slice A0 r.ZW.length k0,.slice A1 r.Z2.length k1] 30)):=br.alloc lr _;by_cases h16:r.ZW.length≤16
 case neg=>
  have HR':Hid (res=false):=hid (by rw [HR.out,decide_eq_false h16];rfl);have h16':(r.ZW.length:Int) > 16:=by omega
  go_wp2;go_ret;exact⟨by rw [HR'.out];rfl,B0⟩
 by_cases h256:r.Z2.length≤256
 case neg=>
  have HR':Hid (res=false):=hid (by rw [HR.out,decide_eq_false h256,Bool.false_and,Bool.and_false]);have h16': ¬ (r.ZW.length:Int) > 16:=by omega
  have h256':(r.Z2.length:Int) > 256:=by omega
  go_wp2;go_ret;exact⟨by rw [HR'.out];rfl,B0⟩
 have h16': ¬ (r.ZW.length:Int) > 16:=by omega
 have h256': ¬ (r.Z2.length:Int) > 256:=by omega
 rw [decide_eq_true h16,decide_eq_true h256,Bool.true_and,Bool.true_and] at HR;have HB0:=hid B0;clear B0;go_wp2_with fail;refine Zm _ fun W1 hW=> ?_
 have HB1:Hid (Below w.heap.size w W1):=hid (by rw [hW];exact HB0.out);have P1:=nC hW;clear hW HB0;refine(Ns r.ZW A0 k0 W1 (HNE.out.later HB1.out) hnl).mono ?_
 rintro e W2 ⟨rfl,hb⟩;have HB2:=bt HB1 hb;have P2:=bl P1 hb;clear hb HB1 P1;generalize Zo Y4 r.ZW=p1 at*
 cases p1
 ·have HR':Hid (res=false):=hid HR.out;go_wp2;go_ret;exact⟨by rw [HR'.out];rfl,HB2.out⟩
 rw [Bool.true_and] at HR;have q1:=ce P2 1;go_wp2_with fail;refine(QO r.Z2 A1 k1 W2 (HME.out.later HB2.out) hml).mono ?_
 rintro e W3 ⟨rfl,hb⟩;have HB3:=bt HB2 hb;have P3:=bl P2 hb;clear hb HB2 P2 q1;generalize Zo X3 r.Z2=p2 at*
 cases p2
 ·have HR':Hid (res=false):=hid HR.out;go_wp2;go_ret;exact⟨by rw [HR'.out];rfl,HB3.out⟩
 rw [Bool.true_and] at HR;have q0:=ce P3 0;go_wp2;go_loopw [32] (fun i wr=> ∃ j:Nat,j≤r.ZW.length∧i= .int .i64 j∧Hid (r.ZW.all Zr=(r.ZW.drop j).all Zr)∧Hid (Below w.heap.size w wr)∧Hid (ZP wr w.heap.size 30 [.slice A0 r.ZW.length k0,.slice A1 r.Z2.length k1])) (fun i _=>r.ZW.length - (intOf i).toNat)
 case atStart=>exact⟨0,Nat.zero_le _,rfl,hid (by rw [List.drop_zero]),HB3,P3⟩
 case round=>
  clear HB3 P3 q0;obtain⟨j,hj,rfl,HE,HBw,K0⟩:=hrel;by_cases hlt:j<r.ZW.length
  ·have HX:=hid (HE.out.trans (Wb Zr r.ZW j hlt));obtain⟨ad,rfl,a0⟩:=Tl (w:=wr) (HN.out.later HBw.out) hlt;generalize r.ZW[j]=n at*;go_wp2_with fail;refine(YL n wr).mono ?_
   rintro e w1 ⟨rfl,m1,rfl⟩;have HBn:=hid (below_drewN HBw.out m1);have Kn:=hid (K0.out.drewN m1);clear HBw K0 a0;generalize wr.drewN m1=w2 at*
   cases hq:Zr n
   ·have HR':Hid (res=false):=hid (by rw [HR.out,HX.out,hq];rfl);clear hq;go_wp2;go_ret;exact⟨by rw [HR'.out];rfl,HBn.out⟩
   ·rw [hq,Bool.true_and] at HX;clear hq;go_wp2;go_roundw
    case rel=>exact⟨j+1,by omega,by go_num,HX,HBn,Kn⟩
    case measure=>simp [intOf];omega
  ·obtain rfl:j=r.ZW.length:=by omega
   rw [List.drop_length] at HE;rw [show r.ZW.all Zr=true from HE.out,Bool.true_and] at HR;have k1':=ce K0 1;go_wp2;go_loopw [43] (fun i wr=> ∃ j:Nat,j≤r.Z2.length∧i= .int .i64 j∧Hid (r.Z2.all (VU r)=(r.Z2.drop j).all (VU r))∧Hid (Below w.heap.size w wr)∧Hid (ZP wr w.heap.size 30 [.slice A0 r.ZW.length k0,.slice A1 r.Z2.length k1])) (fun i _=>r.Z2.length - (intOf i).toNat)
   case atStart=>exact⟨0,Nat.zero_le _,rfl,hid (by rw [List.drop_zero]),HBw,K0⟩
   case round=>
    clear HBw K0 k1';obtain⟨j,hj,rfl,HE,HBw,K0⟩:=hrel;by_cases hlt:j<r.Z2.length
    ·have HX:=hid (HE.out.trans (Wb (VU r) r.Z2 j hlt));have hmb:=HBd.out _ (List.getElem_mem hlt);obtain⟨ad,rfl,hB,hread⟩:=(HME.out.later HBw.out) (by omega);have a0:wr.cell? (ad.add (j*2))=some (.string (Z9 r.Z2[j].ZT)):=hread _ _ (by have:=Zj Mb.k r.Z2 j 0 hlt (by omega);rw [Nat.add_zero] at this;rw [this];rfl)
     have a1:wr.cell? ⟨(ad.add (j*2)).block,(ad.add (j*2)).off+1,none⟩=some (.string (Z9 r.Z2[j].of)):=by rw [←YH ad (j*2) 1 (by omega)];exact hread _ _ (by rw [Zj Mb.k r.Z2 j 1 hlt (by omega)];rfl)
     clear hread hB;generalize r.Z2[j]=m at*;go_wp2_with fail;refine Uv _ fun V hV=> ?_
     have HBV:=bP hV;have PV:ZP V wr.heap.size 147 [.string (Z9 m.ZT),.string (Z9 m.of)]:=by rw [hV];exact ZP.new wr _ _
     have PO:ZP V w.heap.size 30 [.slice A0 r.ZW.length k0,.slice (some ad) r.Z2.length k1]:=by rw [hV];exact K0.out.alloc _
     clear hV a0 a1;have hlv:=PV.lt;have hlo:=PO.lt;have hS0:(fun w'=>Below V.heap.size V w'∧w'.cell? ⟨w.heap.size,0,none⟩=some (.slice A0 r.ZW.length k0)∧w'.cell? ⟨w.heap.size,1,none⟩=some (.slice (some ad) r.Z2.length k1)∧w'.cell? ⟨wr.heap.size,0,none⟩=some (.string (Z9 m.ZT))∧w'.cell? ⟨wr.heap.size,1,none⟩=some (.string (Z9 m.of))) V.drew:=⟨br.drew,PO.cell 0,PO.cell 1,PV.cell 0,PV.cell 1⟩
     have hkeep:Hid (∀ w1 w2,(fun w'=>Below V.heap.size V w'∧w'.cell? ⟨w.heap.size,0,none⟩=some (.slice A0 r.ZW.length k0)∧w'.cell? ⟨w.heap.size,1,none⟩=some (.slice (some ad) r.Z2.length k1)∧w'.cell? ⟨wr.heap.size,0,none⟩=some (.string (Z9 m.ZT))∧w'.cell? ⟨wr.heap.size,1,none⟩=some (.string (Z9 m.of))) w1→Below w1.heap.size w1 w2→(fun w'=>Below V.heap.size V w'∧w'.cell? ⟨w.heap.size,0,none⟩=some (.slice A0 r.ZW.length k0)∧w'.cell? ⟨w.heap.size,1,none⟩=some (.slice (some ad) r.Z2.length k1)∧w'.cell? ⟨wr.heap.size,0,none⟩=some (.string (Z9 m.ZT))∧w'.cell? ⟨wr.heap.size,1,none⟩=some (.string (Z9 m.of))) w2):=hid fun w1 w2 h h2=>by
      have h3:Below V.heap.size V w2:=h.1.trans (h2.mono h.1.size);exact⟨h3,(h3.cell (p:=⟨w.heap.size,0,none⟩) hlo).trans (PO.cell 0),(h3.cell (p:=⟨w.heap.size,1,none⟩) hlo).trans (PO.cell 1),(h3.cell (p:=⟨wr.heap.size,0,none⟩) hlv).trans (PV.cell 0),(h3.cell (p:=⟨wr.heap.size,1,none⟩) hlv).trans (PV.cell 1)⟩
     have HBwV:Hid (∀ W,Below V.heap.size V W→Below w.heap.size w W):=hid fun W h=>(HBw.out.trans (HBV.out.mono HBw.out.size)).trans (h.mono (by have:=HBw.out.size;have:=HBV.out.size;omega))
     have HKV:Hid (∀ W,Below V.heap.size V W→ZP W w.heap.size 30 [.slice A0 r.ZW.length k0,.slice (some ad) r.Z2.length k1]):=hid fun W h=>PO.below h hlo
     have HC1:Hid (∀ W,Below V.heap.size V W→Calls Tryz.prog 30 #[.slice A0 r.ZW.length k0,.string (Z9 m.ZT)] W fun e w'=>e= .returned (.bool (r.ZW.contains m.ZT))∧w'=W):=hid fun W h=>Zn r.ZW A0 k0 m.ZT W (HN.out.later (HBwV.out W h)) hnl
     have HC2:Hid (∀ W,Below V.heap.size V W→Calls Tryz.prog 30 #[.slice A0 r.ZW.length k0,.string (Z9 m.of)] W fun e w'=>e= .returned (.bool (r.ZW.contains m.of))∧w'=W):=hid fun W h=>Zn r.ZW A0 k0 m.of W (HN.out.later (HBwV.out W h)) hnl
     have HSeen:Hid (∀ W,Below V.heap.size V W→Calls Tryz.prog 95 #[.agg #[.slice A0 r.ZW.length k0,.slice (some ad) r.Z2.length k1],.string (Z9 m.of)] W (LQ r.Z2 m.of W)):=hid fun W h=>Rq r.Z2 A0 r.ZW.length k0 (some ad) k1 m.of W (HME.out.later (HBwV.out W h)) (by omega) HBd.out hmb.2
     have HQ:Hid (VU r m=(r.ZW.contains m.ZT && (r.ZW.contains m.of && !(Ui r.Z2 m.of).contains m.ZT))):=hid rfl;have hmr:=hmb.1;clear PV PO hmb K0 HBV;generalize r.ZW.contains m.ZT=c1 at*;generalize r.ZW.contains m.of=c2 at*
     cases c1
     ·have HR':Hid (res=false):=hid (by rw [HR.out,HX.out,HQ.out];rfl);clear HX HQ HE;refine wp_region_held_drew (S:=fun w'=>Below V.heap.size V w'∧w'.cell? ⟨w.heap.size,0,none⟩=some (.slice A0 r.ZW.length k0)∧w'.cell? ⟨w.heap.size,1,none⟩=some (.slice (some ad) r.Z2.length k1)∧w'.cell? ⟨wr.heap.size,0,none⟩=some (.string (Z9 m.ZT))∧w'.cell? ⟨wr.heap.size,1,none⟩=some (.string (Z9 m.of))) (by kernel_rfl) hS0 (fun HD=> ?_)
      (try simp only [pp]);refine tk 0 47 HD ?_;refine tk 1 48 HD ?_;refine tk 2 49 HD ?_;refine tk 3 50 HD ?_;refine on 4 51 fun K hK=> ?_
      go_simp;go_at_call 30
      refine(HC1.out _ HD.1).mono ?_
      rintro e w5 ⟨rfl,rfl⟩;refine hK.out _ _ HD (fun HD=> ?_);clear hK K;(try simp only [pp])
      refine tk 5 52 HD ?_;refine tk 6 53 HD ?_;refine sk 7 54 HD ?_;refine sk 8 55 HD ?_;refine sk 9 56 HD ?_;refine sk 10 57 HD ?_;refine sk 11 58 HD ?_;refine sk 12 59 HD ?_;refine tk 13 60 HD ?_;refine tk 14 61 HD ?_;refine sk 15 62 HD ?_;refine sk 16 63 HD ?_;refine sk 17 64 HD ?_;refine sk 18 65 HD ?_;refine sk 19 66 HD ?_;refine sk 20 67 HD ?_;refine sk 21 68 HD ?_;refine sk 22 69 HD ?_;refine tk 23 70 HD ?_;refine wpAnyH_done (by kernel_rfl) ?_ _
      have HBe:=hid (HBwV.out _ HD.1);clear HD hS0;go_wp2;go_ret;exact⟨by rw [HR'.out];rfl,HBe.out⟩
     cases c2
     ·have HR':Hid (res=false):=hid (by rw [HR.out,HX.out,HQ.out];rfl);clear HX HQ HE;refine wp_region_held_drew (S:=fun w'=>Below V.heap.size V w'∧w'.cell? ⟨w.heap.size,0,none⟩=some (.slice A0 r.ZW.length k0)∧w'.cell? ⟨w.heap.size,1,none⟩=some (.slice (some ad) r.Z2.length k1)∧w'.cell? ⟨wr.heap.size,0,none⟩=some (.string (Z9 m.ZT))∧w'.cell? ⟨wr.heap.size,1,none⟩=some (.string (Z9 m.of))) (by kernel_rfl) hS0 (fun HD=> ?_)
      (try simp only [pp]);refine tk 0 47 HD ?_;refine tk 1 48 HD ?_;refine tk 2 49 HD ?_;refine tk 3 50 HD ?_;refine on 4 51 fun K hK=> ?_
      go_simp;go_at_call 30
      refine(HC1.out _ HD.1).mono ?_
      rintro e w5 ⟨rfl,rfl⟩;refine hK.out _ _ HD (fun HD=> ?_);clear hK K;(try simp only [pp])
      refine tk 5 52 HD ?_;refine tk 6 53 HD ?_;refine tk 7 54 HD ?_;refine tk 8 55 HD ?_;refine tk 9 56 HD ?_;refine tk 10 57 HD ?_;refine on 11 58 fun K hK=> ?_
      go_simp;go_at_call 30
      refine(HC2.out _ HD.1).mono ?_
      rintro e w5 ⟨rfl,rfl⟩;refine hK.out _ _ HD (fun HD=> ?_);clear hK K;(try simp only [pp])
      refine tk 12 59 HD ?_;refine tk 13 60 HD ?_;refine tk 14 61 HD ?_;refine sk 15 62 HD ?_;refine sk 16 63 HD ?_;refine sk 17 64 HD ?_;refine sk 18 65 HD ?_;refine sk 19 66 HD ?_;refine sk 20 67 HD ?_;refine sk 21 68 HD ?_;refine sk 22 69 HD ?_;refine tk 23 70 HD ?_;refine wpAnyH_done (by kernel_rfl) ?_ _
      have HBe:=hid (HBwV.out _ HD.1);clear HD hS0;go_wp2;go_ret;exact⟨by rw [HR'.out];rfl,HBe.out⟩
     ·rw [Bool.true_and,Bool.true_and] at HQ;refine wp_region_held_drew (S:=fun w'=>Below V.heap.size V w'∧w'.cell? ⟨w.heap.size,0,none⟩=some (.slice A0 r.ZW.length k0)∧w'.cell? ⟨w.heap.size,1,none⟩=some (.slice (some ad) r.Z2.length k1)∧w'.cell? ⟨wr.heap.size,0,none⟩=some (.string (Z9 m.ZT))∧w'.cell? ⟨wr.heap.size,1,none⟩=some (.string (Z9 m.of))) (by kernel_rfl) hS0 (fun HD=> ?_)
      (try simp only [pp]);refine tk 0 47 HD ?_;refine tk 1 48 HD ?_;refine tk 2 49 HD ?_;refine tk 3 50 HD ?_;refine on 4 51 fun K hK=> ?_
      go_simp;go_at_call 30
      refine(HC1.out _ HD.1).mono ?_
      rintro e w5 ⟨rfl,rfl⟩;refine hK.out _ _ HD (fun HD=> ?_);clear hK K;(try simp only [pp])
      refine tk 5 52 HD ?_;refine tk 6 53 HD ?_;refine tk 7 54 HD ?_;refine tk 8 55 HD ?_;refine tk 9 56 HD ?_;refine tk 10 57 HD ?_;refine on 11 58 fun K hK=> ?_
      go_simp;go_at_call 30
      refine(HC2.out _ HD.1).mono ?_
      rintro e w5 ⟨rfl,rfl⟩;refine hK.out _ _ HD (fun HD=> ?_);clear hK K;(try simp only [pp])
      refine tk 12 59 HD ?_;refine tk 13 60 HD ?_;refine tk 14 61 HD ?_;refine tk 15 62 HD ?_;refine tk 16 63 HD ?_;refine tk 17 64 HD ?_;refine tk 19 66 HD ?_;refine tk 20 67 HD ?_;refine on 18 65 fun K hK=> ?_
      go_simp;go_at_call 95
      refine(HSeen.out _ HD.1).mono ?_
      rintro e w5 ⟨fb,N5,f5,rfl,hM5,hf5,hs5,hb5,hfb⟩;have HD':=hkeep.out _ _ HD hb5;have HM5:=hid hM5;have hf6:=hf5 m.ZT;have HS5:=hid (hs5 m.ZT);have HBw5:=hid hb5;have hlook:(Instr.lookup 164 (.map (some fb)) (.string (Z9 m.ZT)) false).run Tryz.prog w5= .ok (.int .i64 (f5 m.ZT)) w5:=hM5.look WN Tryz.underlying164 (by kernel_rfl) (x:=m.ZT) (by unfold maxLen;omega)
      clear hM5 hf5 hs5 hb5;refine hK.out _ _ HD' (fun HD=> ?_);clear hK K;(try simp only [pp])
      refine on 21 68 fun K hK=> ?_
      go_simp;refine hK.out _ _ HD (fun HD=> ?_);clear hK K;(try simp only [pp])
      refine tk 22 69 HD ?_;refine tk 23 70 HD ?_;refine wpAnyH_done (by kernel_rfl) ?_ _
      have HBe:=hid (HBwV.out _ HD.1);have HKe:=hid (HKV.out _ HD.1);clear HD hS0 hlook HM5 HBw5;by_cases h0:f5 m.ZT=0
      ·have h0': ¬ (0:Int)< (f5 m.ZT:Int):=by omega
       have h0'': ¬ (f5 m.ZT:Int) > 0:=by omega
       have hq:VU r m=true:=by
        rw [HQ.out];have: ¬ m.ZT∈Ui r.Z2 m.of:=fun h=>by have:=HS5.out.2 h;omega
        simpa using this
       have HX':=hid (HX.out.trans (by rw [hq,Bool.true_and]));clear hq HX HQ HE HS5;go_wp2;go_roundw
       case rel=>exact⟨j+1,by omega,by go_num,HX',HBe,HKe⟩
       case measure=>simp [intOf];omega
      ·have h0':(0:Int)< (f5 m.ZT:Int):=by omega
       have h0'':(f5 m.ZT:Int) > 0:=by omega
       have hq:VU r m=false:=by
        rw [HQ.out];have:m.ZT∈Ui r.Z2 m.of:=HS5.out.1 (by omega);simpa using this
       have HR':Hid (res=false):=hid (by rw [HR.out,HX.out,hq];rfl);clear hq HX HQ HE HS5;go_wp2;go_ret;exact⟨by rw [HR'.out];rfl,HBe.out⟩
    ·obtain rfl:j=r.Z2.length:=by omega
     rw [List.drop_length] at HE;have HR':Hid (res=true):=hid (by rw [HR.out,HE.out];rfl)
     go_wp2;go_ret;exact⟨by rw [HR'.out];rfl,HBw.out⟩
end Go.Proofs.YtnhmoibjlakhjaaGreat
namespace Go.Proofs.YtnhmoibjlakhjaaGreat
open Lib (hid)
set_option maxRecDepth 100000
set_option maxHeartbeats 16000000
open Go.RowKit
def Jt {α:Type}(base:Nat)(T:TypeId)(k:Nat)(enc:α→List Value)(l:List α)(q:α→Bool)(A:Option Addr)(c:Nat)(w:World)(e:Ending)(w':World):Prop:=
 ∃ m:Nat,e= .returned (.slice A m c)∧m=(l.filter q).length∧w'.ownsRow base T k (.slice A m c) m ((l.filter q).flatMap enc)∧Below base w w'
def Pk {α:Type}(base:Nat)(T:TypeId)(k:Nat)(enc:α→List Value)(l:List α)(q:α→Bool)(A:Option Addr)(c:Nat)(a j:Nat)(w:World):Prop:=
 ∃ l':List α,l'.length=l.length∧w.ownsRow base T k (.slice A l.length c) l.length (l'.flatMap enc)∧l'.take a=(l.take j).filter q∧l'.drop j=l.drop j
theorem QG {α:Type}{l l':List α}{q:α→Bool}{a j:Nat}(hj:j<l.length)(hl:l'.length=l.length)(ha:a≤j)(h1:l'.take a=(l.take j).filter q)(h2:l'.drop j=l.drop j)(hq:q l[j]=true):
  (l'.set a l[j]).take (a+1)=(l.take (j+1)).filter q∧(l'.set a l[j]).drop (j+1)=l.drop (j+1):=by
 constructor
 ·rw [List.take_succ_eq_append_getElem (by rw [List.length_set];omega),List.getElem_set_self,List.take_set_of_le lr,h1,List.take_succ_eq_append_getElem hj,List.filter_append,List.filter_cons_of_pos hq];rfl
 ·rw [List.drop_set_of_lt (by omega),←List.drop_drop,h2,List.drop_drop]
theorem QD {α:Type}{l l':List α}{q:α→Bool}{a j:Nat}(hj:j<l.length)(h1:l'.take a=(l.take j).filter q)(h2:l'.drop j=l.drop j)(hq:q l[j]=false):
  l'.take a=(l.take (j+1)).filter q∧l'.drop (j+1)=l.drop (j+1):=by
 constructor
 ·rw [h1,List.take_succ_eq_append_getElem hj,List.filter_append,List.filter_cons_of_neg (by simpa using hq)];simp
 ·rw [←List.drop_drop,h2,List.drop_drop]
theorem MY {α:Type}{l l':List α}{j:Nat}(hj:j<l.length)(hl:l'.length=l.length)(h2:l'.drop j=l.drop j):l'[j]'(by omega)=l[j]:=by
 have h3:=congrArg (fun z=>z[0]?) h2;simp only [List.getElem?_drop,Nat.add_zero] at h3;rw [List.getElem?_eq_getElem (by omega),List.getElem?_eq_getElem hj] at h3;injection h3
theorem Qv {α:Type}(p:α→Bool)(l:List α)(h:Zi p l 0= -1):l.filter (fun x=> !p x)=l:=by
 rw [VO] at h
 cases hf:l.findIdx? p with
 | none=>
  rw [List.filter_eq_self];intro x hx;rw [List.findIdx?_eq_none_iff.1 hf x hx];rfl
 | some i=>rw [hf] at h;simp [Xe] at h
theorem Qu {α:Type}(p:α→Bool)(l:List α)(h: ¬ Zi p l 0= -1): ∃ i,∃ hi:i<l.length,Zi p l 0=(i:Int)∧l.take i=(l.take (i+1)).filter (fun x=> !p x):=by
 rw [VO] at h ⊢
 cases hf:l.findIdx? p with
 | none=>rw [hf] at h;exact absurd rfl h
 | some i=>
  obtain⟨hi,h1,h2⟩:=List.findIdx?_eq_some_iff_getElem.1 hf
  refine⟨i,hi,rfl,?_⟩
  rw [List.take_succ_eq_append_getElem hi,List.filter_append,List.filter_cons_of_neg (by simp [h1]),List.filter_nil,List.append_nil,List.filter_eq_self.2];intro x hx;obtain⟨j,hj,rfl⟩:=List.getElem_of_mem hx;have:=h2 j (by rw [List.length_take] at hj;omega)
  rw [List.getElem_take];simpa using this
theorem OH (p:(List UInt8)→Bool)(g:Nat)(lb:Array Value)(l:List (List UInt8))(A:Option Addr)(c:Nat)(w:World)(eg: ∀ args w,(callFunc g args).run Tryz.prog w= .ok (.enter g args) w)(hA:Ze w w.heap.size A YS l)(hn:l.length≤1099511627776)
  (hp: ∀ W x,Below w.heap.size w W→x∈l→Calls Tryz.prog g (#[(.string (Z9 x))] ++lb) W fun e w'=>e= .returned (.bool (p x))∧Below W.heap.size W w'):
  Calls Tryz.prog 155 #[.slice A l.length c,.func (.func g) #[] lb] w fun e w'=>e= .returned (.int .i64 (Zi p l 0))∧Below w.heap.size w w':=by
 have HA:=hid hA;have HP:=hid hp;clear hA hp;go_enter Tryz.func155,Tryz.ntmps155
 go_wp2;go_loopw [8] (fun i wr=> ∃ j:Nat,j≤l.length∧i= .int .i64 j∧Hid (Below w.heap.size w wr)∧Hid (Zi p l 0=Zi p (l.drop j) j)) (fun i _=>l.length - (intOf i).toNat)
 case atStart=>exact⟨0,Nat.zero_le _,rfl,hid br,hid (by rw [List.drop_zero])⟩
 case round=>
  obtain⟨j,hj,rfl,HBw,HE⟩:=hrel;by_cases hlt:j<l.length
  ·obtain⟨ad,rfl,hB,hread⟩:=(HA.out.later HBw.out) (by omega);have HX:Hid (Zi p l 0=if p l[j]=true then(j:Int) else Zi p (l.drop (j+1)) (j+1)):=hid (HE.out.trans (Xx hlt));have HC:=hid (HP.out wr l[j] HBw.out (List.getElem_mem hlt));have a0:wr.cell? (ad.add j)=some (.string (Z9 l[j])):=by have:=hread (j*1) _ (by have:=Zj YS.k l j 0 hlt (by omega);rw [Nat.add_zero] at this;rw [this];rfl);rwa [Nat.mul_one] at this
   clear hread hB;generalize l[j]=x at*
   cases hq:p x
   ·rw [hq] at HX HC;have HX':Hid (Zi p l 0=Zi p (l.drop (j+1)) (j+1)):=hid HX.out;clear HX hq;go_wp2_with (first | (go_at_fn g;refine HC.out.mono ?_;rintro e w2 ⟨rfl,hb⟩) | fail);have HB2:=bt HBw hb;go_roundw
    case rel=>exact⟨j+1,by omega,by go_num,HB2,HX'⟩
    case measure=>simp [intOf];omega
   ·rw [hq] at HX HC;have HX':Hid (Zi p l 0=(j:Int)):=hid HX.out;clear HX hq;go_wp2_with (first | (go_at_fn g;refine HC.out.mono ?_;rintro e w2 ⟨rfl,hb⟩) | fail);go_ret;exact⟨by rw [HX'.out];rfl,HBw.out.trans (hb.mono HBw.out.size)⟩
  ·obtain rfl:j=l.length:=by omega
   rw [List.drop_length] at HE;go_wp2;go_ret;exact⟨by rw [HE.out];rfl,HBw.out⟩
theorem LH (p:(List UInt8)→Bool)(g:Nat)(lb:Array Value)(base:Nat)(l:List (List UInt8))(A:Option Addr)(c:Nat)(w:World)(eg: ∀ args w,(callFunc g args).run Tryz.prog w= .ok (.enter g args) w)(h:w.ownsRow base 9 1 (.slice A l.length c) l.length (l.flatMap YS))(hn:l.length≤1099511627776)(hbase:base≤w.heap.size)
  (hp: ∀ W x,Below base w W→x∈l→Calls Tryz.prog g (#[(.string (Z9 x))] ++lb) W fun e w'=>e= .returned (.bool (p x))∧Below W.heap.size W w'):
  Calls Tryz.prog 96 #[.slice A l.length c,.func (.func g) #[] lb] w (Jt base 9 1 YS l (fun x=> !p x) A c w):=by
 have HO:=hid h;have HP:=hid hp;have HI:=hid (OH p g lb l A c w eg (XA h rfl) hn fun W x hW hx=>hp W x (hW.mono hbase) hx);clear h hp;go_enter Tryz.func96,Tryz.ntmps96
 go_wp2_with fail;refine HI.out.mono ?_
 rintro e w1 ⟨rfl,hb1⟩;have HB1:=hid hb1;clear hb1 HI;by_cases hi:Zi p l 0= -1
 ·have HF:=hid (Qv p l hi);have hi':(Zi p l 0 == -1)=true:=by rw [hi];rfl
  go_wp2;go_ret;refine⟨l.length,rfl,by rw [HF.out],?_,HB1.out.mono hbase⟩
  rw [HF.out];exact HO.out.Zw HB1.out
 obtain⟨i0,hi0,hix,hft⟩:=Qu p l hi;have HFt:=hid hft;have hi':((i0:Int) == -1)=false:=by simp <;> omega
 have hi2: ¬ (i0:Int)= -1:=by omega
 have hwi:IntKind.i64.wrap ((i0:Int)+1)=(i0:Int)+1:=by simp [IntKind.wrap,IntKind.bits,IntKind.signed];omega
 rw [hix];clear hi hix hft;obtain⟨gb,rfl⟩: ∃ gb,A=some ⟨gb,0,none⟩:=by
  obtain⟨gb,cap,hv,_,_⟩:=HO.out.form (by omega);exact⟨gb,by injection hv⟩
 obtain⟨hc1,hc2⟩:=YR HO.out;obtain⟨hgb,_,_,_,_⟩:=ZK HO.out;have HJ0:Hid (Pk base 9 1 YS l (fun x=> !p x) (some ⟨gb,0,none⟩) c i0 (i0+1) w1):=hid ⟨l,rfl,HO.out.Zw HB1.out,HFt.out,rfl⟩;have HB0:Hid (Below base w w1):=hid (HB1.out.mono hbase);clear HB1 HFt HO;go_wp2;go_loopw [5,6] (fun aa i wr=> ∃ a j:Nat,a+1≤j∧j≤l.length∧aa= .int .i64 a∧i= .int .i64 j∧Hid (Pk base 9 1 YS l (fun x=> !p x) (some ⟨gb,0,none⟩) c a j wr)∧Hid (Below base w wr)) (fun _ i _=>l.length - (intOf i).toNat)
 case atStart=>exact⟨i0,i0+1,by omega,by omega,rfl,by(try go_num),HJ0,HB0⟩
 case round=>
  clear HJ0 HB0 hi' hi2 hwi;obtain⟨a,j,haj,hj,rfl,rfl,HJ,HB⟩:=hrel;obtain⟨l',hl',ho,ht,hd⟩:=HJ.out;have HOr:=hid ho;have HT:=hid ht;have HD:=hid hd;obtain⟨_,hgl,_,hfz,hcell⟩:=ZK ho;clear ho ht hd;by_cases hlt:j<l.length
  ·have e1:(j:Int)< (l.length:Int):=by omega
   have e2:(a:Int)< (l.length:Int):=by omega
   have hwa:IntKind.i64.wrap ((a:Int)+1)=(a:Int)+1:=by simp [IntKind.wrap,IntKind.bits,IntKind.signed];omega
   have hwj:IntKind.i64.wrap ((j:Int)+1)=(j:Int)+1:=by simp [IntKind.wrap,IntKind.bits,IntKind.signed];omega
   have hjl:j<l'.length:=by omega
   have hal:a<l'.length:=by omega
   have a0:wr.cell? ⟨gb,j,none⟩=some (.string (Z9 l[j])):=by
    have:=hcell (j*1) (.string (Z9 l'[j])) (by have:=Zj YS.k l' j 0 hjl (by omega);rw [Nat.add_zero] at this;rw [this];rfl);rwa [Nat.mul_one,MY hlt hl' HD.out] at this
   have HC:=hid (HP.out wr l[j] HB.out (List.getElem_mem hlt));have HK:=hid (fun hq=>QG (q:=fun x=> !p x) hlt hl' (by omega:a≤j) HT.out HD.out hq);have HS:=hid (fun hq=>QD (q:=fun x=> !p x) hlt HT.out HD.out hq);clear hcell hfz;generalize l[j]=x at*
   cases hq:p x
   ·rw [hq] at HC;obtain⟨ht2,hd2⟩:=HK.out (by simp [hq]);have HT2:=hid ht2;have HD2:=hid hd2;clear hq HS HK HT HD ht2 hd2;go_wp2_with fail;refine HC.out.mono ?_
    rintro e w2 ⟨rfl,hb⟩;have HO2:=hid (HOr.out.Zw hb);have HB2:=hid (HB.out.trans (hb.mono (by omega)));obtain⟨_,hgl2,_,hfz2,hcell2⟩:=ZK HO2.out;have b0:w2.cell? ⟨gb,a,none⟩=some (.string (Z9 l'[a])):=by
     have:=hcell2 (a*1) (.string (Z9 l'[a])) (by have:=Zj YS.k l' a 0 hal (by omega);rw [Nat.add_zero] at this;rw [this];rfl);rwa [Nat.mul_one] at this
    have f0:=hfz2 a;have HO3:Hid ((w2.setCell ⟨gb,a,none⟩ (.string (Z9 x))).ownsRow base 9 1 (.slice (some ⟨gb,0,none⟩) l.length c) l.length ((l'.set a x).flatMap YS)):=hid (by
     have h1:=XU HO2.out (i:=a) (by rw [Zq YS.k];omega) (.string (Z9 x));have h2:=Yf YS.k l' a 0 hal (by omega) (.string (Z9 x)) x rfl;rw [Nat.mul_one,Nat.add_zero] at h2;rw [←h2];exact h1)
    have HJ3:Hid (Pk base 9 1 YS l (fun x=> !p x) (some ⟨gb,0,none⟩) c (a+1) (j+1) (w2.setCell ⟨gb,a,none⟩ (.string (Z9 x)))):=hid ⟨_,by rw [List.length_set];exact hl',HO3.out,HT2.out,HD2.out⟩;have HB3:Hid (Below base w (w2.setCell ⟨gb,a,none⟩ (.string (Z9 x)))):=hid (HB2.out.setCell (by exact hgb) _);clear hb hcell2 hfz2 HO3 HT2 HD2 HO2 HB2 HC HOr HB HJ;go_wp2;go_roundw
    case rel=>exact⟨a+1,j+1,by omega,by omega,by(try go_num),by(try go_num),HJ3,HB3⟩
    case measure=>simp [intOf];omega
   ·rw [hq] at HC;obtain⟨ht2,hd2⟩:=HS.out (by simp [hq]);have HT2:=hid ht2;have HD2:=hid hd2;clear hq HS HK HT HD ht2 hd2;go_wp2_with fail;refine HC.out.mono ?_
    rintro e w2 ⟨rfl,hb⟩;have HJ3:Hid (Pk base 9 1 YS l (fun x=> !p x) (some ⟨gb,0,none⟩) c a (j+1) w2):=hid ⟨l',hl',HOr.out.Zw hb,HT2.out,HD2.out⟩;have HB3:=hid (HB.out.trans (hb.mono (by omega)));clear hb HT2 HD2 HC HOr HB HJ;go_wp2;go_roundw
    case rel=>exact⟨a,j+1,by omega,by omega,rfl,by(try go_num),HJ3,HB3⟩
    case measure=>simp [intOf];omega
  ·obtain rfl:j=l.length:=by omega
   rw [List.take_length] at HT;have hal:a≤l'.length:=by omega
   have hlen:a=(l.filter fun x=> !p x).length:=by rw [←HT.out,List.length_take,Nat.min_eq_left hal]
   have HLn:=hid hlen;clear hlen;have HA1:=hid (WC HOr.out (show a≤l.length by omega));have HFl:Hid ((l'.flatMap YS).take (a*1)=(l.filter fun x=> !p x).flatMap YS):=hid (by rw [←XF YS.k,HT.out]);obtain⟨Z,hZl,hclr⟩:=Zd wr 27 9 0 (.string ⟨#[]⟩) Tryz.underlying27 (fun w=>by kernel_rfl) rfl (by decide) (by simp [Value.cells,Value.oneCell']) (size:=1) gb (a) (l.length - a) (c - a) (by omega) (Zg HOr.out _ _ (by omega));have e1: ¬ (l.length:Int)< (l.length:Int):=by omega
   have f1:(a:Int)≤(l.length:Int):=by omega
   have f2:(a:Int)≤(c:Int):=by omega
   have f3:((l.length:Int) - (a:Int)).toNat=l.length - a:=by omega
   have f4:((c:Int) - (a:Int)).toNat=c - a:=by omega
   go_wp2_with fail;go_ret;refine⟨a,rfl,HLn.out,?_,HB.out.trans (ZJ hgb _ _)⟩
   rw [←HFl.out];exact XY HA1.out Z _ (by omega)
end Go.Proofs.YtnhmoibjlakhjaaGreat
namespace Go.Proofs.YtnhmoibjlakhjaaGreat
open Lib (hid)
set_option maxRecDepth 100000
set_option maxHeartbeats 16000000
open Go.RowKit Go.Maps
def Ro.Zv (M:Nat)(r:Ro):Prop:=r.ZW.length≤M∧r.Z2.length≤M∧(∀ n∈r.ZW,n.length≤M)∧ ∀ m∈r.Z2,m.ZT.length≤M∧m.of.length≤M
def U3 (r:Ro):Int:=if Yu r then 0 else 1
def ST (r:Ro)(ZT:List UInt8):Int:=if Yu r then(if r.ZW.contains ZT then 0 else 71) else 1
def KM (r:Ro)(ZT:List UInt8)(w:World)(e:Ending)(w':World):Prop:=
 ∃ (A:Option Addr) (c:Nat),e= .returned (.tuple #[.slice A (Yw r ZT).length c,.int .i64 (ST r ZT)])∧Ze w' w'.heap.size A YS (Yw r ZT)∧Below w.heap.size w w'
theorem Qj {w:World}{l:List (List UInt8)}{A:Option Addr}{B:Nat}(h:Ze w B A YS l):ZV w (· < B) [.Z9] (YU l) A:=by
 intro h0;have h0':0<l.length:=by simpa [YU] using h0
 obtain⟨ad,rfl,hB,hr⟩:=h h0';refine⟨ad,rfl,hB,fun j d hd=> ?_⟩
 unfold YU at hd;rw [List.getElem?_map] at hd
 cases hj:l[j]? with
 | none=>rw [hj] at hd;simp at hd
 | some a=>
  rw [hj] at hd;simp only [Option.map_some,Option.some.injEq] at hd;subst hd;obtain⟨hj1,rfl⟩:=List.getElem?_eq_some_iff.1 hj
  refine⟨YS l[j],ZH.one (YK.YZ _),fun i u hu=> ?_⟩
  have hi:i<1:=by have:=(List.getElem?_eq_some_iff.1 hu).1;simpa [YS] using this
  exact hr _ u (by rw [show j* [Sh.Z9].length+i=j*1+i from rfl,Zj YS.k l j i hj1 hi];exact hu)
theorem Ry (r:Ro)(A0:Option Addr)(k0:Nat)(A1:Option Addr)(k1:Nat)(w:World)(hN:ZV w (· < w.heap.size) [.Z9] (YU r.ZW) A0)(hM:ZV w (· < w.heap.size) Y5 (r.Z2.map Mb.da) A1)(ht:r.Zv 1099511627776):
  Calls Tryz.prog 145 #[.agg #[.slice A0 r.ZW.length k0,.slice A1 r.Z2.length k1]] w fun e w'=>e= .returned (.int .i64 (U3 r))∧Below w.heap.size w w':=by
 have hc:=Rw r A0 k0 A1 k1 (w.alloc (.cells #[.slice A0 r.ZW.length k0,.slice A1 r.Z2.length k1] 30)) (hN.later (br.alloc lr _)) (hM.later (br.alloc lr _)) ht.1 ht.2.1 ht.2.2.2;have B0:Below w.heap.size w (w.alloc (.cells #[.slice A0 r.ZW.length k0,.slice A1 r.Z2.length k1] 30)):=br.alloc lr _;have HB:=hid B0;have hz:w.heap.size≤(w.alloc (.cells #[.slice A0 r.ZW.length k0,.slice A1 r.Z2.length k1] 30)).heap.size:=B0.size;have HQ:Hid (U3 r=if Yu r then 0 else 1):=hid rfl;clear B0 hN hM;generalize Yu r=p at*;generalize U3 r=q at*;go_enter Tryz.func145,Tryz.ntmps145
 go_wp2_with fail;refine hc.mono ?_
 rintro e w' ⟨rfl,hb⟩;have HB2:=hid (HB.out.trans (hb.mono hz));clear hb hc
 cases p
 ·go_wp2;go_ret;exact⟨by rw [HQ.out];rfl,HB2.out⟩
 ·go_wp2;go_ret;exact⟨by rw [HQ.out];rfl,HB2.out⟩
theorem MC (bx fb N:Nat)(f:List UInt8→Nat)(name:List UInt8)(w:World)(hB:ZP w bx 164 [.map (some fb)])(hM:Y7 Tryz.prog 9 Vy w (.int .i64 0) fb N (Tf f))(hf:f name≤1099511627776)(hn:name.length≤1099511627776):
  Calls Tryz.prog 97 #[.string (Z9 name),.pointer (some ⟨bx,0,none⟩)] w fun e w'=>e= .returned (.bool (decide (f name=0)))∧Below w.heap.size w w':=by
 have b0:=hB.cell 0;have b0':w.cell? ⟨bx,0,none⟩=some (.map (some fb)):=b0;have hlook:(Instr.lookup 164 (.map (some fb)) (.string (Z9 name)) false).run Tryz.prog w= .ok (.int .i64 (f name)) w:=hM.look WN Tryz.underlying164 (by kernel_rfl) (x:=name) (by unfold maxLen;omega)
 clear hB hM b0;go_enter Tryz.func97,Tryz.ntmps97
 go_wp2;go_ret;refine⟨?_,Below.refl _ _⟩
 first
  | rfl
  |(by_cases h:f name=0
    ·have h':((f name:Int) == 0)=true:=by simp;omega
     simp [h]
    ·have h':((f name:Int) == 0)=false:=by simp;omega
     simp [h])
theorem TS (r:Ro)(A0:Option Addr)(k0:Nat)(A1:Option Addr)(k1:Nat)(ZT:List UInt8)(w:World)(hN:ZV w (· < w.heap.size) [.Z9] (YU r.ZW) A0)(hM:ZV w (· < w.heap.size) Y5 (r.Z2.map Mb.da) A1)(ht:r.Zv 1099511627776):
  Calls Tryz.prog 43 #[.agg #[.slice A0 r.ZW.length k0,.slice A1 r.Z2.length k1],.string (Z9 ZT)] w (KM r ZT w):=by
 have HN:=hid hN;have HM:=hid hM;have HT:=hid ht;have hnl:=ht.1;have HP:Hid (Yw r ZT=if Yu r && r.ZW.contains ZT then r.ZW.filter fun n=>(Ui r.Z2 ZT).contains n else []):=hid rfl;have HE:Hid (ST r ZT=if Yu r then(if r.ZW.contains ZT then 0 else 71) else 1):=hid rfl;have HR256:Hid (Yu r=true→r.Z2.length≤65536):=hid fun h=>by
  simp only [Yu,Bool.and_eq_true,decide_eq_true_eq] at h;omega
 have HRl:Hid (r.ZW.contains ZT=true→ZT.length≤1099511627776):=hid fun h=>ht.2.2.1 ZT (by simpa using h)
 clear hN hM ht;go_enter Tryz.func43,Tryz.ntmps43
 go_wp2_with fail;refine Zm _ fun W1 hW=> ?_
 have HB1:=bP hW;have P1:=nC hW;clear hW;refine(Rw r A0 k0 A1 k1 W1 (HN.out.later HB1.out) (HM.out.later HB1.out) hnl HT.out.2.1 HT.out.2.2.2).mono ?_
 rintro e W2 ⟨rfl,hb⟩;have HB2:=bt HB1 hb;have P2:=bl P1 hb;clear hb HB1 P1;generalize hp1:Yu r=p1 at*
 cases p1
 ·have HRes:Hid (KM r ZT w (.returned (.tuple #[.slice none 0 0,.int .i64 1])) W2):=hid ⟨none,0,by rw [show Yw r ZT= [] from by rw [HP.out];rfl,show ST r ZT=1 from HE.out];rfl,by rw [show Yw r ZT= [] from by rw [HP.out];rfl];exact fun h=>absurd h (by simp),HB2.out⟩;clear hp1;go_wp2;go_ret2;exact HRes.out
 have q0:=ce P2 0;have hm256:=HR256.out rfl;clear hp1;go_wp2_with fail;refine(Zn r.ZW A0 k0 ZT W2 (HN.out.later HB2.out) hnl).mono ?_
 rintro e w3 ⟨rfl,rfl⟩;generalize hp2:r.ZW.contains ZT=p2 at*
 cases p2
 ·have HRes:Hid (KM r ZT w (.returned (.tuple #[.slice none 0 0,.int .i64 71])) w3):=hid ⟨none,0,by rw [show Yw r ZT= [] from by rw [HP.out];rfl,show ST r ZT=71 from HE.out];rfl,by rw [show Yw r ZT= [] from by rw [HP.out];rfl];exact fun h=>absurd h (by simp),HB2.out⟩;clear hp2;go_wp2;go_ret2;exact HRes.out
 have hrl:=HRl.out rfl;have q1:=ce P2 1;clear hp2;go_wp2_with fail;refine(Rq r.Z2 A0 r.ZW.length k0 A1 k1 ZT w3 (Mb.Yj (HM.out.later HB2.out)) hm256 HT.out.2.2.2 hrl).mono ?_
 rintro e w5 ⟨fb,N5,f5,rfl,hM5,hf5,hs5,hb5,hfb⟩;have HB5:=bt HB2 hb5;have P5:=bl P2 hb5;have HM5:=hid hM5;have HF5:=hid hf5;have HS5:=hid hs5;have k0':(w5.alloc (.cells #[.map (some fb)] 164)).cell? ⟨w.heap.size,0,none⟩=some (.slice A0 r.ZW.length k0):=(P5.out.alloc _).cell 0;clear hM5 hf5 hs5 hb5 HB2 P2 q0 q1;go_wp2_with fail;refine Zm _ fun W6 hW=> ?_
 have HB6:=rL hW (HB5.out.alloc HB5.out.size _);have HM6:Hid (Y7 Tryz.prog 9 Vy W6 (.int .i64 0) fb N5 (Tf f5)):=hid (by rw [hW];exact HM5.out.alloc _);have HX6:=nC hW;clear hW HB5 P5 HM5 k0';refine(XG A0 k0 r.ZW W6 (X9 (HN.out.later HB6.out)) hnl).mono ?_
 rintro e W7 ⟨A',c',rfl,ho7,hb7⟩;have HO7:=hid (show W7.ownsRow W6.heap.size 9 1 (.slice A' r.ZW.length c') r.ZW.length (r.ZW.flatMap YS) from ho7);have HB7:=hid hb7;have hz7:=hb7.size;clear ho7 hb7;go_wp2_with fail;refine(LH (fun n=>decide (f5 n=0)) 97 #[.pointer (some ⟨w5.heap.size,0,none⟩)] W6.heap.size r.ZW A' c' W7 (enters_of Tryz.func97 (by kernel_rfl) rfl) HO7.out hnl hz7 (fun W x hW hx=>MC w5.heap.size fb N5 f5 x W
  (HX6.out.below (HB7.out.trans (hW.mono lr)) HX6.out.lt) (HM6.out.later (HB7.out.trans hW)) (HF5.out x) (HT.out.2.2.1 x hx))).mono ?_
 rintro e W8 ⟨m,rfl,hm,ho8,hb8⟩;have hfl:r.ZW.filter (fun n=> !decide (f5 n=0))=Yw r ZT:=by
  rw [HP.out];simp only [Bool.true_and,Bool.and_true,if_true];apply List.filter_congr
  intro x _;have:=HS5.out x;by_cases h0:f5 x=0
  ·have h1: ¬ x∈Ui r.Z2 ZT:=fun h=>by have:=this.2 h;omega
   simp [h0,h1]
  ·have h1:x∈Ui r.Z2 ZT:=this.1 (by omega);simp [h0,h1]
 rw [hfl] at hm ho8;subst hm;have HRes:Hid (KM r ZT w (.returned (.tuple #[.slice A' (Yw r ZT).length c',.int .i64 0])) W8):=hid ⟨A',c',by rw [show ST r ZT=0 from HE.out],XA ho8 rfl,HB6.out.trans ((HB7.out.trans hb8).mono HB6.out.size)⟩;clear hfl ho8 hb8 HO7 HB7 HM6 HX6;go_wp2;go_ret2;exact HRes.out
theorem Lu (r:Ro)(A0:Option Addr)(k0:Nat)(A1:Option Addr)(k1:Nat)(ZT of:List UInt8)(w:World)(hN:ZV w (· < w.heap.size) [.Z9] (YU r.ZW) A0)(hM:ZV w (· < w.heap.size) Y5 (r.Z2.map Mb.da) A1)(ht:r.Zv 1099511627776):
  Calls Tryz.prog 71 #[.agg #[.slice A0 r.ZW.length k0,.slice A1 r.Z2.length k1],.string (Z9 ZT),.string (Z9 of)] w fun e w'=>e= .returned (.bool (MP r ZT of))∧Below w.heap.size w w':=by
 have hc:=TS r A0 k0 A1 k1 ZT (w.alloc (.cells #[.slice A0 r.ZW.length k0,.slice A1 r.Z2.length k1] 30)) (hN.later (br.alloc lr _)) (hM.later (br.alloc lr _)) ht;have B0:Below w.heap.size w (w.alloc (.cells #[.slice A0 r.ZW.length k0,.slice A1 r.Z2.length k1] 30)):=br.alloc lr _;have HB:=hid B0;have hz:w.heap.size≤(w.alloc (.cells #[.slice A0 r.ZW.length k0,.slice A1 r.Z2.length k1] 30)).heap.size:=B0.size;have HP:Hid (MP r ZT of=(Yw r ZT).contains of):=hid rfl;have HE:Hid (ST r ZT≠0→Yw r ZT= []):=hid fun h=>by
  unfold ST at h;unfold Yw;by_cases h1:Yu r=true
  ·by_cases h2:r.ZW.contains ZT=true
   ·rw [if_pos h1,if_pos h2] at h;exact absurd rfl h
   ·rw [if_neg (by simp only [Bool.and_eq_true];exact fun h=>h2 h.2)]
  ·rw [if_neg (by simp only [Bool.and_eq_true];exact fun h=>h1 h.1)]
 have hlen:(Yw r ZT).length≤1099511627776:=by
  unfold Yw;split
  ·exact Nat.le_trans (List.length_filter_le _ _) ht.1
  ·simp
 clear B0 hN hM ht;generalize MP r ZT of=res at*;go_enter Tryz.func71,Tryz.ntmps71
 go_wp2_with fail;refine hc.mono ?_
 rintro e w' ⟨A,c,rfl,hr,hb⟩;have HB2:=hid (HB.out.trans (hb.mono hz));have HR:=hid hr;clear hb hr hc HB;generalize Yw r ZT=l at*;generalize ST r ZT=er at*;by_cases h0:er=0
 ·have h0':(er == 0)=true:=by rw [h0];rfl
  have HRow:=hid (Qj HR.out);go_wp2_with fail;refine(Zn l A c of w' HRow.out hlen).mono ?_
  rintro e w3 ⟨rfl,rfl⟩;generalize l.contains of=b at*;go_wp2;go_ret;exact⟨by rw [HP.out];rfl,HB2.out⟩
 ·have h0':(er == 0)=false:=by simpa using h0
  have HX:=hid (HE.out h0);go_wp2;go_ret;exact⟨by rw [HP.out,HX.out];rfl,HB2.out⟩
end Go.Proofs.YtnhmoibjlakhjaaGreat
namespace Go.Proofs.YtnhmoibjlakhjaaGreat
open Lib (hid)
set_option maxRecDepth 100000
set_option maxHeartbeats 16000000
open Go.RowKit
structure WV where
 a0:Option Addr
 k0:Nat
 a1:Option Addr
 k1:Nat
 a2:Option Addr
 k2:Nat
 a3:Option Addr
 k3:Nat
 a4:Option Addr
 k4:Nat
def Ca.cs (c:Ca)(A:WV):List Value:= [.int .i64 c.ZO,.int .i64 c.ZU,.slice A.a0 c.ob.Z4.length A.k0,.slice A.a1 c.ob.Z7.length A.k1,.slice A.a2 c.ro.ZW.length A.k2,.slice A.a3 c.ro.Z2.length A.k3,.slice A.a4 c.Z3.length A.k4]
structure VJ (w:World) (B:Nat) (c:Ca) (A:WV):Prop where
 sc:ZV w (· < B) Zh (c.ob.Z4.map Sc.da) A.a0
 tb:ZV w (· < B) Zt (c.ob.Z7.map Tb.da) A.a1
 nm:ZV w (· < B) [.Z9] (YU c.ro.ZW) A.a2
 mb:ZV w (· < B) Y5 (c.ro.Z2.map Mb.da) A.a3
 gr:ZV w (· < B) Ys (c.Z3.map Gr.da) A.a4
theorem VJ.later {w w':World}{c:Ca}{A:WV}(h:VJ w w.heap.size c A)(hb:Below w.heap.size w w'):VJ w' w'.heap.size c A:=⟨h.sc.later hb,h.tb.later hb,h.nm.later hb,h.mb.later hb,h.gr.later hb⟩
def Ca.Zv (M:Nat)(c:Ca):Prop:=c.ob.Zv M∧c.ro.Zv M∧c.Z3.length≤M
def JX (c:Ca)(s n:List UInt8)(w:World)(e:Ending)(w':World):Prop:=
 ∃ t X x Y y,e= .returned (.tuple #[.agg (Tb.cs t X x Y y).toArray,.bool (WA c s n).isSome])∧Below w.heap.size w w'∧(∀ t',WA c s n=some t'→t=t')
theorem Nf (t:Tb)(A:Option Addr)(k:Nat)(B:Option Addr)(m:Nat)(s n:List UInt8)(p q:Nat)(w:World)(hp:ZP w p 9 [.string (Z9 s)])(hq:ZP w q 9 [.string (Z9 n)]):
  Calls Tryz.prog 93 #[.agg #[.string (Z9 t.Z8),.string (Z9 t.name),.string (Z9 t.ZL),.slice A t.ZX.length k,.slice B t.ZS.length m],.pointer (some ⟨p,0,none⟩),.pointer (some ⟨q,0,none⟩)] w fun e w'=>e= .returned (.bool (t.Z8 == s && t.name == n))∧Below w.heap.size w w':=by
 have hpl:=hp.lt;have hql:=hq.lt;have a0:w.cell? ⟨p,0,none⟩=some (.string (Z9 s)):=hp.cell 0;have a1:w.cell? ⟨q,0,none⟩=some (.string (Z9 n)):=hq.cell 0;clear hp hq
 cases h:(t.Z8 == s)
 ·go_enter Tryz.func93,Tryz.ntmps93
  go_wp2;go_ret;exact⟨rfl,br.alloc lr _⟩
 ·go_enter Tryz.func93,Tryz.ntmps93
  go_wp2;go_ret;exact⟨rfl,br.alloc lr _⟩
theorem Vv (c:Ca)(A:WV)(s n:List UInt8)(w:World)(hc:VJ w w.heap.size c A)(hn:c.ob.Z7.length≤1099511627776):
  Calls Tryz.prog 42 #[.agg (c.cs A).toArray,.string (Z9 s),.string (Z9 n)] w (JX c s n w):=by
 have HC:=hid hc;have HI:=iN 73 5;have HTP:Hid (WA c s n=c.ob.Z7.find? fun t=>t.Z8 == s && t.name == n):=hid rfl;clear hc;unfold Ca.cs;go_enter Tryz.func42,Tryz.ntmps42
 go_wp2_with fail;refine Zm _ fun W hW=> ?_
 have HB1:Hid (Below w.heap.size w W):=hid (by rw [hW];exact(((br.alloc lr _).alloc (by simp) _).alloc (by simp;omega) _).alloc (by simp;omega) _);have P1:Hid (ZP W w.heap.size 33 [.int .i64 c.ZO,.int .i64 c.ZU,.slice A.a0 c.ob.Z4.length A.k0,.slice A.a1 c.ob.Z7.length A.k1,.slice A.a2 c.ro.ZW.length A.k2,.slice A.a3 c.ro.Z2.length A.k3,.slice A.a4 c.Z3.length A.k4]):=hid (by rw [hW];exact(((ZP.new w _ _).alloc _).alloc _).alloc _);have S1:Hid (ZP W (w.heap.size+1) 9 [.string (Z9 s)]):=hid (by
  rw [hW];have:=((ZP.new (w.alloc (.cells #[.int .i64 c.ZO,.int .i64 c.ZU,.slice A.a0 c.ob.Z4.length A.k0,.slice A.a1 c.ob.Z7.length A.k1,.slice A.a2 c.ro.ZW.length A.k2,.slice A.a3 c.ro.Z2.length A.k3,.slice A.a4 c.Z3.length A.k4] 33)) 9 [.string (Z9 s)]).alloc (.cells #[.string (Z9 n)] 9)).alloc (.cells #[.string ⟨#[]⟩,.string ⟨#[]⟩,.string ⟨#[]⟩,.slice none 0 0,.slice none 0 0] 73);simpa using this)
 have N1:Hid (ZP W (w.heap.size+2) 9 [.string (Z9 n)]):=hid (by
  rw [hW];have:=(ZP.new ((w.alloc (.cells #[.int .i64 c.ZO,.int .i64 c.ZU,.slice A.a0 c.ob.Z4.length A.k0,.slice A.a1 c.ob.Z7.length A.k1,.slice A.a2 c.ro.ZW.length A.k2,.slice A.a3 c.ro.Z2.length A.k3,.slice A.a4 c.Z3.length A.k4] 33)).alloc (.cells #[.string (Z9 s)] 9)) 9 [.string (Z9 n)]).alloc (.cells #[.string ⟨#[]⟩,.string ⟨#[]⟩,.string ⟨#[]⟩,.slice none 0 0,.slice none 0 0] 73);simpa using this)
 have Q1:Hid (ZP W (w.heap.size+3) 73 [.string ⟨#[]⟩,.string ⟨#[]⟩,.string ⟨#[]⟩,.slice none 0 0,.slice none 0 0]):=hid (by
  rw [hW];have:=ZP.new (((w.alloc (.cells #[.int .i64 c.ZO,.int .i64 c.ZU,.slice A.a0 c.ob.Z4.length A.k0,.slice A.a1 c.ob.Z7.length A.k1,.slice A.a2 c.ro.ZW.length A.k2,.slice A.a3 c.ro.Z2.length A.k3,.slice A.a4 c.Z3.length A.k4] 33)).alloc (.cells #[.string (Z9 s)] 9)).alloc (.cells #[.string (Z9 n)] 9)) 73 [.string ⟨#[]⟩,.string ⟨#[]⟩,.string ⟨#[]⟩,.slice none 0 0,.slice none 0 0];simpa using this)
 clear hW;have hN1:w.heap.size+2<W.heap.size:=N1.out.lt;have cW:=S9 (Ul s n) 93 #[.pointer (some ⟨w.heap.size+1,0,none⟩),.pointer (some ⟨w.heap.size+2,0,none⟩)] (c.ob.Z7.map Tb.da) A.a1 A.k1 W (enters_of Tryz.func93 (by kernel_rfl) rfl) (HC.out.later HB1.out).tb (by simpa using hn) (by
  intro W' d vs hb _ hv;obtain⟨t,A',k',B',m',rfl,rfl,_⟩:=Tb.YN hv;exact Nf t A' k' B' m' s n (w.heap.size+1) (w.heap.size+2) W' (S1.out.below hb (by omega)) (N1.out.below hb (by omega)))
 rw [List.length_map,VC,VO] at cW;refine cW.mono ?_
 rintro e W3 ⟨rfl,hb⟩;have HB3:=bt HB1 hb;have P3:=bl P1 hb;have Q3:=bl Q1 hb;clear hb cW HB1 P1 Q1 S1 N1;have ht0:(c.ob.Z7.findIdx? fun x=>Ul s n x.da)=c.ob.Z7.findIdx? fun t=>t.Z8 == s && t.name == n:=rfl
 cases ht:c.ob.Z7.findIdx? (fun t=>t.Z8 == s && t.name == n) with
 | none=>
  have HRes:Hid (WA c s n=none):=hid (by rw [HTP.out];exact PB ht);rw [show Xe (c.ob.Z7.findIdx? fun x=>Ul s n x.da)= -1 from by rw [ht0,ht];rfl]
  clear ht ht0;go_wp2_with (first | ((refine sO Q3 HI ?_);intro wS HS) | fail);refine bodyPost_ret (rt (hid HS.out.X8) Tryz.underlying73 HI) rfl ?_
  exact⟨⟨[],[],[],[],[]⟩,none,0,none,0,by rw [HRes.out];rfl,HS.out.below HB3.out (by omega),fun t h=>by rw [HRes.out] at h;cases h⟩
 | some i=>
  obtain⟨hi,hf⟩:=Xa ht;have HRes:Hid (WA c s n=some c.ob.Z7[i]):=hid (by rw [HTP.out];exact hf);rw [show Xe (c.ob.Z7.findIdx? fun x=>Ul s n x.da)=(i:Int) from by rw [ht0,ht];rfl]
  clear ht ht0 hf;obtain⟨ad,vs,hA1,hv,hr⟩:=((HC.out.later HB3.out).tb).at_ (j:=i) (by simpa using hi);rw [List.getElem_map] at hv;generalize c.ob.Z7[i]=t at*;obtain⟨X,x,Y,y,rfl,_,_⟩:=Tb.YO hv;have HG:Hid (∀ i' u,(t.cs X x Y y)[i']?=some u→W3.cell? ((ad.add (i*5)).add i')=some u):=hid fun i' u hu=>by rw [ZG];exact hr i' u hu
  clear hv hr;unfold Tb.cs at HG;have HL:Hid ((Tryz.prog.info? 73).map (·.size)=some ([.string (Z9 t.Z8),.string (Z9 t.name),.string (Z9 t.ZL),.slice X t.ZX.length x,.slice Y t.ZS.length y]:List Value).length):=HI;have p1:W3.cell? ⟨w.heap.size,3,none⟩=some (.slice (some ad) c.ob.Z7.length A.k1):=by rw [←hA1];exact P3.out.cell 3
  have hi1:(0:Int)≤(i:Int):=by omega
  have hi2:(i:Int)< (c.ob.Z7.length:Int):=by omega
  go_wp2_with (first | (with_reducible refine ZI rfl 73 _ rfl (ad.add (i*5)) rfl [.string (Z9 t.Z8),.string (Z9 t.name),.string (Z9 t.ZL),.slice X t.ZX.length x,.slice Y t.ZS.length y] _ HG.out Tryz.underlying73 rfl HL.out ?_) | ((refine sO Q3 HI ?_);intro wS HS) | fail);refine bodyPost_ret (rt (hid HS.out.X8) Tryz.underlying73 HI) rfl ?_
  exact⟨t,X,x,Y,y,by rw [HRes.out];rfl,HS.out.below HB3.out (by omega),fun t' h=>by rw [HRes.out] at h;injection h⟩
theorem Ta (r:Int)(w:World):Calls Tryz.prog 46 #[.int .i64 r] w fun e w'=>e= .returned (.bool (Vc r))∧w'=w:=by
 have HK:Hid (Vc r=(r == 1 || r == 2)):=hid rfl;generalize Vc r=q at*
 cases h2:(r == 1) <;> cases h3:(r == 2)
 all_goals
  rw [h2,h3] at HK;go_enter Tryz.func46,Tryz.ntmps46
  go_wp2;go_ret;exact⟨by rw [HK.out];rfl,rfl⟩
theorem Ox (c:Ca)(A:WV)(t:Tb)(X:Option Addr)(x:Nat)(Y:Option Addr)(y b:Nat)(w:World)(hB:ZP w b 33 [.int .i64 c.ZO,.int .i64 c.ZU,.slice A.a0 c.ob.Z4.length A.k0,.slice A.a1 c.ob.Z7.length A.k1,.slice A.a2 c.ro.ZW.length A.k2,.slice A.a3 c.ro.Z2.length A.k3,.slice A.a4 c.Z3.length A.k4])(hN:ZV w (· < w.heap.size) [.Z9] (YU c.ro.ZW) A.a2)(hn:c.ro.ZW.length≤1099511627776):
  Calls Tryz.prog 216 #[.agg (t.cs X x Y y).toArray,.pointer (some ⟨b,0,none⟩)] w fun e w'=>e= .returned (.bool (!c.ro.ZW.contains t.ZL))∧Below w.heap.size w w':=by
 have b4:w.cell? ⟨b,4,none⟩=some (.slice A.a2 c.ro.ZW.length A.k2):=hB.cell 4;have hbl:=hB.lt;have HN:=hid hN;clear hB hN;have HCon:=hid (fun W (h:Below w.heap.size w W)=>Zn c.ro.ZW A.a2 A.k2 t.ZL W (HN.out.later h) hn);generalize c.ro.ZW.contains t.ZL=r at*;unfold Tb.cs;go_enter Tryz.func216,Tryz.ntmps216
 go_wp2_with fail;refine Zm _ fun W hW=> ?_
 have HB:=bP hW;clear hW;refine(HCon.out W HB.out).mono ?_
 rintro e w' ⟨rfl,rfl⟩;go_wp2;go_ret;exact⟨rfl,HB.out⟩
theorem NC (c:Ca)(A:WV)(w:World)(hc:VJ w w.heap.size c A)(ht:c.Zv 1099511627776):
  Calls Tryz.prog 146 #[.agg (c.cs A).toArray] w fun e w'=>e= .returned (.bool (VM c))∧Below w.heap.size w w':=by
 have HC:=hid hc;have hnl:=ht.2.1.1;have htl:=ht.1.2.1;have hsl:=ht.1.1;have HR:Hid (VM c=((c.ob.Z4.all fun s=>c.ro.ZW.contains s.ZL) && c.ob.Z7.all fun t=>c.ro.ZW.contains t.ZL)):=hid rfl;clear hc ht;generalize VM c=res at*;unfold Ca.cs;go_enter Tryz.func146,Tryz.ntmps146
 have hB0:Below w.heap.size w (w.alloc (.cells #[.int .i64 c.ZO,.int .i64 c.ZU,.slice A.a0 c.ob.Z4.length A.k0,.slice A.a1 c.ob.Z7.length A.k1,.slice A.a2 c.ro.ZW.length A.k2,.slice A.a3 c.ro.Z2.length A.k3,.slice A.a4 c.Z3.length A.k4] 33)):=br.alloc lr _;have hP0:ZP (w.alloc (.cells #[.int .i64 c.ZO,.int .i64 c.ZU,.slice A.a0 c.ob.Z4.length A.k0,.slice A.a1 c.ob.Z7.length A.k1,.slice A.a2 c.ro.ZW.length A.k2,.slice A.a3 c.ro.Z2.length A.k3,.slice A.a4 c.Z3.length A.k4] 33)) w.heap.size 33 [.int .i64 c.ZO,.int .i64 c.ZU,.slice A.a0 c.ob.Z4.length A.k0,.slice A.a1 c.ob.Z7.length A.k1,.slice A.a2 c.ro.ZW.length A.k2,.slice A.a3 c.ro.Z2.length A.k3,.slice A.a4 c.Z3.length A.k4]:=ZP.new w _ _;have HB0:=hid hB0;have HP0:=hid hP0;clear hB0 hP0;go_wp2;go_loopw [9] (fun i wr=> ∃ j:Nat,j≤c.ob.Z4.length∧i= .int .i64 j∧Hid ((c.ob.Z4.all fun s=>c.ro.ZW.contains s.ZL)=(c.ob.Z4.drop j).all fun s=>c.ro.ZW.contains s.ZL)∧Hid (Below w.heap.size w wr)∧Hid (ZP wr w.heap.size 33 [.int .i64 c.ZO,.int .i64 c.ZU,.slice A.a0 c.ob.Z4.length A.k0,.slice A.a1 c.ob.Z7.length A.k1,.slice A.a2 c.ro.ZW.length A.k2,.slice A.a3 c.ro.Z2.length A.k3,.slice A.a4 c.Z3.length A.k4])) (fun i _=>c.ob.Z4.length - (intOf i).toNat)
 case atStart=>exact⟨0,Nat.zero_le _,rfl,hid (by rw [List.drop_zero]),HB0,HP0⟩
 case round=>
  clear HB0 HP0;obtain⟨j,hj,rfl,HE,HBw,K0⟩:=hrel;by_cases hlt:j<c.ob.Z4.length
  ·have HX:=hid (HE.out.trans (Wb (fun s:Sc=>c.ro.ZW.contains s.ZL) c.ob.Z4 j hlt));obtain⟨ad,vs,hA0,hv,hr⟩:=((HC.out.later HBw.out).sc).at_ (j:=j) (by simpa using hlt);rw [List.getElem_map] at hv;generalize c.ob.Z4[j]=q at*;obtain rfl:=Sc.YO hv;have a0:=e0 (m:=j*2) hr;have a1:=ef (m:=j*2) hr 1;have k4:(wr.alloc (.cells #[.string (Z9 q.name),.string (Z9 q.ZL)] 89)).cell? ⟨w.heap.size,4,none⟩=some (.slice A.a2 c.ro.ZW.length A.k2):=(K0.out.alloc _).cell 4;clear hv hr;rw [hA0];go_wp2_with fail;refine Zm _ fun Wl hW=> ?_
   have HB6:=rL hW (HBw.out.alloc HBw.out.size _);have K6:=rB hW (K0.out.alloc _);clear hW k4 HBw K0 a0 a1;rw [hA0] at K6;refine(Zn c.ro.ZW A.a2 A.k2 q.ZL Wl (HC.out.later HB6.out).nm hnl).mono ?_
   rintro e w' ⟨rfl,rfl⟩;generalize c.ro.ZW.contains q.ZL=r at*
   cases r
   ·have HR':Hid (res=false):=hid (by rw [HR.out,HX.out];rfl);clear HX HE HR;go_wp2;go_ret;exact⟨by rw [HR'.out];rfl,HB6.out⟩
   ·rw [Bool.true_and] at HX;go_wp2;go_roundw
    case rel=>exact⟨j+1,by omega,by go_num,HX,HB6,K6⟩
    case measure=>simp [intOf];omega
  ·obtain rfl:j=c.ob.Z4.length:=by omega
   rw [List.drop_length] at HE;have k3:=ce K0 3;have HR2:Hid (res=c.ob.Z7.all fun t=>c.ro.ZW.contains t.ZL):=hid (by rw [HR.out,HE.out];rfl)
   have hlo:=K0.out.lt;clear HE HR;go_wp2_with fail;have cW:=Qz (fun d=> !c.ro.ZW.contains (tx d 2)) 216 #[.pointer (some ⟨w.heap.size,0,none⟩)] (c.ob.Z7.map Tb.da) A.a1 A.k1 wr (enters_of Tryz.func216 (by kernel_rfl) rfl) (HC.out.later HBw.out).tb (by simpa using htl) (by
    intro W' d vs hb _ hv;obtain⟨t,A',k',B',m',rfl,rfl,_⟩:=Tb.YN hv;exact Ox c A t A' k' B' m' w.heap.size W' (K0.out.below hb hlo) (HC.out.later (HBw.out.trans (hb.mono HBw.out.size))).nm hnl)
   rw [List.length_map,List.any_map] at cW;refine cW.mono ?_
   rintro e w' ⟨rfl,hb⟩;have HR3:Hid (res= !(c.ob.Z7.any ((fun d=> !c.ro.ZW.contains (tx d 2))∘Tb.da))):=hid (by
    rw [HR2.out,List.all_eq_not_any_not];rfl)
   have HB7:=bt HBw hb;clear hb cW HR2;generalize c.ob.Z7.any ((fun d=> !c.ro.ZW.contains (tx d 2))∘Tb.da)=r at*;go_wp2;go_ret;exact⟨by rw [HR3.out];rfl,HB7.out⟩
def XI (g:Gr):List Value:= [.string (Z9 g.Z8),.string (Z9 g.ZY),.int .i64 g.right,.string (Z9 g.ZN),.string (Z9 g.to)]
theorem KD (a b:Gr)(w:World):(binOp .eql 156 (.agg (XI a).toArray) (.agg (XI b).toArray)).run Tryz.prog w= .ok (.bool (YG a == YG b)) w:=by
 unfold XI;have hu:=Tryz.underlying156;have hs:=Tryz.underlying9;have hr:=Tryz.underlying41;have hp:Tryz.prog.stoodInHeld 156=false:=by kernel_rfl
 rw [run_eql_struct];go_simp;have hf:(YG a == YG b)=decide (a.Z8=b.Z8∧a.ZY=b.ZY∧a.right=b.right∧a.ZN=b.ZN∧a.to=b.to):=by
  rw [Bool.eq_iff_iff];simp [YG]
 rw [hf];repeat' split
 all_goals simp_all
theorem S8 (g:Gr)(w:World):Calls Tryz.prog 88 #[.agg (g.cs).toArray] w fun e w'=>e= .returned (.agg (XI g).toArray)∧Below w.heap.size w w':=by
 have HI:=iN 156 5;unfold Gr.cs XI;go_enter Tryz.func88,Tryz.ntmps88
 go_wp2;have HB:=hid (ZP.new (w.alloc (.cells #[.string (Z9 g.Z8),.string (Z9 g.ZY),.int .i64 g.right,.string (Z9 g.ZN),.string (Z9 g.to),.bool g.Zz] 53)) 156 [.string (Z9 g.Z8),.string (Z9 g.ZY),.int .i64 g.right,.string (Z9 g.ZN),.string (Z9 g.to)]);refine bodyPost_ret (UQ rfl _ _ (w.alloc (.cells #[.string (Z9 g.Z8),.string (Z9 g.ZY),.int .i64 g.right,.string (Z9 g.ZN),.string (Z9 g.to),.bool g.Zz] 53)).heap.size (by simp) HB (n:=5) rfl Tryz.underlying156 rfl HI) rfl ?_
 exact⟨rfl,(br.alloc lr _).alloc (by simp) _⟩
theorem Gr.YO {w:World}{S:Nat→Prop}{c:Gr}{vs:List Value}(h:ZH w S Ys c.da vs):vs=c.cs:=by
 obtain⟨s,h1,rfl⟩:=Gr.YN h
 cases c
 cases s
 simp [Gr.da] at h1;obtain⟨rfl,rfl,rfl,rfl,rfl,rfl⟩:=h1;rfl
def WB (l:List Gr)(j:Nat):Option Gr:=if j=0 then none else l[j - 1]?
theorem SA (c:Ca)(l:List Gr)(j:Nat)(h:j<l.length):YP c (WB l j) (l.drop j)=(Vl c l[j] && (match WB l j with | some q=> !(YG l[j] == YG q) && !decide (0<TD q l[j]) | none=>true) && YP c (WB l (j+1)) (l.drop (j+1))):=by
 rw [List.drop_eq_getElem_cons h];have:WB l (j+1)=some l[j]:=by simp [WB,h]
 rw [this];rfl
def I6 (c:Ca):Bool:=decide (c.Z3.length≤64) && (YT c.ob && (Yu c.ro && (c.ro.ZW.contains Yd && VM c)))
theorem Rl (c:Ca)(A:WV)(w:World)(hc:VJ w w.heap.size c A)(ht:c.Zv 1099511627776):
  Calls Tryz.prog 87 #[.agg (c.cs A).toArray] w fun e w'=>e= .returned (.bool (XT c))∧Below w.heap.size w w':=by
 have HC:=hid hc;have HT:=hid ht;have hnl:=ht.2.1.1;have htl:=ht.1.2.1;have HR:Hid (XT c=(decide (c.Z3.length≤64) && (YT c.ob && (Yu c.ro && (c.ro.ZW.contains Yd && (VM c && YP c none c.Z3)))))):=hid (by simp only [XT,Bool.and_assoc]);have HE0:Hid (RV c.ob=if YT c.ob=true then 0 else 63):=hid rfl;have HE1:Hid (U3 c.ro=if Yu c.ro then 0 else 1):=hid rfl;have HI6:=iN 53 6;have HI5:=iN 156 5;clear hc ht;generalize XT c=res at*;unfold Ca.cs;have hB0:Below w.heap.size w (w.alloc (.cells #[.int .i64 c.ZO,.int .i64 c.ZU,.slice A.a0 c.ob.Z4.length A.k0,.slice A.a1 c.ob.Z7.length A.k1,.slice A.a2 c.ro.ZW.length A.k2,.slice A.a3 c.ro.Z2.length A.k3,.slice A.a4 c.Z3.length A.k4] 33)):=br.alloc lr _;have hP0:ZP (w.alloc (.cells #[.int .i64 c.ZO,.int .i64 c.ZU,.slice A.a0 c.ob.Z4.length A.k0,.slice A.a1 c.ob.Z7.length A.k1,.slice A.a2 c.ro.ZW.length A.k2,.slice A.a3 c.ro.Z2.length A.k3,.slice A.a4 c.Z3.length A.k4] 33)) w.heap.size 33 [.int .i64 c.ZO,.int .i64 c.ZU,.slice A.a0 c.ob.Z4.length A.k0,.slice A.a1 c.ob.Z7.length A.k1,.slice A.a2 c.ro.ZW.length A.k2,.slice A.a3 c.ro.Z2.length A.k3,.slice A.a4 c.Z3.length A.k4]:=ZP.new w _ _;have HB0:=hid hB0;have HP0:=hid hP0;clear hB0 hP0;go_enter Tryz.func87,Tryz.ntmps87
 by_cases h64:c.Z3.length≤64
 case neg=>
  have HR':Hid (res=false):=hid (by rw [HR.out,decide_eq_false h64];rfl);have h64':(c.Z3.length:Int) > 64:=by omega
  have h64'':(64:Int)< (c.Z3.length:Int):=by omega
  go_wp2;go_ret;exact⟨by rw [HR'.out];rfl,HB0.out⟩
 have h64': ¬ (c.Z3.length:Int) > 64:=by omega
 have h64'': ¬ (64:Int)< (c.Z3.length:Int):=by omega
 rw [decide_eq_true h64,Bool.true_and] at HR;go_wp2_with fail;generalize (w.alloc (.cells #[.int .i64 c.ZO,.int .i64 c.ZU,.slice A.a0 c.ob.Z4.length A.k0,.slice A.a1 c.ob.Z7.length A.k1,.slice A.a2 c.ro.ZW.length A.k2,.slice A.a3 c.ro.Z2.length A.k3,.slice A.a4 c.Z3.length A.k4] 33))=W0 at*;refine(UI c.ob A.a0 A.k0 A.a1 A.k1 W0 (HC.out.later HB0.out).sc (HC.out.later HB0.out).tb HT.out.1).mono ?_
 rintro e W1 ⟨rfl,hb⟩;have HB1:=bt HB0 hb;have P1:=bl HP0 hb;clear hb HB0 HP0 W0;generalize RV c.ob=eo at*;generalize YT c.ob=co at*
 cases co
 ·obtain rfl:eo=63:=HE0.out;have HR':Hid (res=false):=hid HR.out;go_wp2;go_ret;exact⟨by rw [HR'.out];rfl,HB1.out⟩
 obtain rfl:eo=0:=HE0.out;rw [Bool.true_and] at HR;have p5:=ce P1 4;have p6:=ce P1 5;go_wp2_with fail;refine(Ry c.ro A.a2 A.k2 A.a3 A.k3 W1 (HC.out.later HB1.out).nm (HC.out.later HB1.out).mb HT.out.2.1).mono ?_
 rintro e W2 ⟨rfl,hb⟩;have HB2:=bt HB1 hb;have P2:=bl P1 hb;clear hb HB1 P1 p5 p6;generalize U3 c.ro=er at*;generalize Yu c.ro=ro at*
 cases ro
 ·obtain rfl:er=1:=HE1.out;have HR':Hid (res=false):=hid HR.out;go_wp2;go_ret;exact⟨by rw [HR'.out];rfl,HB2.out⟩
 obtain rfl:er=0:=HE1.out;rw [Bool.true_and] at HR;have p5:=ce P2 4;go_wp2_with fail;refine(Zn c.ro.ZW A.a2 A.k2 Yd W2 (HC.out.later HB2.out).nm hnl).mono ?_
 rintro e w3 ⟨rfl,rfl⟩;generalize c.ro.ZW.contains Yd=p3 at*
 cases p3
 ·have HR':Hid (res=false):=hid HR.out;go_wp2;go_ret;exact⟨by rw [HR'.out];rfl,HB2.out⟩
 rw [Bool.true_and] at HR;have q0:=ce P2 0;have q1:=ce P2 1;have q2:=ce P2 2;have q3:=ce P2 3;have q5:=ce P2 5;have q6:=ce P2 6;go_wp2_with fail;have cO:=NC c A w3 (HC.out.later HB2.out) HT.out;unfold Ca.cs at cO;refine cO.mono ?_
 rintro e W4 ⟨rfl,hb⟩;have HB4:=bt HB2 hb;have P4:=bl P2 hb;clear hb HB2 P2 p5 q0 q1 q2 q3 q5 q6 cO;generalize VM c=p4 at*
 cases p4
 ·have HR':Hid (res=false):=hid HR.out;go_wp2;go_ret;exact⟨by rw [HR'.out];rfl,HB4.out⟩
 rw [Bool.true_and] at HR;have hlo:=P4.out.lt;have q6:(W4.alloc (.cells #[.string ⟨#[]⟩,.string ⟨#[]⟩,.int .i64 0,.string ⟨#[]⟩,.string ⟨#[]⟩] 156)).cell? ⟨w.heap.size,6,none⟩=some (.slice A.a4 c.Z3.length A.k4):=(P4.out.alloc _).cell 6;go_wp2_with fail;have HB5:Hid (Below w.heap.size w (W4.alloc (.cells #[.string ⟨#[]⟩,.string ⟨#[]⟩,.int .i64 0,.string ⟨#[]⟩,.string ⟨#[]⟩] 156))):=hid (HB4.out.alloc HB4.out.size _);have P5:Hid (ZP (W4.alloc (.cells #[.string ⟨#[]⟩,.string ⟨#[]⟩,.int .i64 0,.string ⟨#[]⟩,.string ⟨#[]⟩] 156)) w.heap.size 33 [.int .i64 c.ZO,.int .i64 c.ZU,.slice A.a0 c.ob.Z4.length A.k0,.slice A.a1 c.ob.Z7.length A.k1,.slice A.a2 c.ro.ZW.length A.k2,.slice A.a3 c.ro.Z2.length A.k3,.slice A.a4 c.Z3.length A.k4]):=hid (P4.out.alloc _);have L5:Hid (ZP (W4.alloc (.cells #[.string ⟨#[]⟩,.string ⟨#[]⟩,.int .i64 0,.string ⟨#[]⟩,.string ⟨#[]⟩] 156)) W4.heap.size 156 (XI ⟨[],[],0,[],[],false⟩)):=hid (ZP.new W4 _ _);have HI7:=iN 33 7;clear q6;go_loopw [39] (fun i wr=> ∃ (j:Nat) (lg:Gr),j≤c.Z3.length∧i= .int .i64 j∧Hid (∀ q,WB c.Z3 j=some q→lg=q)∧Hid (YP c none c.Z3=YP c (WB c.Z3 j) (c.Z3.drop j))∧Hid (Below w.heap.size w wr)∧Hid (ZP wr w.heap.size 33 [.int .i64 c.ZO,.int .i64 c.ZU,.slice A.a0 c.ob.Z4.length A.k0,.slice A.a1 c.ob.Z7.length A.k1,.slice A.a2 c.ro.ZW.length A.k2,.slice A.a3 c.ro.Z2.length A.k3,.slice A.a4 c.Z3.length A.k4])∧Hid (ZP wr W4.heap.size 156 (XI lg))) (fun i _=>c.Z3.length - (intOf i).toNat)
 case atStart=>exact⟨0,⟨[],[],0,[],[],false⟩,Nat.zero_le _,rfl,hid (fun q h=>by simp [WB] at h),hid (by rw [List.drop_zero];rfl),HB5,P5,L5⟩
 case round=>
  clear HB5 P5 L5 HB4 P4;obtain⟨j,lg,hj,rfl,HLg,HE,HBw,K0,L0⟩:=hrel;by_cases hlt:j<c.Z3.length
  ·have HX:=hid (HE.out.trans (SA c c.Z3 j hlt));obtain⟨ad,vs,hA4,hv,hr⟩:=((HC.out.later HBw.out).gr).at_ (j:=j) (by simpa using hlt);rw [List.getElem_map] at hv;have HPr:Hid (∀ i,j=i+1→ ∃ hi:i<c.Z3.length,WB c.Z3 j=some c.Z3[i]):=hid fun i h=>by
    subst h;exact⟨by omega,by simp [WB,show i<c.Z3.length by omega]⟩
   have HNx:Hid (WB c.Z3 (j+1)=some c.Z3[j]):=hid (by simp [WB,hlt]);generalize hgj:c.Z3[j]=g at*;obtain rfl:=Gr.YO hv;have HG:Hid (∀ i' u,(g.cs)[i']?=some u→wr.cell? ((ad.add (j*6)).add i')=some u):=hid fun i' u hu=>by rw [ZG];exact hr i' u hu
   unfold Gr.cs at HG;have HL:Hid ((Tryz.prog.info? 53).map (·.size)=some ([.string (Z9 g.Z8),.string (Z9 g.ZY),.int .i64 g.right,.string (Z9 g.ZN),.string (Z9 g.to),.bool g.Zz]:List Value).length):=HI6;have K1:Hid (ZP (wr.alloc (.cells #[.string (Z9 g.Z8),.string (Z9 g.ZY),.int .i64 g.right,.string (Z9 g.ZN),.string (Z9 g.to),.bool g.Zz] 53)) w.heap.size 33 [.int .i64 c.ZO,.int .i64 c.ZU,.slice A.a0 c.ob.Z4.length A.k0,.slice A.a1 c.ob.Z7.length A.k1,.slice A.a2 c.ro.ZW.length A.k2,.slice A.a3 c.ro.Z2.length A.k3,.slice A.a4 c.Z3.length A.k4]):=hid (K0.out.alloc _);clear hv hr hgj;rw [hA4];rw [hA4] at K1;go_wp2_with (first | (with_reducible refine ZI rfl 53 _ rfl (ad.add (j*6)) rfl [.string (Z9 g.Z8),.string (Z9 g.ZY),.int .i64 g.right,.string (Z9 g.ZN),.string (Z9 g.to),.bool g.Zz] _ HG.out Tryz.underlying53 rfl HL.out ?_) | (refine lO K1 HI7 Tryz.underlying33 ?_) | fail);refine Zm _ fun W5 hW=> ?_
   have HB6:=rL hW (HBw.out.alloc HBw.out.size _);have G6:=nC hW;have K6:=rB hW (K0.out.alloc _);have L6:=rB hW (L0.out.alloc _);clear hW HG HL K1 HBw K0 L0;rw [←hA4];have cT:=Vv c A g.Z8 g.ZY W5 (HC.out.later HB6.out) htl;unfold Ca.cs at cT;refine cT.mono ?_
   rintro e W6 ⟨t,X,x,Y,y,rfl,hb,_⟩;have HB7:=bt HB6 hb;have G7:=bl G6 hb;have K7:=bl K6 hb;have L7:=bl L6 hb;clear hb cT HB6 G6 K6 L6;unfold Tb.cs;have HOk:Hid (Vl c g=((WA c g.Z8 g.ZY).isSome && (Vc g.right && (g.ZN != g.to && (c.ro.ZW.contains g.ZN && c.ro.ZW.contains g.to))))):=hid (by simp only [Vl,Bool.and_assoc]);generalize (WA c g.Z8 g.ZY).isSome=b1 at*
   cases b1
   ·have HR':Hid (res=false):=hid (by rw [HR.out,HX.out,HOk.out];rfl);clear HX HE HOk HR;go_wp2;go_ret;exact⟨by rw [HR'.out];rfl,HB7.out.alloc HB7.out.size _⟩
   rw [Bool.true_and] at HOk;have g2:(W6.alloc (.cells #[.string (Z9 t.Z8),.string (Z9 t.name),.string (Z9 t.ZL),.slice X t.ZX.length x,.slice Y t.ZS.length y] 73)).cell? ⟨wr.heap.size,2,none⟩=some (.int .i64 g.right):=(G7.out.alloc _).cell 2;go_wp2_with fail;refine Zm _ fun V hW=> ?_
   have HB8:=rL hW (HB7.out.alloc HB7.out.size _);have G8:=rB hW (G7.out.alloc _);have K8:=rB hW (K7.out.alloc _);have L8:=rB hW (L7.out.alloc _);clear hW HB7 G7 K7 L7 g2;refine(Ta g.right V).mono ?_
   rintro e w8 ⟨rfl,rfl⟩;generalize Vc g.right=b2 at*
   cases b2
   ·have HR':Hid (res=false):=hid (by rw [HR.out,HX.out,HOk.out];rfl);clear HX HE HOk HR;go_wp2;go_ret;exact⟨by rw [HR'.out];rfl,HB8.out⟩
   rw [Bool.true_and] at HOk;have g3:=ce G8 3;have g4:=ce G8 4;have k4:=ce K8 4;by_cases hgt:g.ZN=g.to
   ·have HR':Hid (res=false):=hid (by rw [HR.out,HX.out,HOk.out,show (g.ZN != g.to)=false from by simp [hgt]];rfl);clear HX HE HOk HR;go_wp2;go_ret;exact⟨by rw [HR'.out];rfl,HB8.out⟩
   rw [show (g.ZN != g.to)=true from by simp [hgt],Bool.true_and] at HOk;have hgb:(g.ZN == g.to)=false:=by simp [hgt]
   go_wp2_with fail;refine(Zn c.ro.ZW A.a2 A.k2 g.ZN w8 (HC.out.later HB8.out).nm hnl).mono ?_
   rintro e w9 ⟨rfl,rfl⟩;generalize c.ro.ZW.contains g.ZN=b4 at*
   cases b4
   ·have HR':Hid (res=false):=hid (by rw [HR.out,HX.out,HOk.out];rfl);clear HX HE HOk HR;go_wp2;go_ret;exact⟨by rw [HR'.out];rfl,HB8.out⟩
   rw [Bool.true_and] at HOk;go_wp2_with fail;refine(Zn c.ro.ZW A.a2 A.k2 g.to w9 (HC.out.later HB8.out).nm hnl).mono ?_
   rintro e V ⟨rfl,rfl⟩;generalize c.ro.ZW.contains g.to=b5 at*
   cases b5
   ·have HR':Hid (res=false):=hid (by rw [HR.out,HX.out,HOk.out];rfl);clear HX HE HOk HR;go_wp2;go_ret;exact⟨by rw [HR'.out];rfl,HB8.out⟩
   have HX2:=hid (HX.out.trans (by rw [HOk.out,Bool.true_and]));clear HX HOk HE;go_wp2_with fail;clear hgt hgb g3 g4 k4;by_cases hj0:j=0
   ·have hj1: ¬ (j:Int) > 0:=by omega
    have hj2: ¬ (0:Int)< (j:Int):=by omega
    have HX3:Hid (YP c none c.Z3=YP c (WB c.Z3 (j+1)) (c.Z3.drop (j+1))):=hid (HX2.out.trans (by rw [show WB c.Z3 j=none from by simp [WB,hj0]];simp));clear hj0 HX2;refine wp_region_held_drew (S:=fun w'=>Below V.heap.size V w') (by kernel_rfl) (br.drew) (fun HD=> ?_)
    (try simp only [pp]);refine tk 0 86 HD ?_;refine tb 1 87 (.bool false) HD ?_;refine tk 2 88 HD ?_;refine sk 3 89 HD ?_;refine sk 4 90 HD ?_;refine sk 5 91 HD ?_;refine sk 6 92 HD ?_;refine sk 7 93 HD ?_;refine sk 8 94 HD ?_;refine sk 9 95 HD ?_;refine sk 10 96 HD ?_;refine sk 11 97 HD ?_;refine sk 12 98 HD ?_;refine sk 13 99 HD ?_;refine sk 14 100 HD ?_;refine sk 15 101 HD ?_;refine sk 16 102 HD ?_;refine sk 17 103 HD ?_;refine tk 18 104 HD ?_;refine wpAnyH_done (by kernel_rfl) ?_ _
    have HBx:=hid (HB8.out.trans (show Below w.heap.size V V.drew from br.drew));have Gx:=hid (G8.out.drew);have Kx:=hid (K8.out.drew);have Lx:=hid (L8.out.drew);generalize V.drew=Vx at*;go_wp2_with (first | (refine lO Gx HI6 Tryz.underlying53 ?_) | fail);have cF:=S8 g Vx;unfold Gr.cs at cF;refine cF.mono ?_
    rintro e Wy ⟨rfl,hb⟩;have HBy:=bt HBx hb;have Ky:=bl Kx hb;have Ly:=bl Lx hb;clear hb cF HBx Gx Kx Lx;unfold XI;go_wp2_with (first | ((refine sO Ly HI5 ?_);intro wS HS) | fail);go_roundw
    case rel=>exact⟨j+1,g,by omega,by go_num,hid (fun q h=>by rw [HNx.out] at h;injection h),HX3,HS.out.below HBy.out (by omega),(by have:=HS.out.other Ky.out (by omega);rw [hA4] at this;exact this),HS.out.X8⟩
    case measure=>simp [intOf];omega
   ·obtain⟨i,rfl⟩: ∃ i,j=i+1:=⟨j - 1,by omega⟩
    obtain⟨hi,hpv⟩:=HPr.out i rfl;have hlg:=HLg.out _ hpv;have HX3:Hid (YP c none c.Z3=((!(YG g == YG c.Z3[i]) && !decide (0<TD c.Z3[i] g)) && YP c (WB c.Z3 (i+1+1)) (c.Z3.drop (i+1+1)))):=hid (HX2.out.trans (by rw [hpv]));obtain⟨ad2,vs2,hA42,hv2,hr2⟩:=((HC.out.later HB8.out).gr).at_ (j:=i) (by simpa using hi);rw [hA4] at hA42;injection hA42 with hA42
    subst hA42;rw [List.getElem_map] at hv2;subst hlg;clear HX2 hpv HLg HPr hj0;generalize c.Z3[i]=q at*;obtain rfl:=Gr.YO hv2;have hq0:=e0 (m:=i*6) hr2;have hq1:=ef (m:=i*6) hr2 1;have hq2:=ef (m:=i*6) hr2 2;have hq3:=ef (m:=i*6) hr2 3;have hq4:=ef (m:=i*6) hr2 4;have hq5:=ef (m:=i*6) hr2 5;have hzq:=World.block_lt_of_cell? V _ hq0;have hzg:=G8.out.lt;have hzl:=L8.out.lt;have hzk:=K8.out.lt;have k6:V.cell? ⟨w.heap.size,6,none⟩=some (.slice (some ad) c.Z3.length A.k4):=by rw [←hA4];exact K8.out.cell 6
    have HF:Hid (∀ W,Below V.heap.size V W→Below V.heap.size V W∧W.cell? ⟨w.heap.size,6,none⟩=some (.slice (some ad) c.Z3.length A.k4)∧W.cell? ⟨wr.heap.size,0,none⟩=some (.string (Z9 g.Z8))∧W.cell? ⟨wr.heap.size,1,none⟩=some (.string (Z9 g.ZY))∧W.cell? ⟨wr.heap.size,2,none⟩=some (.int .i64 g.right)∧W.cell? ⟨wr.heap.size,3,none⟩=some (.string (Z9 g.ZN))∧W.cell? ⟨wr.heap.size,4,none⟩=some (.string (Z9 g.to))∧W.cell? ⟨wr.heap.size,5,none⟩=some (.bool g.Zz)∧W.cell? ⟨W4.heap.size,0,none⟩=some (.string (Z9 q.Z8))∧W.cell? ⟨W4.heap.size,1,none⟩=some (.string (Z9 q.ZY))∧W.cell? ⟨W4.heap.size,2,none⟩=some (.int .i64 q.right)∧W.cell? ⟨W4.heap.size,3,none⟩=some (.string (Z9 q.ZN))∧W.cell? ⟨W4.heap.size,4,none⟩=some (.string (Z9 q.to))∧W.cell? (ad.add (i*6))=some (.string (Z9 q.Z8))∧W.cell? ⟨(ad.add (i*6)).block,(ad.add (i*6)).off+1,none⟩=some (.string (Z9 q.ZY))∧W.cell? ⟨(ad.add (i*6)).block,(ad.add (i*6)).off+2,none⟩=some (.int .i64 q.right)∧W.cell? ⟨(ad.add (i*6)).block,(ad.add (i*6)).off+3,none⟩=some (.string (Z9 q.ZN))∧W.cell? ⟨(ad.add (i*6)).block,(ad.add (i*6)).off+4,none⟩=some (.string (Z9 q.to))∧W.cell? ⟨(ad.add (i*6)).block,(ad.add (i*6)).off+5,none⟩=some (.bool q.Zz)):=hid fun W h=>⟨h,ct k6 h hzk,
     (h.cell (p:=⟨wr.heap.size,0,none⟩) hzg).trans (G8.out.cell 0),(h.cell (p:=⟨wr.heap.size,1,none⟩) hzg).trans (G8.out.cell 1),(h.cell (p:=⟨wr.heap.size,2,none⟩) hzg).trans (G8.out.cell 2),(h.cell (p:=⟨wr.heap.size,3,none⟩) hzg).trans (G8.out.cell 3),(h.cell (p:=⟨wr.heap.size,4,none⟩) hzg).trans (G8.out.cell 4),(h.cell (p:=⟨wr.heap.size,5,none⟩) hzg).trans (G8.out.cell 5),
     (h.cell (p:=⟨W4.heap.size,0,none⟩) hzl).trans (L8.out.cell 0),(h.cell (p:=⟨W4.heap.size,1,none⟩) hzl).trans (L8.out.cell 1),(h.cell (p:=⟨W4.heap.size,2,none⟩) hzl).trans (L8.out.cell 2),(h.cell (p:=⟨W4.heap.size,3,none⟩) hzl).trans (L8.out.cell 3),(h.cell (p:=⟨W4.heap.size,4,none⟩) hzl).trans (L8.out.cell 4),
     ct hq0 h hzq,ct hq1 h hzq,ct hq2 h hzq,ct hq3 h hzq,ct hq4 h hzq,ct hq5 h hzq⟩
    have HB9:Hid (∀ W,Below V.heap.size V W→Below w.heap.size w W∧ZP W wr.heap.size 53 [.string (Z9 g.Z8),.string (Z9 g.ZY),.int .i64 g.right,.string (Z9 g.ZN),.string (Z9 g.to),.bool g.Zz]∧ZP W w.heap.size 33 [.int .i64 c.ZO,.int .i64 c.ZU,.slice A.a0 c.ob.Z4.length A.k0,.slice A.a1 c.ob.Z7.length A.k1,.slice A.a2 c.ro.ZW.length A.k2,.slice A.a3 c.ro.Z2.length A.k3,.slice A.a4 c.Z3.length A.k4]∧ZP W W4.heap.size 156 (XI q)):=hid fun W h=>⟨HB8.out.trans (h.mono (by omega)),G8.out.below h hzg,K8.out.below h hzk,L8.out.below h hzl⟩
    have hj1:((i+1:Nat):Int) > 0:=by omega
    have hj2:(0:Int)< ((i+1:Nat):Int):=by omega
    have hj3:((i+1:Nat):Int) - 1=(i:Int):=by omega
    have hwi:IntKind.i64.wrap (((i+1:Nat):Int) - 1)=(i:Int):=by rw [hj3];simp [IntKind.wrap,IntKind.bits,IntKind.signed];omega
    have hwi2:IntKind.i64.wrap (i:Int)=(i:Int):=by simp [IntKind.wrap,IntKind.bits,IntKind.signed];omega
    have hi1:(i:Int)< (c.Z3.length:Int):=by omega
    have hi0:(0:Int)≤(i:Int):=by omega
    have heq: ∀ W,(binOp .eql 156 (.agg #[.string (Z9 g.Z8),.string (Z9 g.ZY),.int .i64 g.right,.string (Z9 g.ZN),.string (Z9 g.to)]) (.agg #[.string (Z9 q.Z8),.string (Z9 q.ZY),.int .i64 q.right,.string (Z9 q.ZN),.string (Z9 q.to)])).run Tryz.prog W= .ok (.bool (YG g == YG q)) W:=fun W=>KD g q W
    have cOf:=fun W=>S8 g W
    simp only [Gr.cs,XI] at cOf;have cOrd:=fun W=>TC q g W
    simp only [Gr.cs] at cOrd;generalize TD q g=r at*;clear hv2 hr2 hq0 hq1 hq2 hq3 hq4 hq5 k6 HB8 G8 K8 L8;generalize (YG g == YG q)=e1 at*
    cases e1
    ·refine wp_region_held_drew (S:=fun W=>Below V.heap.size V W∧W.cell? ⟨w.heap.size,6,none⟩=some (.slice (some ad) c.Z3.length A.k4)∧W.cell? ⟨wr.heap.size,0,none⟩=some (.string (Z9 g.Z8))∧W.cell? ⟨wr.heap.size,1,none⟩=some (.string (Z9 g.ZY))∧W.cell? ⟨wr.heap.size,2,none⟩=some (.int .i64 g.right)∧W.cell? ⟨wr.heap.size,3,none⟩=some (.string (Z9 g.ZN))∧W.cell? ⟨wr.heap.size,4,none⟩=some (.string (Z9 g.to))∧W.cell? ⟨wr.heap.size,5,none⟩=some (.bool g.Zz)∧W.cell? ⟨W4.heap.size,0,none⟩=some (.string (Z9 q.Z8))∧W.cell? ⟨W4.heap.size,1,none⟩=some (.string (Z9 q.ZY))∧W.cell? ⟨W4.heap.size,2,none⟩=some (.int .i64 q.right)∧W.cell? ⟨W4.heap.size,3,none⟩=some (.string (Z9 q.ZN))∧W.cell? ⟨W4.heap.size,4,none⟩=some (.string (Z9 q.to))∧W.cell? (ad.add (i*6))=some (.string (Z9 q.Z8))∧W.cell? ⟨(ad.add (i*6)).block,(ad.add (i*6)).off+1,none⟩=some (.string (Z9 q.ZY))∧W.cell? ⟨(ad.add (i*6)).block,(ad.add (i*6)).off+2,none⟩=some (.int .i64 q.right)∧W.cell? ⟨(ad.add (i*6)).block,(ad.add (i*6)).off+3,none⟩=some (.string (Z9 q.ZN))∧W.cell? ⟨(ad.add (i*6)).block,(ad.add (i*6)).off+4,none⟩=some (.string (Z9 q.to))∧W.cell? ⟨(ad.add (i*6)).block,(ad.add (i*6)).off+5,none⟩=some (.bool q.Zz)) (by kernel_rfl) (HF.out _ br.drew) (fun HD=> ?_)
     (try simp only [pp]);refine tk 0 86 HD ?_;refine tb 1 87 (.bool true) HD ?_;refine tk 2 88 HD ?_;refine tk 3 89 HD ?_;refine tk 5 91 HD ?_;refine on 4 90 fun K hK=> ?_
     go_simp;go_at_call 88
     refine(cOf _).mono ?_
     rintro e w5 ⟨rfl,hb⟩;have hbv:=HD.1.trans (hb.mono HD.1.size);clear hb;refine hK.out _ _ (HF.out _ hbv) (fun HD=> ?_);clear hbv;clear hK K;(try simp only [pp])
     refine tk 6 92 HD ?_;refine tk 7 93 HD ?_;refine tk 8 94 HD ?_;refine tk 9 95 HD ?_;refine tk 10 96 HD ?_;refine tk 11 97 HD ?_;refine tk 12 98 HD ?_;refine tk 13 99 HD ?_;refine tk 14 100 HD ?_;refine on 15 101 fun K hK=> ?_
     go_simp;go_at_call 90
     refine(cOrd _).mono ?_
     rintro e w6 ⟨rfl,hb⟩;have hbv:=HD.1.trans (hb.below.mono HD.1.size);clear hb;refine hK.out _ _ (HF.out _ hbv) (fun HD=> ?_);clear hbv;clear hK K;(try simp only [pp])
     refine tk 16 102 HD ?_;refine tk 17 103 HD ?_;refine tk 18 104 HD ?_;refine wpAnyH_done (by kernel_rfl) ?_ _
     obtain⟨hbx,gx,kx,lx⟩:=HB9.out _ HD.1;have HBz:=hid hbx;have Gz:=hid gx;have Kz:=hid kx;have Lz:=hid lx;clear hbx gx kx lx HD HF HB9 cOf cOrd heq;by_cases hr0:0<r
     ·have HR':Hid (res=false):=hid (by rw [HR.out,HX3.out,decide_eq_true hr0];rfl);have hr1:r > 0:=hr0;clear HX3 HR;go_wp2;go_ret;exact⟨by rw [HR'.out];rfl,HBz.out⟩
     ·have hr1: ¬ r > 0:=hr0;have HX4:=hid (HX3.out.trans (by rw [decide_eq_false hr0];rfl:_=YP c (WB c.Z3 (i+1+1)) (c.Z3.drop (i+1+1))))
      clear HX3;go_wp2_with (first | (refine lO Gz HI6 Tryz.underlying53 ?_) | fail);have cF:=S8 g w6;unfold Gr.cs at cF;refine cF.mono ?_
      rintro e Wy ⟨rfl,hb⟩;have HBy:=bt HBz hb;have Ky:=bl Kz hb;have Ly:=bl Lz hb;clear hb cF HBz Gz Kz Lz;unfold XI;go_wp2_with (first | ((refine sO Ly HI5 ?_);intro wS HS) | fail);go_roundw
      case rel=>exact⟨i+1+1,g,by omega,by go_num,hid (fun q h=>by rw [HNx.out] at h;injection h),HX4,HS.out.below HBy.out (by omega),(by have:=HS.out.other Ky.out (by omega);rw [hA4] at this;exact this),HS.out.X8⟩
      case measure=>simp [intOf];omega
    ·refine wp_region_held_drew (S:=fun W=>Below V.heap.size V W∧W.cell? ⟨w.heap.size,6,none⟩=some (.slice (some ad) c.Z3.length A.k4)∧W.cell? ⟨wr.heap.size,0,none⟩=some (.string (Z9 g.Z8))∧W.cell? ⟨wr.heap.size,1,none⟩=some (.string (Z9 g.ZY))∧W.cell? ⟨wr.heap.size,2,none⟩=some (.int .i64 g.right)∧W.cell? ⟨wr.heap.size,3,none⟩=some (.string (Z9 g.ZN))∧W.cell? ⟨wr.heap.size,4,none⟩=some (.string (Z9 g.to))∧W.cell? ⟨wr.heap.size,5,none⟩=some (.bool g.Zz)∧W.cell? ⟨W4.heap.size,0,none⟩=some (.string (Z9 q.Z8))∧W.cell? ⟨W4.heap.size,1,none⟩=some (.string (Z9 q.ZY))∧W.cell? ⟨W4.heap.size,2,none⟩=some (.int .i64 q.right)∧W.cell? ⟨W4.heap.size,3,none⟩=some (.string (Z9 q.ZN))∧W.cell? ⟨W4.heap.size,4,none⟩=some (.string (Z9 q.to))∧W.cell? (ad.add (i*6))=some (.string (Z9 q.Z8))∧W.cell? ⟨(ad.add (i*6)).block,(ad.add (i*6)).off+1,none⟩=some (.string (Z9 q.ZY))∧W.cell? ⟨(ad.add (i*6)).block,(ad.add (i*6)).off+2,none⟩=some (.int .i64 q.right)∧W.cell? ⟨(ad.add (i*6)).block,(ad.add (i*6)).off+3,none⟩=some (.string (Z9 q.ZN))∧W.cell? ⟨(ad.add (i*6)).block,(ad.add (i*6)).off+4,none⟩=some (.string (Z9 q.to))∧W.cell? ⟨(ad.add (i*6)).block,(ad.add (i*6)).off+5,none⟩=some (.bool q.Zz)) (by kernel_rfl) (HF.out _ br.drew) (fun HD=> ?_)
     (try simp only [pp]);refine tk 0 86 HD ?_;refine tb 1 87 (.bool true) HD ?_;refine tk 2 88 HD ?_;refine tk 3 89 HD ?_;refine tk 5 91 HD ?_;refine on 4 90 fun K hK=> ?_
     go_simp;go_at_call 88
     refine(cOf _).mono ?_
     rintro e w5 ⟨rfl,hb⟩;have hbv:=HD.1.trans (hb.mono HD.1.size);clear hb;refine hK.out _ _ (HF.out _ hbv) (fun HD=> ?_);clear hbv;clear hK K;(try simp only [pp])
     refine tk 6 92 HD ?_;refine tk 7 93 HD ?_;refine sk 8 94 HD ?_;refine sk 9 95 HD ?_;refine sk 10 96 HD ?_;refine sk 11 97 HD ?_;refine sk 12 98 HD ?_;refine sk 13 99 HD ?_;refine sk 14 100 HD ?_;refine sk 15 101 HD ?_;refine sk 16 102 HD ?_;refine tk 17 103 HD ?_;refine tk 18 104 HD ?_;refine wpAnyH_done (by kernel_rfl) ?_ _
     obtain⟨hbx,_,_,_⟩:=HB9.out _ HD.1;have HBz:=hid hbx;have HR':Hid (res=false):=hid (by rw [HR.out,HX3.out];rfl)
     clear hbx HD HF HB9 cOf cOrd heq HX3 HR;go_wp2;go_ret;exact⟨by rw [HR'.out];rfl,HBz.out⟩
  ·obtain rfl:j=c.Z3.length:=by omega
   rw [List.drop_length] at HE;have HR':Hid (res=true):=hid (by rw [HR.out,HE.out];rfl)
   go_wp2;go_ret;exact⟨by rw [HR'.out];rfl,HBw.out⟩
end Go.Proofs.YtnhmoibjlakhjaaGreat
