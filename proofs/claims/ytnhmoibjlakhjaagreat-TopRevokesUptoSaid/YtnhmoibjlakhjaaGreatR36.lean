/- Lemmas of the proof. No condition but each theorem's own. -/
import Derived.Test.YtnhmoibjlakhjaaGreatR25
import Derived.RangeFuncNested
import Derived.RangeFuncBound
import Derived.RangeFuncCalls
import Derived.RangeFuncLeaves
import Derived.RangeFuncWrites
import Derived.Shelf.Abstract
import Derived.Shelf.RegionOpen
import Derived.WalkKit
import Derived.OwnWalkIn
import Derived.TacticsInMore
import Derived.LoopNIn
import Derived.LoopIn
import Derived.Test.YtnhmoibjlakhjaaGreatR03
import Derived.Test.YtnhmoibjlakhjaaGreatR10
import Derived.Test.YtnhmoibjlakhjaaGreatR18
import Derived.Test.YtnhmoibjlakhjaaGreatR17
import Derived.Test.YtnhmoibjlakhjaaGreatR20
set_option linter.unusedVariables false
set_option linter.unusedSimpArgs false
namespace Go.Proofs.YtnhmoibjlakhjaaGreat
open Lib (hid)
set_option maxRecDepth 100000
set_option maxHeartbeats 16000000
open Go.RowKit
attribute [local go_sem] Oper.semAt_some
def SC (s n:List UInt8)(r:Ru):Bool:=r.ZQ == 4 && r.Z8 == s && r.ZY == n
def Td (s n:List UInt8)(t:Tb):List (Tb×Ru):=(t.ZS.filter (SC s n)).map fun r=>(t,r)
def VY (o:Ob)(s n:List UInt8):List (Tb×Ru):=o.Z7.flatMap (Td s n)
abbrev TR:=Za×Yv
def TR.da (x:TR):Tb×Ru:=(x.1.1,x.2.1)
def TR.enc (x:TR):Array Value:= #[.agg (Za.cs x.1).toArray,.agg (Yv.cs x.2).toArray]
def Pi (n₀:Nat)(W W':World):Prop:=Below n₀ W W'∧W.heap.size≤W'.heap.size∧ ∀ k t cs,ZP W k t cs→ZP W' k t cs
theorem Pi.refl (n₀:Nat)(W:World):Pi n₀ W W:=⟨Below.refl _ _,Nat.le_refl _,fun _ _ _ h=>h⟩
theorem Pi.trans {n₀:Nat}{A B C:World}(h:Pi n₀ A B)(g:Pi n₀ B C):Pi n₀ A C:=⟨h.1.trans g.1,Nat.le_trans h.2.1 g.2.1,fun k t cs x=>g.2.2 k t cs (h.2.2 k t cs x)⟩
theorem Pi.alloc {n₀:Nat}{W:World}(hn:n₀≤W.heap.size)(o:Obj):Pi n₀ W (W.alloc o):=⟨br.alloc hn _,by simp,fun _ _ _ h=>h.alloc _⟩
theorem J1 {n₀ m:Nat}(hn:n₀≤m)(W:World)(l:Nat)(o o':Obj)(hl:m≤l)(ho:W.heap[l]?=some o)(hc:o.isCells=false)(hw:o.isWalk=false):Pi n₀ W (W.putObj l o'):=
 ⟨(Below.refl n₀ W).grown (grownBy_putObj' W l o') (Nat.le_of_lt (Nat.lt_of_le_of_lt (Nat.le_trans hn hl) (Array.getElem?_eq_some_iff.1 ho).1)) (fun k e=>by cases e;exact Nat.le_trans hn hl),by simp [World.putObj],fun k t cs h=>by
  have hk:k≠l:=by
   rintro rfl;have h':W.heap[k]?=some (.cells cs.toArray t):=by simpa [ZP] using h
   rw [ho] at h'
   cases h'
   cases hc
  have:(W.putObj l o').heap[k]?=W.heap[k]?:=World.putObj_heap_other hk;simpa [ZP,this] using h⟩
theorem Mu {o:Ob}{s n:List UInt8}{j:Nat}(hj:j<o.Z7.length):(o.Z7.drop j).flatMap (Td s n)=Td s n o.Z7[j] ++ (o.Z7.drop (j+1)).flatMap (Td s n):=by
 rw [List.drop_eq_getElem_cons hj,List.flatMap_cons]
theorem Mt {t:Tb}{s n:List UInt8}{m:Nat}(hm:m<t.ZS.length):((t.ZS.drop m).filter (SC s n)).map (fun r=>(t,r))=(if SC s n t.ZS[m] then [(t,t.ZS[m])] else []) ++ ((t.ZS.drop (m+1)).filter (SC s n)).map (fun r=>(t,r)):=by
 rw [List.drop_eq_getElem_cons hm,List.filter_cons];split <;> simp
theorem OJ (o:Ob)(s n:List UInt8)(A0:Option Addr)(k0:Nat)(A1:Option Addr)(k1 n₀ l g1 g2 g3 m0:Nat)(J Jx:List TR→World→Prop)(W:World)(hJ:AbidesFrom W.heap.size J)(hn₀:n₀≤W.heap.size)
  (ho:o.Zv 1099511627776) (hT:ZV W (· < n₀) Zt (o.Z7.map Tb.da) A1) (b1:ZP W g1 26 [.slice A0 o.Z4.length k0,.slice A1 o.Z7.length k1]) (b2:ZP W g2 9 [.string (Z9 s)]) (b3:ZP W g3 9 [.string (Z9 n)]) (h1:g1<n₀) (h2:g2<n₀) (h3:g3<n₀)
  (hY: ∀ pre x W1,J pre W1→pre.length< (VY o s n).length→YieldAt Fence.wide m0 Tryz.prog l (TR.enc x) W1 fun e W'=>(e= .returned (.bool true)∧J (pre ++ [x]) W'∧Pi n₀ W1 W')∨(e= .returned (.bool false)∧Jx (pre ++ [x]) W'))
  (h0:J [] W):
  CallsIn Fence.wide (m0+1) Tryz.prog 246 #[.func (.yield l) #[] #[],.pointer (some ⟨g1,0,none⟩),.pointer (some ⟨g2,0,none⟩),.pointer (some ⟨g3,0,none⟩)] W fun e W'=>(∃ v,e= .returned v)∧((∃ xs:List TR,xs.map TR.da=VY o s n∧J xs W')∨(∃ pre:List TR,(∃ rest,pre.map TR.da ++rest=VY o s n)∧Jx pre W')):=by
 refine callsIn_wide.2 ?_
 have htl:=ho.2.1;have HJa:=hid hJ;have HO:=hid ho;have HT:=hid hT;have HB1:=hid b1;have HB2:=hid b2;have HB3:=hid b3;have HY:=hid hY;have H0:=hid h0;have HI5:=iN 73 5;have HI8:=iN 40 8;have c1:W.cell? ⟨g1,1,none⟩=some (.slice A1 o.Z7.length k1):=b1.cell 1;clear hJ ho hT b1 b2 b3 hY h0;go_enter Tryz.func246,Tryz.ntmps246
 go_wp2;go_loopw [12] (fun i wr=> ∃ (j:Nat) (pre:List TR),j≤o.Z7.length∧i= .int .i64 j∧Hid (J pre wr)∧Hid (pre.map TR.da ++ (o.Z7.drop j).flatMap (Td s n)=VY o s n)∧Hid (Below n₀ W wr)) (fun i _=>o.Z7.length - (intOf i).toNat)
 case atStart=>exact⟨0,[],Nat.zero_le _,rfl,H0,hid (by rw [List.drop_zero];rfl),hid br⟩
 case round=>
  clear c1 H0;obtain⟨j,pre,hj,rfl,HJ,HE,HB⟩:=hrel;by_cases hlt:j<o.Z7.length
  ·obtain⟨wo,hwo⟩: ∃ wo,wo=wr:=⟨_,rfl⟩
   subst hwo;have hno:n₀≤wo.heap.size:=Nat.le_trans hn₀ HB.out.size;have htt:=HO.out.2.2 o.Z7[j] (List.getElem_mem hlt);obtain⟨ad,vs,rfl,hv,hr⟩:=(HT.out.below HB.out).at_ (j:=j) (by simpa using hlt);rw [List.getElem_map] at hv;have HE2:=hid (by have h:=HE.out;rw [Mu hlt] at h;exact h);generalize o.Z7[j]=t at*;obtain⟨X,x,Y,y,rfl,hX,hY⟩:=Tb.YO hv;have HYr:=hid hY;have hrl:=htt.2.1;have HG:Hid (∀ i u,(t.cs X x Y y)[i]?=some u→wo.cell? ((ad.add (j*5)).add i)=some u):=hid fun i u hu=>by rw [ZG];exact hr i u hu
   clear hv hr hX hY htt HE;unfold Tb.cs at HG;have HL:Hid ((Tryz.prog.info? 73).map (·.size)=some ([.string (Z9 t.Z8),.string (Z9 t.name),.string (Z9 t.ZL),.slice X t.ZX.length x,.slice Y t.ZS.length y]:List Value).length):=HI5;have HJ1:Hid (J pre (wo.alloc (.cells #[.string (Z9 t.Z8),.string (Z9 t.name),.string (Z9 t.ZL),.slice X t.ZX.length x,.slice Y t.ZS.length y] 73))):=hid (HJa.out pre _ _ none HJ.out (World.grownBy_alloc _ _ none) (fun r e=>by cases e));have HBa:Hid (Below n₀ W (wo.alloc (.cells #[.string (Z9 t.Z8),.string (Z9 t.name),.string (Z9 t.ZL),.slice X t.ZX.length x,.slice Y t.ZS.length y] 73))):=hid (HB.out.alloc hno _);have T1:Hid (ZP (wo.alloc (.cells #[.string (Z9 t.Z8),.string (Z9 t.name),.string (Z9 t.ZL),.slice X t.ZX.length x,.slice Y t.ZS.length y] 73)) wo.heap.size 73 [.string (Z9 t.Z8),.string (Z9 t.name),.string (Z9 t.ZL),.slice X t.ZX.length x,.slice Y t.ZS.length y]):=hid (ZP.new _ _ _);have HE3:Hid (pre.map TR.da ++ (((t.ZS.drop 0).filter (SC s n)).map (fun r=>(t,r)) ++ (o.Z7.drop (j+1)).flatMap (Td s n))=VY o s n):=hid HE2.out;go_wp2_with (first | (with_reducible refine ZI rfl 73 _ rfl (ad.add (j*5)) rfl [.string (Z9 t.Z8),.string (Z9 t.name),.string (Z9 t.ZL),.slice X t.ZX.length x,.slice Y t.ZS.length y] _ HG.out Tryz.underlying73 rfl HL.out ?_) | fail);go_loopw [19] (fun i wr=> ∃ (m:Nat) (pre:List TR),m≤t.ZS.length∧i= .int .i64 m∧Hid (J pre wr)∧Hid (pre.map TR.da ++ (((t.ZS.drop m).filter (SC s n)).map (fun r=>(t,r)) ++ (o.Z7.drop (j+1)).flatMap (Td s n))=VY o s n)∧Hid (Below n₀ W wr)∧Hid (ZP wr wo.heap.size 73 [.string (Z9 t.Z8),.string (Z9 t.name),.string (Z9 t.ZL),.slice X t.ZX.length x,.slice Y t.ZS.length y])) (fun i _=>t.ZS.length - (intOf i).toNat)
   case atStart=>exact⟨0,pre,Nat.zero_le _,rfl,HJ1,HE3,HBa,T1⟩
   case round=>
    clear HJ1 HE3 HBa T1 HE2 HJ HL HG;obtain⟨m,pre,hm,rfl,HJ,HE,HBq,HTq⟩:=hrel;by_cases hlt2:m<t.ZS.length
    ·have hnq:n₀≤wr.heap.size:=Nat.le_trans hn₀ HBq.out.size;obtain⟨ad2,vs,rfl,hv,hr⟩:=(HYr.out.Y6 (w':=wr) (fun _ h=>h) (fun p hp=>by rw [HBq.out.cell hp,HB.out.cell hp])).at_ (j:=m) (by simpa using hlt2);rw [List.getElem_map] at hv;have HE2:=hid (by have h:=HE.out;rw [Mt hlt2] at h;exact h);generalize t.ZS[m]=r at*;obtain⟨V,v,rfl,hV⟩:=Ru.YO hv;have HG:Hid (∀ i u,(r.cs V v)[i]?=some u→wr.cell? ((ad2.add (m*8)).add i)=some u):=hid fun i u hu=>by rw [ZG];exact hr i u hu
     clear hv hr hV HE;unfold Ru.cs at HG;have HL:Hid ((Tryz.prog.info? 40).map (·.size)=some ([.string (Z9 r.name),.int .i64 r.ZQ,.slice V r.ZX.length v,.int .i64 r.low,.int .i64 r.ZF,.string (Z9 r.Z8),.string (Z9 r.ZY),.string (Z9 r.key)]:List Value).length):=HI8;go_upto_region 6 with (first | (with_reducible refine ZI rfl 40 _ rfl (ad2.add (m*8)) rfl [.string (Z9 r.name),.int .i64 r.ZQ,.slice V r.ZX.length v,.int .i64 r.low,.int .i64 r.ZF,.string (Z9 r.Z8),.string (Z9 r.ZY),.string (Z9 r.key)] _ HG.out Tryz.underlying40 rfl HL.out ?_) | fail)
     refine Uv _ fun Wr hW=> ?_
     have HJ1:Hid (J pre Wr):=hid (by rw [hW];exact HJa.out pre _ _ none HJ.out (World.grownBy_alloc _ _ none) (fun r e=>by cases e));have HBa:Hid (Below n₀ W Wr):=hid (by rw [hW];exact HBq.out.alloc hnq _);have T1:=rB hW (HTq.out.alloc _);have R1:=nC hW;clear hW HJ HBq HTq HG HL;have d1:=cd (HB2.out.below HBa.out h2) 0;have d2:=cd (HB3.out.below HBa.out h3) 0;have ta0:=ce T1 0;have ta1:=ce T1 1;have ta2:=ce T1 2;have ta3:=ce T1 3;have ta4:=ce T1 4;have ra0:=ce R1 0;have ra1:=ce R1 1;have ra2:=ce R1 2;have ra3:=ce R1 3;have ra4:=ce R1 4;have ra5:=ce R1 5;have ra6:=ce R1 6;have ra7:=ce R1 7;have HF:Hid (SC s n r=(r.ZQ == 4 && r.Z8 == s && r.ZY == n)):=hid rfl
     cases e1:r.ZQ == 4
     ·rw [e1] at HF;have HEn:Hid (pre.map TR.da ++ (((t.ZS.drop (m+1)).filter (SC s n)).map (fun r=>(t,r)) ++ (o.Z7.drop (j+1)).flatMap (Td s n))=VY o s n):=hid (by have h:=HE2.out;rw [HF.out] at h;exact h);clear HF HE2;go_wp2;go_roundw
      case rel=>exact⟨m+1,pre,by omega,by go_num,HJ1,HEn,HBa,T1⟩
      case measure=>simp [intOf];omega
     rw [e1] at HF
     cases e2:r.Z8 == s
     ·rw [e2] at HF;have HEn:Hid (pre.map TR.da ++ (((t.ZS.drop (m+1)).filter (SC s n)).map (fun r=>(t,r)) ++ (o.Z7.drop (j+1)).flatMap (Td s n))=VY o s n):=hid (by have h:=HE2.out;rw [HF.out] at h;exact h);clear HF HE2;go_wp2;go_roundw
      case rel=>exact⟨m+1,pre,by omega,by go_num,HJ1,HEn,HBa,T1⟩
      case measure=>simp [intOf];omega
     rw [e2] at HF
     cases e3:r.ZY == n
     ·rw [e3] at HF;have HEn:Hid (pre.map TR.da ++ (((t.ZS.drop (m+1)).filter (SC s n)).map (fun r=>(t,r)) ++ (o.Z7.drop (j+1)).flatMap (Td s n))=VY o s n):=hid (by have h:=HE2.out;rw [HF.out] at h;exact h);clear HF HE2;go_wp2;go_roundw
      case rel=>exact⟨m+1,pre,by omega,by go_num,HJ1,HEn,HBa,T1⟩
      case measure=>simp [intOf];omega
     rw [e3] at HF;have HEn:Hid (pre.map TR.da ++ ((t,r) ::(((t.ZS.drop (m+1)).filter (SC s n)).map (fun r=>(t,r)) ++ (o.Z7.drop (j+1)).flatMap (Td s n)))=VY o s n):=hid (by have h:=HE2.out;rw [HF.out] at h;exact h);have hlen:pre.length< (VY o s n).length:=by
      have h:=congrArg List.length HEn.out;simp at h;omega
     clear HF HE2;obtain⟨fn,tmps,assign,body,hy,hR⟩:=HY.out pre (((t,X,x,some ad2,y),(r,V,v)):TR) Wr HJ1.out hlen;have HR:=hid hR;clear hR;dsimp only [TR.enc,Za.cs,Yv.cs,Tb.cs,Ru.cs] at hy;refine wpIn_wide (n:=m0+1) |>.1 ?_
     gi_wp2
     refine HR.out.mono ?_
     rintro e W3 (⟨rfl,hJ3,hk3⟩ | ⟨rfl,hJx3⟩)
     ·have HJ3:=hid hJ3;have HB3':Hid (Below n₀ W W3):=hid (HBa.out.trans hk3.1);have T3:=hid (hk3.2.2 _ _ _ T1.out);have HEm:Hid ((pre ++ [(((t,X,x,some ad2,y),(r,V,v)):TR)]).map TR.da ++ (((t.ZS.drop (m+1)).filter (SC s n)).map (fun r=>(t,r)) ++ (o.Z7.drop (j+1)).flatMap (Td s n))=VY o s n):=hid (by rw [List.map_append,List.append_assoc];exact HEn.out);clear hJ3 hk3 HEn;gi_wp2
      go_wp2;go_roundw
      case rel=>exact⟨m+1,_,by omega,by go_num,HJ3,HEm,HB3',T3⟩
      case measure=>simp [intOf];omega
     ·gi_wp2
      go_wp2;refine bodyPost_ret (results_none rfl _ _ _) rfl ?_
      exact⟨⟨_,rfl⟩,.inr ⟨pre ++ [_],⟨_,by rw [List.map_append,List.append_assoc];exact HEn.out⟩,hJx3⟩⟩
    ·obtain rfl:m=t.ZS.length:=by omega
     have HEo:Hid (pre.map TR.da ++ (o.Z7.drop (j+1)).flatMap (Td s n)=VY o s n):=hid (by have h:=HE.out;rw [List.drop_length] at h;exact h);clear HE;go_wp2;go_roundw
     case rel=>exact⟨j+1,pre,by omega,by go_num,HJ,HEo,HBq⟩
     case measure=>simp [intOf];omega
  ·obtain rfl:j=o.Z7.length:=by omega
   have HEo:Hid (pre.map TR.da=VY o s n):=hid (by have h:=HE.out;rw [List.drop_length] at h;simpa using h);clear HE;go_wp2;go_end0;exact⟨⟨_,rfl⟩,.inl ⟨pre,HEo.out,HJ.out⟩⟩
end Go.Proofs.YtnhmoibjlakhjaaGreat
namespace Go.Proofs.YtnhmoibjlakhjaaGreat
open Lib (hid)
set_option maxRecDepth 100000
set_option maxHeartbeats 16000000
open Go.RowKit
attribute [local go_sem] Oper.semAt_some
theorem SO (o:Ob)(A0:Option Addr)(k0:Nat)(A1:Option Addr)(k1:Nat)(s n:List UInt8)(w:World):
  Calls Tryz.prog 174 #[.agg #[.slice A0 o.Z4.length k0,.slice A1 o.Z7.length k1],.string (Z9 s),.string (Z9 n)] w fun e w'=>e= .returned (.func (.func 246) #[] #[.pointer (some ⟨w.heap.size,0,none⟩),.pointer (some ⟨w.heap.size+1,0,none⟩),.pointer (some ⟨w.heap.size+1+1,0,none⟩)])∧
   ZP w' w.heap.size 26 [.slice A0 o.Z4.length k0,.slice A1 o.Z7.length k1]∧ZP w' (w.heap.size+1) 9 [.string (Z9 s)]∧ZP w' (w.heap.size+1+1) 9 [.string (Z9 n)]∧Below w.heap.size w w'∧w'.heap.size=w.heap.size+3:=by
 have e1:(w.alloc (.cells #[.slice A0 o.Z4.length k0,.slice A1 o.Z7.length k1] 26)).heap.size=w.heap.size+1:=by simp
 have e2:((w.alloc (.cells #[.slice A0 o.Z4.length k0,.slice A1 o.Z7.length k1] 26)).alloc (.cells #[.string (Z9 s)] 9)).heap.size=w.heap.size+1+1:=by simp
 have q0:ZP (((w.alloc (.cells #[.slice A0 o.Z4.length k0,.slice A1 o.Z7.length k1] 26)).alloc (.cells #[.string (Z9 s)] 9)).alloc (.cells #[.string (Z9 n)] 9)) w.heap.size 26 [.slice A0 o.Z4.length k0,.slice A1 o.Z7.length k1]:=((ZP.new w _ _).alloc _).alloc _;have q1:ZP (((w.alloc (.cells #[.slice A0 o.Z4.length k0,.slice A1 o.Z7.length k1] 26)).alloc (.cells #[.string (Z9 s)] 9)).alloc (.cells #[.string (Z9 n)] 9)) (w.heap.size+1) 9 [.string (Z9 s)]:=by
  have h:=(ZP.new (w.alloc (.cells #[.slice A0 o.Z4.length k0,.slice A1 o.Z7.length k1] 26)) 9 [.string (Z9 s)]).alloc (.cells #[.string (Z9 n)] 9);rwa [e1] at h
 have q2:ZP (((w.alloc (.cells #[.slice A0 o.Z4.length k0,.slice A1 o.Z7.length k1] 26)).alloc (.cells #[.string (Z9 s)] 9)).alloc (.cells #[.string (Z9 n)] 9)) (w.heap.size+1+1) 9 [.string (Z9 n)]:=by
  have h:=ZP.new ((w.alloc (.cells #[.slice A0 o.Z4.length k0,.slice A1 o.Z7.length k1] 26)).alloc (.cells #[.string (Z9 s)] 9)) 9 [.string (Z9 n)];rwa [e2] at h
 have hB:Below w.heap.size w (((w.alloc (.cells #[.slice A0 o.Z4.length k0,.slice A1 o.Z7.length k1] 26)).alloc (.cells #[.string (Z9 s)] 9)).alloc (.cells #[.string (Z9 n)] 9)):=((br.alloc lr _).alloc (by simp) _).alloc (by simp;omega) _;have hz:(((w.alloc (.cells #[.slice A0 o.Z4.length k0,.slice A1 o.Z7.length k1] 26)).alloc (.cells #[.string (Z9 s)] 9)).alloc (.cells #[.string (Z9 n)] 9)).heap.size=w.heap.size+3:=by simp
 go_enter Tryz.func174,Tryz.ntmps174
 go_wp2;go_ret;exact⟨rfl,q0,q1,q2,hB,hz⟩
theorem Up (m0:Nat)(o:Ob)(s n:List UInt8)(A0:Option Addr)(k0:Nat)(A1:Option Addr)(k1 n₀ g1 g2 g3:Nat)(w:World)(hn₀:n₀≤w.heap.size)
  (ho:o.Zv 1099511627776) (hT:ZV w (· < n₀) Zt (o.Z7.map Tb.da) A1) (b1:ZP w g1 26 [.slice A0 o.Z4.length k0,.slice A1 o.Z7.length k1]) (b2:ZP w g2 9 [.string (Z9 s)]) (b3:ZP w g3 9 [.string (Z9 n)]) (h1:g1<n₀) (h2:g2<n₀) (h3:g3<n₀):
  SeqStopsK Fence.wide (m0+1) Tryz.prog 246 #[.pointer (some ⟨g1,0,none⟩),.pointer (some ⟨g2,0,none⟩),.pointer (some ⟨g3,0,none⟩)] TR.enc (Pi n₀) (fun xs=>xs.map TR.da=VY o s n) (fun pre=> ∃ rest,pre.map TR.da ++rest=VY o s n) (VY o s n).length w:=fun l J Jx W hW hJ hJx hY h0=>
 OJ o s n A0 k0 A1 k1 n₀ l g1 g2 g3 m0 J Jx W hJ (Nat.le_trans hn₀ hW.size) ho (hT.below (hW.mono hn₀)) (b1.below hW b1.lt) (b2.below hW b2.lt) (b3.below hW b3.lt) h1 h2 h3 hY h0
theorem O8 {X Y:World}{k:Nat}{t:TypeId}{cs:List Value}{row:Option Nat}(h:ZP X k t cs)(hg:X.grownBy Y row)(hr: ∀ r,row=some r→ ∃ o:Obj,X.heap[r]?=some o∧o.isCells=false):ZP Y k t cs:=
 h.grown hg (fun e=>by
  obtain⟨o,ho,hc⟩:=hr k e.symm;have h':X.heap[k]?=some (.cells cs.toArray t):=by simpa [ZP] using h
  rw [ho] at h'
  cases h'
  cases hc)
theorem Tw {W:World}{D:Nat}{o o':Obj}(h:W.heap[D]?=some o)(hc:o.isCells=false):ZR [] W (W.putObj D o'):=
 ⟨by simp [World.putObj],fun k t ht _=>World.putObj_heap_other (by
  rintro rfl;obtain⟨cs,fr,h'⟩:=ht;rw [h] at h'
  cases h'
  cases hc)⟩
theorem Uc {α β:Type}(f:α→β): ∀ (l:List α)(i:Nat),(l.eraseIdx i).map f=(l.map f).eraseIdx i
 | [],_=>rfl
 | _ ::_,0=>rfl
 | a ::l,i+1=>by rw [List.eraseIdx_cons_succ,List.map_cons,List.map_cons,List.eraseIdx_cons_succ,Uc f l i]
theorem NF {us:List TypeId}{w w':World}{base:Nat}{o:Ob}{A0:Option Addr}{k0:Nat}{B1:Option Addr}{l1:Nat}{ts:List Za}{b:Nat→Nat}{i m:Nat}(hin:WH w base o A0 k0 B1 l1 ts b)(hk:ZR us w w')(h1:119∉us)(h2:40∉us)(h3:9∉us)
  (ho:w'.ownsRow base 73 5 (.slice B1 m l1) m ((ts.eraseIdx i).flatMap Za.cs)) (hm:m=(ts.eraseIdx i).length):ZV w' (Xn w' OT) Zt ((o.Z7.eraseIdx i).map Tb.da) B1:=by
 have h:=Yk (S:=Xn w' OT) (sh:=Zt) Tb.da (·.1) Za.k ho hm (fun a ha=>by
  obtain⟨j,hj,rfl⟩:=List.getElem_of_mem (List.mem_of_mem_eraseIdx ha);exact ZH.Y6 (fun k hk=>hk.Sz (by simp [OT])) (fun _ _=>rfl) _ _ _ ((hin.tab j hj).2.keeps hk h1 h2 h3).VH)
 rw [Uc,hin.data] at h;exact h.Y6 (fun k hk=>by
  rcases hk with hk | hk
  ·exact hk
  ·exact hk.Sz (by simp [OT])) (fun _ _=>rfl)
def VR (o:Ob)(s n:List UInt8)(er:Int)(o':Ob):Prop:=(er≠0∧o'=o)∨(er=0∧ ∃ i,Xs o s n=some i∧(∀ x∈VY o s n,x.1.Z8=s∧x.1.name=n)∧o'=⟨o.Z4,o.Z7.eraseIdx i⟩)
theorem OR (o:Ob)(s n:List UInt8)(c1 c2:Nat)(w0:World)(ho:o.Zv 1099511627776)(h1:ZP w0 c1 9 [.string (Z9 s)])(h2:ZP w0 c2 9 [.string (Z9 n)]):QI none 173 #[.pointer (some ⟨c1,0,none⟩),.pointer (some ⟨c2,0,none⟩)] o w0 (VR o s n):=by
 intro w base p B0 l0 B1 l1 ts b hbase hw0 hin hbd hp hpb hck;have hbz:=Sw hin hbd;have hwz:=hw0.size;have hpl:=hp.lt;have HIn:=hid hin;have HP:=hid hp;have HO:=hid ho;have hsl:=ho.1;have htl:=ho.2.1;have a0:w.cell? ⟨p,0,none⟩=some (.slice B0 o.Z4.length l0):=hp.cell 0;have a1:w.cell? ⟨p,1,none⟩=some (.slice B1 o.Z7.length l1):=hp.cell 1;have H1:=hid (h1.below hw0 h1.lt);have H2:=hid (h2.below hw0 h2.lt);have a2:=ce H1 0;have a3:=ce H2 0;have HNo:Hid (∀ er W,er≠0→Below w.heap.size w W→U6 none w base p (VR o s n) (.returned (.int .i64 er)) W):=hid fun er W h h2=>TJ HIn.out hbz HP.out h2 (Or.inl ⟨h,rfl⟩)
 have HYes:Hid (∀ i,Xs o s n=some i→(∀ x∈VY o s n,x.1.Z8=s∧x.1.name=n)→VR o s n 0 ⟨o.Z4,o.Z7.eraseIdx i⟩):=hid fun i h1 h2=>Or.inr ⟨rfl,i,h1,h2,rfl⟩
 have HWh:Hid (∀ W,Below w.heap.size w W→Calls Tryz.prog 57 #[.agg #[.slice B0 o.Z4.length l0,.slice B1 o.Z7.length l1],.string (Z9 s),.string (Z9 n)] W fun e w'=>e= .returned (.tuple #[.int .i64 (Xe (Xs o s n)),.bool (Xs o s n).isSome])∧Below W.heap.size W w'):=hid (by
  intro W hW;have cW:=Vt (o.Z4.map Sc.da) (o.Z7.map Tb.da) B0 l0 B1 l1 s n W (HIn.out.r.tb.later hW) (by simpa using htl);rwa [List.length_map,List.length_map,Vu,UM] at cW)
 have hc1l:=H1.out.lt;have hc2l:=H2.out.lt;clear hin hbd hp hck hw0 h1 h2 ho;refine callsIn_wide (n:=6) |>.1 ?_
 refine callsIn_of_wp_marks Tryz.func173 rfl trivial ?_ rfl
 simp only [Tryz.ntmps173,List.size_toArray,List.length_cons,List.length_nil,Nat.reduceAdd,Nat.reduceSub,Array.replicate_succ,Array.replicate_zero,List.push_toArray,List.append_toArray,List.nil_append,List.cons_append];refine wpIn_wide.2 ?_
 go_upto_region 1 with fail
 refine Uv _ fun W1 hW=> ?_
 have HB1:=bP hW;have Q1:=nC hW;clear hW;have b0:W1.cell? ⟨p,0,none⟩=some (.slice B0 o.Z4.length l0):=ct a0 HB1.out hpl;have b1:W1.cell? ⟨p,1,none⟩=some (.slice B1 o.Z7.length l1):=ct a1 HB1.out hpl;have b2:W1.cell? ⟨c1,0,none⟩=some (.string (Z9 s)):=ct a2 HB1.out hc1l;have b3:W1.cell? ⟨c2,0,none⟩=some (.string (Z9 n)):=ct a3 HB1.out hc2l;have hkeep:Hid (∀ w1 w2,(fun w'=>Below W1.heap.size W1 w'∧w'.cell? ⟨p,0,none⟩=some (.slice B0 o.Z4.length l0)∧w'.cell? ⟨p,1,none⟩=some (.slice B1 o.Z7.length l1)∧w'.cell? ⟨c1,0,none⟩=some (.string (Z9 s))∧w'.cell? ⟨c2,0,none⟩=some (.string (Z9 n))) w1→Below w1.heap.size w1 w2→(fun w'=>Below W1.heap.size W1 w'∧w'.cell? ⟨p,0,none⟩=some (.slice B0 o.Z4.length l0)∧w'.cell? ⟨p,1,none⟩=some (.slice B1 o.Z7.length l1)∧w'.cell? ⟨c1,0,none⟩=some (.string (Z9 s))∧w'.cell? ⟨c2,0,none⟩=some (.string (Z9 n))) w2):=hid (by
  intro w1 w2 ⟨h1,g0,g1,g2,g3⟩ h6;exact⟨h1.trans (h6.mono h1.size),(h6.cell (World.block_lt_of_cell? w1 _ g0)).trans g0,(h6.cell (World.block_lt_of_cell? w1 _ g1)).trans g1,(h6.cell (World.block_lt_of_cell? w1 _ g2)).trans g2,(h6.cell (World.block_lt_of_cell? w1 _ g3)).trans g3⟩)
 have hW0:Below W1.heap.size W1 W1.drew:=br.drew;have hz1:=HB1.out.size;refine wp_region_noPanic ?_
 go_region_held_law (fun w'=>Below W1.heap.size W1 w'∧w'.cell? ⟨p,0,none⟩=some (.slice B0 o.Z4.length l0)∧w'.cell? ⟨p,1,none⟩=some (.slice B1 o.Z7.length l1)∧w'.cell? ⟨c1,0,none⟩=some (.string (Z9 s))∧w'.cell? ⟨c2,0,none⟩=some (.string (Z9 n)))
  (first | exact hkeep.out _ _ (by assumption) (by assumption) | exact⟨hW0,b0,b1,b2,b3⟩)
  (first | (go_at_call 57;refine(HWh.out _ (by first | exact HB1.out.trans (hW0.mono hz1) | exact HB1.out.trans ((show _ from by assumption:_∧_).1.mono hz1) | exact HB1.out.trans (Below.mono (by assumption) hz1))).mono ?_;rintro e w' ⟨rfl,hb⟩))
 rename_i hS;obtain⟨hb2,d0,d1,d2,d3⟩:=hS;have HB2:=hid (HB1.out.trans (hb2.mono hz1));have Q2:=bl Q1 hb2;clear hb2 hkeep b0 b1 b2 b3 hW0 Q1;have q0:=ce Q2 0;have qf:=Q2.out.frozen 0
 cases hta:Xs o s n with
 | none=>
  rw [show Xe (none:Option Nat)= -1 from rfl,Option.isSome_none];unfold NoPanic;dsimp only;have HF:Hid (∀ W,W=w'.setCell ⟨w.heap.size,0,none⟩ (.int .i64 61)→U6 none w base p (VR o s n) (.returned (.int .i64 61)) W):=hid (fun W h=>HNo.out 61 W (by decide) (by rw [h];exact HB2.out.setCell (Nat.le_refl _) _));have qr:(w'.setCell ⟨w.heap.size,0,none⟩ (.int .i64 61)).cell? ⟨w.heap.size,0,none⟩=some (.int .i64 61):=(Q2.out.Zx 0 _).cell 0;go_wp2;refine⟨.int .i64 61,?_,HF.out _ rfl⟩
  simp [results,Tryz.f173,go_sem,qr]
 | some i=>
  have HAt:=hid hta;obtain⟨hi,_⟩:=Xa (show o.Z7.findIdx? (fun x=>x.Z8 == s && x.name == n)=some i from hta);clear hta;obtain⟨gt,rfl⟩: ∃ gt,B1=some ⟨gt,0,none⟩:=by
   obtain⟨gt,cap,hv,_,_⟩:=HIn.out.Z7.form (by omega);exact⟨gt,by injection hv⟩
  rw [show Xe (some i)=(i:Int) from rfl,Option.isSome_some];unfold NoPanic;dsimp only;go_wp2_with fail;refine wp_region_noPanic ?_
  refine wp_region_held_drew (S:=fun w'=>w'.cell? ⟨p,0,none⟩=some (.slice B0 o.Z4.length l0)∧w'.cell? ⟨p,1,none⟩=some (.slice (some ⟨gt,0,none⟩) o.Z7.length l1)∧w'.cell? ⟨c1,0,none⟩=some (.string (Z9 s))∧w'.cell? ⟨c2,0,none⟩=some (.string (Z9 n))) (by kernel_rfl) (⟨d0,d1,d2,d3⟩) (fun HD=> ?_)
  (try simp only [pp]);refine tk 0 19 HD ?_;refine tk 1 20 HD ?_;refine tk 2 21 HD ?_;refine tk 3 22 HD ?_;refine tk 4 23 HD ?_;refine on 5 24 fun K hK=> ?_
  go_simp;refine(SO o B0 l0 (some ⟨gt,0,none⟩) l1 s n _).mono ?_
  rintro e w3 ⟨rfl,g1,g2,g3,hb3,hz3⟩;have hb3':Below w'.heap.size w' w3:=(Below.refl w'.heap.size w').drew.trans hb3;have HB3:=bt HB2 hb3';have Q3:=bl Q2 hb3';have G1:=hid g1;have G2:=hid g2;have G3:=hid g3;have hz3':w3.heap.size=w'.heap.size+3:=by rw [hz3];rfl
  have P3:=hid (HP.out.below HB3.out hpl);have C13:=hid (H1.out.below HB3.out hc1l);have C23:=hid (H2.out.below HB3.out hc2l);clear g1 g2 g3 hb3 hb3' hz3;refine hK.out _ _ ⟨P3.out.cell 0,P3.out.cell 1,C13.out.cell 0,C23.out.cell 0⟩ (fun HD=> ?_);clear hK K;(try simp only [pp])
  refine wpAnyH_done (by kernel_rfl) ?_ _
  clear HD d0 d1 d2 d3;unfold NoPanic;dsimp only;go_wp2_with fail;generalize hzd:w'.drew.heap.size=z at*;have hz0:z=w'.heap.size:=by rw [←hzd];rfl
  have hTb:ZV w3 (· < w3.heap.size) Zt (o.Z7.map Tb.da) (some ⟨gt,0,none⟩):=HIn.out.r.tb.later HB3.out;have hw3:w.heap.size<w3.heap.size:=Q3.out.lt;have hz4:z+1+1<w3.heap.size:=by omega
  clear hzd hz0 hz3';refine wpIn_wide.1 (wpIn_rangeFunc_ownH (F:=Fence.wide) (n:=6) rfl (by omega) (gf:=246) (lb:= #[.pointer (some ⟨z,0,none⟩),.pointer (some ⟨z+1,0,none⟩),.pointer (some ⟨z+1+1,0,none⟩)]) rfl trivial (enters_of Tryz.func246 (by kernel_rfl) rfl)
   (Up 4 o s n B0 l0 (some ⟨gt,0,none⟩) l1 w3.heap.size z (z+1) (z+1+1) w3 (Nat.le_refl _) HO.out hTb G1.out G2.out G3.out (by omega) (by omega) (by omega)) (fun h k=>Pi.trans h k) (J1 (Nat.le_refl _)) br (fun _=>rfl)
   (fun pre W=>(∀ x∈pre,x.1.1.Z8=s∧x.1.1.name=n)∧Below w3.heap.size w3 W)
   (fun c _ W=>(c= .ret∧Boxed W w.heap.size 45 (.int .i64 62))∧Below w.heap.size w W)
   (OwnFrom.and (ownFrom_pure _ _) (ownFrom_below (Nat.le_refl _) (Nat.le_refl _)))
   (fun c=>OwnFrom.and (OwnFrom.and (ownFrom_pure _ _) (Own.from (boxed_own _ _ _) _)) (ownFrom_below (Nat.le_refl _) (Nat.le_of_lt hw3)))
   ⟨by simp,Below.refl _ _⟩
   (fun x a' W=> ∃ Bx,w3.heap.size≤Bx∧ZP W Bx 73 (Za.cs x.1)∧a'= { tmps:= #[.pointer (some ⟨p,0,none⟩),.pointer (some ⟨c1,0,none⟩),.pointer (some ⟨c2,0,none⟩),undef,.pointer (some ⟨w.heap.size,0,none⟩),.int .i64 (i:Int),.bool true,.pointer (some ⟨Bx,0,none⟩),.tuple #[.int .i64 (i:Int),.bool true],.pointer (some ⟨p,0,none⟩),.pointer (some ⟨p,0,none⟩),.agg #[.slice B0 o.Z4.length l0,.slice (some ⟨gt,0,none⟩) o.Z7.length l1],.string (Z9 s),.string (Z9 n),.tuple #[.int .i64 (i:Int),.bool true],.int .i64 (i:Int),.bool true,.bool true,.bool false,.pointer (some ⟨p,0,none⟩),.pointer (some ⟨p,0,none⟩),.agg #[.slice B0 o.Z4.length l0,.slice (some ⟨gt,0,none⟩) o.Z7.length l1],.string (Z9 s),.string (Z9 n),.func (.func 246) #[] #[.pointer (some ⟨z,0,none⟩),.pointer (some ⟨z+1,0,none⟩),.pointer (some ⟨z+1+1,0,none⟩)],.agg (Za.cs x.1).toArray,.agg (Yv.cs x.2).toArray,undef,undef,undef,undef,undef,undef,undef,undef,undef,undef,undef,undef,undef,undef,undef,undef,undef,undef,undef,undef,undef],defers:= []})
   (fun x a' _ X Y row hs hg hr=>by obtain⟨Bx,e1,e2,e3⟩:=hs;exact⟨Bx,e1,O8 e2 hg (fun r e=>(hr r e).2),e3⟩)
   ?assign ?body ?done ?stop)
  case assign=>
   rintro l pre x W K ⟨hp,hB⟩ hK;obtain⟨⟨t,X,x',Y,y⟩,r,V,v⟩:=x;dsimp only [TR.enc,Za.cs,Yv.cs,Tb.cs,Ru.cs];gi_wp2
   exact hK _ _ ((KeepsOthers.alloc _ _).from _) (Pi.alloc hB.size _) ⟨hp,hB.alloc hB.size _⟩ ⟨W.heap.size,hB.size,ZP.new W _ _,rfl⟩
  case body=>
   rintro l pre x a' W hl ⟨lr,hlr⟩ ⟨hp,hB⟩ ⟨Bx,hBx,bX,rfl⟩ hlt;obtain⟨⟨t,X,x',Y,y⟩,r,V,v⟩:=x;have x0:W.cell? ⟨Bx,0,none⟩=some (.string (Z9 t.Z8)):=bX.cell 0;have x1:W.cell? ⟨Bx,1,none⟩=some (.string (Z9 t.name)):=bX.cell 1;have d1:=cd (C13.out.below hB C13.out.lt) 0;have d2:=cd (C23.out.below hB C23.out.lt) 0;have q0:=cd (Q3.out.below hB Q3.out.lt) 0;have qf:W.frozen? ⟨w.heap.size,0,none⟩=false:=(Q3.out.below hB Q3.out.lt).frozen 0;have hgo:t.Z8=s∧t.name=n→(∀ z∈pre ++ [(((t,X,x',Y,y),(r,V,v)):TR)],z.1.1.Z8=s∧z.1.1.name=n):=by
    intro h z hz;rcases List.mem_append.1 hz with h1 | h1
    ·exact hp z h1
    ·rw [List.mem_singleton.1 h1];exact h
   have hBw:Below w.heap.size w W:=HB3.out.trans (hB.mono HB3.out.size);have hbx:Boxed (W.setCell ⟨w.heap.size,0,none⟩ (.int .i64 62)) w.heap.size 45 (.int .i64 62):=by
    have h:=(Q3.out.below hB Q3.out.lt).Zx 0 (.int .i64 62);simpa [ZP,Boxed] using h
   dsimp only [TR.enc,Za.cs,Yv.cs,Tb.cs,Ru.cs]
   cases e1:t.Z8 == s
   ·have e1':(t.Z8 != s)=true:=by simp [bne,e1]
    gi_wp2
    exact⟨(KeepsOthers.setCell _ _ _).from _,⟨rfl,hbx⟩,hBw.setCell (p:=⟨w.heap.size,0,none⟩) (Nat.le_refl _) _⟩
   have e1':(t.Z8 != s)=false:=by simp [bne,e1]
   cases e2:t.name == n
   ·have e2':(t.name != n)=true:=by simp [bne,e2]
    gi_wp2
    exact⟨(KeepsOthers.setCell _ _ _).from _,⟨rfl,hbx⟩,hBw.setCell (p:=⟨w.heap.size,0,none⟩) (Nat.le_refl _) _⟩
   have e2':(t.name != n)=false:=by simp [bne,e2]
   gi_wp2
   exact⟨KeepsFrom.refl _ _,Pi.refl _ _,fun _ _ _ _ _ _ _ _ h=>hgo ⟨by simpa using e1,by simpa using e2⟩ _ h,hB⟩
  case done=>
   rintro D ys W hD hys ⟨hp,hB⟩ hK;have hBw:Below w.heap.size w W:=HB3.out.trans (hB.mono HB3.out.size);have HBw:=hid hBw;have HKd:=hid hK;have HAll:Hid (∀ x∈VY o s n,x.1.Z8=s∧x.1.name=n):=hid (by
    rw [←hys];intro x hx;obtain⟨y,hy,rfl⟩:=List.mem_map.1 hx;exact hp y hy)
   have Q4:=bl Q3 hB;have P4:=bl P3 hB;have hgtl:gt<w.heap.size:=(ZK HIn.out.Z7).2.1;have O4:=hid (HIn.out.Z7.Zw hBw);have htsl:ts.length=o.Z7.length:=by rw [←HIn.out.data,List.length_map]
   have hwr:IntKind.i64.wrap ((i:Int)+1)=(i:Int)+1:=by simp [IntKind.wrap,IntKind.bits,IntKind.signed];omega
   have e0:=ce P4 1;clear hys hp hBw hB hK;dsimp only;go_wp2_with fail;have cD:=PI base ts (some ⟨gt,0,none⟩) l1 i W (by rw [htsl];exact O4.out) (by omega) (by omega);rw [htsl] at cD;refine cD.mono ?_
   rintro e V ⟨rfl,hoV,hbV,hkV,hfV⟩;have HOV:=hid hoV;have HBV:Hid (Below base w V):=hid ((HBw.out.mono hbz).trans hbV);have HKV:=hid hkV;have hDl:D<W.heap.size:=(Array.getElem?_eq_some_iff.1 HKd.out).1;have hne:(Value.slice (some ⟨gt,0,none⟩) o.Z7.length l1).ownBlock≠some D:=fun e=>by
    injection e with e'
    have e2:gt=D:=e';omega
   have HDV:Hid (V.heap[D]?=some (.deferred (some []))):=hid ((hfV.block D hDl hne).trans HKd.out);have PV:=hid (P4.out.keeps HKV.out (by decide));have QV:=hid (Q4.out.keeps HKV.out (by decide));have hzV:=HKV.out.size;clear hoV hbV hkV hfV cD e0;have e1:=ce PV 1;have f1:=PV.out.frozen 1;have hV:V.setCell ⟨p,1,none⟩ (.slice (some ⟨gt,0,none⟩) (o.Z7.length - 1:Nat) l1)=V.setCell ⟨p,1,none⟩ (.slice (some ⟨gt,0,none⟩) (o.Z7.length - 1:Nat) l1):=rfl;generalize hV2:V.setCell ⟨p,1,none⟩ (.slice (some ⟨gt,0,none⟩) (o.Z7.length - 1:Nat) l1)=V2 at hV;replace hV:=hV2.symm;clear hV2;have hpw:p≠w.heap.size:=by omega
   have hpD:p≠D:=by omega
   have HK2:Hid (ZR [26] V V2):=hid (by rw [hV];exact ZR.Zx PV.out.Xr (by simp) _);have P5:=rB hV (PV.out.Zx 1 _);have Q5:Hid (ZP V2 w.heap.size 45 [.int .i64 0]):=hid (by rw [hV];exact QV.out.Wx (by show _≠p;omega) _)
   have HD5:Hid (V2.heap[D]?=some (.deferred (some []))):=hid (by rw [hV];exact((Below.heap_setCell V ⟨p,1,none⟩ _ D (fun e=>hpD e.symm))).trans HDV.out);have HB5:Hid (Below base w V2):=hid (by rw [hV];exact HBV.out.setCell hpb _);have q5:=ce Q5 0;have g5:=Q5.out.frozen 0;rw [hV] at q5 g5;go_upto_region 9 with fail
   rw [←hV];rw [←hV] at q5 g5;clear hV;have hwD:w.heap.size≠D:=by omega
   have HD6:(V2.setCell ⟨w.heap.size,0,none⟩ (.int .i64 0)).heap[D]?=some (.deferred (some [])):=(Below.heap_setCell V2 ⟨w.heap.size,0,none⟩ _ D (fun e=>hwD e.symm)).trans HD5.out;have Q6:Hid (ZP (V2.setCell ⟨w.heap.size,0,none⟩ (.int .i64 0)) w.heap.size 45 [.int .i64 0]):=hid (Q5.out.Zx 0 _);have HK6:Hid (ZR [45] V2 (V2.setCell ⟨w.heap.size,0,none⟩ (.int .i64 0))):=hid (ZR.Zx Q5.out.Xr (by simp) _);have HB6:Hid (Below base w (V2.setCell ⟨w.heap.size,0,none⟩ (.int .i64 0))):=hid (HB5.out.setCell hbz _);go_wp2;refine⟨by simp,.inl ⟨_,_,rfl,run_takeDeferred HD6,?_⟩⟩
   have hQ:Q6.out.cell 0=Q6.out.cell 0:=rfl;have hc5:=cell_kept (show (V2.setCell ⟨w.heap.size,0,none⟩ (.int .i64 0)).cell? ⟨w.heap.size,0,none⟩=some (.int .i64 0) from Q6.out.cell 0) (grownBy_putObj' _ D (.deferred none)) (fun r e=>by cases e;exact⟨_,HD6,rfl⟩);refine⟨.int .i64 0,?_,?_⟩
   ·simp [results,Tryz.f173,go_sem,hc5]
   ·have hK7:ZR [] (V2.setCell ⟨w.heap.size,0,none⟩ (.int .i64 0)) ((V2.setCell ⟨w.heap.size,0,none⟩ (.int .i64 0)).putObj D (.deferred none)):=Tw HD6 rfl;have hKw:ZR [73,26,45] w ((V2.setCell ⟨w.heap.size,0,none⟩ (.int .i64 0)).putObj D (.deferred none)):=((((ZR.Zp HBw.out (Nat.le_refl _)).trans (HKV.out.Ya (by simp))).trans (HK2.out.Ya (by simp))).trans (HK6.out.Ya (by simp))).trans (hK7.Ya (by simp));have hK27:ZR [26,45] V ((V2.setCell ⟨w.heap.size,0,none⟩ (.int .i64 0)).putObj D (.deferred none)):=((HK2.out.Ya (by simp)).trans (HK6.out.Ya (by simp))).trans (hK7.Ya (by simp));have hel:(o.Z7.eraseIdx i).length=o.Z7.length - 1:=List.length_eraseIdx_of_lt hi;have hel2:(ts.eraseIdx i).length=o.Z7.length - 1:=by rw [List.length_eraseIdx_of_lt (by omega),htsl]
    refine⟨0,⟨o.Z4,o.Z7.eraseIdx i⟩,B0,l0,some ⟨gt,0,none⟩,l1,rfl,HYes.out i HAt.out HAll.out,?_,⟨?_,?_⟩,?_⟩
    ·rw [hel];exact((P5.out.keeps HK6.out (by decide)).keeps hK7 (by decide))
    ·have h1:=HIn.out.sc.Y6 (S':=Xn w [89]) (fun k hk=>hk.Sz (fun _ h=>h)) (fun _ _=>rfl);exact(ZB h1 hKw (by decide)).Y6 (fun k ⟨t,h1,h2⟩=>⟨t,(by decide: ∀ t,t∈ [89]→t∈OT) t h1,h2⟩) (fun _ _=>rfl)
    ·exact NF (us:= [73,26,45]) HIn.out hKw (by decide) (by decide) (by decide) (HOV.out.keeps hK27 (by decide)) (by rw [hel2])
    ·exact(HB6.out.trans ((belowK_b (w:=w) hbz _ D _ _ (by omega) HD6 rfl rfl))).x _
  case stop=>
   rintro D c pre W hD _ ⟨⟨rfl,hbx⟩,hB⟩ hK;have HF:=HNo.out 62;gi_wp2
   refine⟨by simp,.inl ⟨_,_,rfl,run_takeDeferred hK,?_⟩⟩
   have hc5:=cell_kept hbx.cell (grownBy_putObj' _ D (.deferred none)) (fun r e=>by cases e;exact⟨_,hK,rfl⟩);refine⟨.int .i64 62,?_,?_⟩
   ·simp [results,Tryz.f173,go_sem,hc5]
   ·exact HNo.out 62 _ (by decide) (hB.trans (belowK_b (w:=w) (Nat.le_refl _) W D _ _ (by omega) hK rfl rfl))
end Go.Proofs.YtnhmoibjlakhjaaGreat
namespace Go.Proofs.YtnhmoibjlakhjaaGreat
open Lib (hid)
set_option maxRecDepth 100000
set_option maxHeartbeats 16000000
open Go.RowKit
attribute [local go_sem] Oper.semAt_some
theorem Uq (o:Ob)(A0:Option Addr)(k0:Nat)(A1:Option Addr)(k1:Nat)(s n:List UInt8)(w:World)(hO:Pg w o A0 A1)(ho:o.Zv 1099511627776):
  Calls Tryz.prog 124 #[.agg #[.slice A0 o.Z4.length k0,.slice A1 o.Z7.length k1],.string (Z9 s),.string (Z9 n)] w (KP o (VR o s n) w):=by
 have HOb:=hid hO;have HO:=hid ho;have HI:=iN 26 2;clear hO ho;go_enter Tryz.func124,Tryz.ntmps124
 go_wp2_with fail;refine Zm _ fun W hW=> ?_
 have HB1:Hid (Below w.heap.size w W):=hid (by rw [hW];exact((((br.alloc lr _).alloc (by simp) _).alloc (by simp;omega) _).alloc (by simp;omega) _));have q0:ZP W (w.heap.size) 26 [.slice A0 o.Z4.length k0,.slice A1 o.Z7.length k1]:=by rw [hW];exact(ZP.alloc (ZP.alloc (ZP.alloc (ZP.new w 26 [.slice A0 o.Z4.length k0,.slice A1 o.Z7.length k1]) _) _) _)
 have q1:ZP W (w.heap.size+1) 9 [.string (Z9 s)]:=by rw [hW];exact(ZP.alloc (ZP.alloc (by simpa using ZP.new (w.alloc (.cells #[.slice A0 o.Z4.length k0,.slice A1 o.Z7.length k1] 26)) 9 [.string (Z9 s)]) _) _)
 have q2:ZP W (w.heap.size+1+1) 9 [.string (Z9 n)]:=by rw [hW];exact(ZP.alloc (by simpa using ZP.new ((w.alloc (.cells #[.slice A0 o.Z4.length k0,.slice A1 o.Z7.length k1] 26)).alloc (.cells #[.string (Z9 s)] 9)) 9 [.string (Z9 n)]) _)
 have q3:ZP W (w.heap.size+1+1+1) 26 [.slice none 0 0,.slice none 0 0]:=by rw [hW];exact(by simpa using ZP.new (((w.alloc (.cells #[.slice A0 o.Z4.length k0,.slice A1 o.Z7.length k1] 26)).alloc (.cells #[.string (Z9 s)] 9)).alloc (.cells #[.string (Z9 n)] 9)) 26 [.slice none 0 0,.slice none 0 0])
 clear hW;have Q:=hid q3;have hql:=q3.lt;refine(WF none 173 _ (VR o s n) o A0 k0 A1 k1 W (enters_of Tryz.func173 (by kernel_rfl) rfl) (HOb.out.later HB1.out) HO.out (OR o s n _ _ W HO.out q1 q2) (by simp)).mono ?_
 rintro e W2 ⟨er,o',C0,m0,C1,m1,rfl,hR,hOb,hb⟩;have HB2:Hid (Below w.heap.size w W2):=hid (HB1.out.trans (hb.low HB1.out.size (by simp)));have Q2:=hid (hb.X8 Q.out Q.out.lt (by simp));have HR:=hid hR;have HOb2:=hid hOb;clear hb hR hOb HB1 Q q0 q1 q2 q3;go_wp2_with (first | ((refine sO Q2 HI ?_);intro wS HS) | fail);refine bodyPost_ret (rt (hid HS.out.X8) Tryz.underlying26 HI) rfl ?_
 exact⟨er,o',C0,m0,C1,m1,rfl,HR.out,HOb2.out.keeps HS.out.keeps (by decide),HS.out.below HB2.out (by omega)⟩
section
variable {P : Program} {ops : Array Oper} {Q : Exit → Act → World → Prop} {l n : Nat}
theorem J9 {o:Oper}{a:Act}{K:Act→World→Prop} : ∀ r,Oper.upon P o a K Q r→Oper.uponIn (Fence.wide.inRound l) n P o a K Q r:=by
 intro r h
 cases r with
 | ok x w'=>
  cases x <;> first
   | exact h
   | exact⟨fun h=>(by cases h),(callsIn_wide.2 h).inRound l⟩
   | exact⟨fun h=>(by cases h),fun c cs _=>let ⟨v,w',r,s⟩:=h c cs;⟨v,w',r,stepsIn_wide.2 s⟩⟩
   | exact h.elim
 | halt x w'=>
  cases x <;> first
   | exact h
   | exact h.elim
def Kk:Op→Bool
 | .defer _=>false
 | _=>true
theorem J8 {i:Nat}{K:Act→World→Prop}{a:Act}{w:World}(hnd: ∀ (j:Nat)(o:Oper),ops[j]?=some o→ ∀ c,o.op≠ .defer c)(hl: ¬ LetsOut Q)(h:wpOp P ops Q i K a w):wpOpIn (Fence.wide.inRound l) n P ops Q i K a w:=by
 unfold wpOp at h;unfold wpOpIn
 cases ho:ops[i]? with
 | none=>
  rw [ho] at h;exact h
 | some o=>
  rw [ho] at h;dsimp only at h ⊢;by_cases hw:Region.wanted o (yielded ops a.tmps)=true
  ·rw [if_pos hw] at h ⊢;rcases h with h | ⟨_,h⟩
   ·refine⟨fun _ _=>trivial,?_⟩
    rw [show (Fence.wide.inRound l).round=some l from rfl,Oper.semAt_some l _ _ (hnd i o ho)];exact J9 _ h
   ·exact absurd h hl
  ·rw [if_neg hw] at h ⊢;exact⟨fun _ _=>trivial,h⟩
theorem Oe {md:Region.Mode}(hnd: ∀ (j:Nat)(o:Oper),ops[j]?=some o→ ∀ c,o.op≠ .defer c)(hl: ¬ LetsOut Q): ∀ (fuel:Nat)(listed:Array Bool)(a:Act)(w:World),wpAny P md ops Q fuel listed a w→wpAnyIn (Fence.wide.inRound l) n P md ops Q fuel listed a w
 | 0,_,_,_,h=>h
 | fuel+1,_,_,_,h=>⟨h.1,fun i hi=>wpOpIn_mono (fun a w h=>Oe hnd hl fuel _ a w h) (J8 hnd hl (h.2 i hi))⟩
theorem WM {S:World→Prop}{id:Nat}{a:Act}{w:World}(hm:P.follows .mixedOrders=true)(hnd:ops.all (fun o=>Kk o.op)=true)(hl: ¬ LetsOut Q)(hS:S w.drew)
  (h:S w.drew→wpAnyH P .any ops Q S ops.size (Array.replicate ops.size false) a w.drew):(Code.region id ops true).wpIn (Fence.wide.inRound l) n P Q a w:=
 wpIn_region_any hm (Oe (fun j o ho c hc=>by
  have h1:=Array.all_eq_true.1 hnd j (Array.getElem?_eq_some_iff.1 ho).1;rw [(Array.getElem?_eq_some_iff.1 ho).2,hc] at h1
  cases h1) hl _ _ _ _ (wpAny_of_held _ _ _ _ (h hS)))
end
theorem Yz.post {w w1 w2:World}{gt lo hi:Nat}{us:List TypeId}{x:Option Nat}(h:Yz w w1 gt lo hi us x)(hs:w1.heap.size≤w2.heap.size)(hb: ∀ k,k<w.heap.size→w2.heap[k]?=w1.heap[k]?):Yz w w2 gt lo hi us x:=
 ⟨Nat.le_trans h.size hs,fun k t ht hk hn hx=>(hb k ht.lt).trans (h.block k t ht hk hn hx)⟩
theorem Jp {F T:Nat→World→Prop}{G:Prop}(h:(∀ p w,F p w→T p w)→G)(k: ∀ p w,F p w→T p w):G:=h k
def Vq (o:Ob)(s n nm:List UInt8)(i:Nat)(er:Int)(o':Ob):Prop:=(er≠0∧o'=o)∨(er=0∧ ∃ hi:i<o.Z7.length,∃ k,S4 o.Z7[i].ZS nm=some k∧(∀ (hk:k<o.Z7[i].ZS.length),o.Z7[i].ZS[k].ZQ=2→ ∀ x∈VY o s n,x.2.key≠nm)∧o'=UJ o i { o.Z7[i] with ZS:=o.Z7[i].ZS.eraseIdx k})
theorem OV (o:Ob)(s n nm:List UInt8)(c2 c3 c4:Nat)(w0:World)(ho:o.Zv 1099511627776)(h2:ZP w0 c2 9 [.string (Z9 nm)])(h3:ZP w0 c3 9 [.string (Z9 s)])(h4:ZP w0 c4 9 [.string (Z9 n)]):Ss none 214 #[.pointer (some ⟨c2,0,none⟩),.pointer (some ⟨c3,0,none⟩),.pointer (some ⟨c4,0,none⟩)] o w0 s n (Vq o s n nm):=by
 intro w base p gt i B0 l0 l1 ts b hbase hw0 hin hbd hp hpb hck hta hi;have hts:ts.length=o.Z7.length:=by rw [←hin.data,List.length_map]
 have hi':i<ts.length:=by omega
 have hti:ts[i].1=o.Z7[i]:=by
  have:=hin.data;rw [←List.getElem_map (f:=fun x:Za=>x.1) (h:=by simpa using hi')];simp only [this]
 have hTab:=(hin.tab i hi').2;have hbz:base≤w.heap.size:=by
  have:=hin.low;have:=hbd 0 (Nat.zero_le _);omega
 have hgt:Zc w gt 73:=YC hin.Z7 rfl;have hgb:=(ZK hin.Z7).1;have hgl:=(ZK hin.Z7).2.1;have hgf:=(ZK hin.Z7).2.2.2.1;have hlob:base≤b i:=Nat.le_trans hin.low (hin.Ur i 0 (Nat.zero_le _) (by omega));have hgc:=fun f hf u hu=>Xg hin.Z7 hi' f hf u hu
 have hput:=fun(W:World) (h:W.ownsRow base 73 5 (.slice (some ⟨gt,0,none⟩) o.Z7.length l1) o.Z7.length (ts.flatMap Za.cs)) f hf u t' ht=>UL h hi' (f:=f) hf u t' ht
 have HOt:=hid (ho.2.2 o.Z7[i] (List.getElem_mem hi));generalize hT:ts[i]=T at*;obtain⟨t,X,x,Y,y⟩:=T;dsimp only at hti;rw [←hti] at HOt;have HIn:=hid hin;have HTab:=hid hTab;have HO:=hid ho;have HP:=hid hp;have HGt:=hid hgt;have HGf:=hid hgf;have HPut:=hid hput;have HTi:=hid hti;have hwz:=hw0.size;have hpl:=hp.lt;have htl:=ho.2.1;have hrl:=HOt.out.2.1;have C2:=hid (h2.below hw0 h2.lt);have C3:=hid (h3.below hw0 h3.lt);have C4:=hid (h4.below hw0 h4.lt);have HNo:Hid (∀ er W,er≠0→Below w.heap.size w W→WT none w base p gt B0 l0 l1 o (Vq o s n nm i) (.returned (.int .i64 er)) W):=hid fun er W h1 h2=>TI HIn.out hbz HP.out h2 (Or.inl ⟨h1,rfl⟩)
 have hg4:=hgc 4 (by omega) (.slice Y t.ZS.length y) rfl;have HRr:Hid (∀ o' k,S4 o.Z7[i].ZS nm=some k→(∀ (hk:k<o.Z7[i].ZS.length),o.Z7[i].ZS[k].ZQ=2→ ∀ x∈VY o s n,x.2.key≠nm)→o'=UJ o i { o.Z7[i] with ZS:=o.Z7[i].ZS.eraseIdx k} →Vq o s n nm i 0 o'):=hid fun o' k h1 h2 h4=>Or.inr ⟨rfl,hi,k,h1,h2,h4⟩
 clear hin hTab hp hgt hgf hw0 hput hT hbd hck hta hti h2 h3 h4 hgc ho;refine callsIn_wide (n:=6) |>.1 ?_
 refine callsIn_of_wp_marks Tryz.func214 rfl trivial ?_ rfl
 simp only [Tryz.ntmps214,List.size_toArray,List.length_cons,List.length_nil,Nat.reduceAdd,Nat.reduceSub,Array.replicate_succ,Array.replicate_zero,List.push_toArray,List.append_toArray,List.nil_append,List.cons_append];refine wpIn_wide.2 ?_
 go_upto_region 1 with fail
 refine Uv _ fun W1 hW=> ?_
 have e1:(w.alloc (.cells #[.slice B0 o.Z4.length l0,.slice (some ⟨gt,0,none⟩) o.Z7.length l1] 26)).heap.size=w.heap.size+1:=by simp
 have e2:((w.alloc (.cells #[.slice B0 o.Z4.length l0,.slice (some ⟨gt,0,none⟩) o.Z7.length l1] 26)).alloc (.cells #[.pointer (some ⟨gt,i*5,none⟩)] 233)).heap.size=w.heap.size+1+1:=by simp
 have HB1:=bR hW;have Z5:=nE hW;have Z6:Hid (ZP W1 (w.heap.size+1) 233 [.pointer (some ⟨gt,i*5,none⟩)]):=hid (by
  rw [hW];have h:=(ZP.new (w.alloc (.cells #[.slice B0 o.Z4.length l0,.slice (some ⟨gt,0,none⟩) o.Z7.length l1] 26)) 233 [.pointer (some ⟨gt,i*5,none⟩)]).alloc (.cells #[.int .i64 0] 45);rwa [e1] at h)
 have Q1:Hid (ZP W1 (w.heap.size+1+1) 45 [.int .i64 0]):=hid (by
  rw [hW];have h:=ZP.new ((w.alloc (.cells #[.slice B0 o.Z4.length l0,.slice (some ⟨gt,0,none⟩) o.Z7.length l1] 26)).alloc (.cells #[.pointer (some ⟨gt,i*5,none⟩)] 233)) 45 [.int .i64 0];rwa [e2] at h)
 clear hW e1 e2;have hgl1:gt<W1.heap.size:=Nat.lt_of_lt_of_le hgl HB1.out.size;have d4:W1.cell? ⟨gt,i*5+4,none⟩=some (.slice Y t.ZS.length y):=ct hg4 HB1.out hgl;have C2w:=bl C2 HB1.out;have HBy:Hid (∀ W,Below W1.heap.size W1 W→Calls Tryz.prog 210 #[.slice Y t.ZS.length y,.string (Z9 nm),.func (.func 211) #[] #[]] W fun e w'=>e= .returned (.int .i64 (Xe (S4 t.ZS nm)))∧Below W.heap.size W w'):=hid (by
  intro W hW;have cB:=U4 (t.ZS.map Ru.da) Y y nm W ((HTab.out.rows.2.later HB1.out).later hW) (by simpa using HOt.out.2.1);rwa [List.length_map,S3] at cB)
 have hz1:=HB1.out.size;refine wp_region_noPanic ?_
 generalize hra:S4 t.ZS nm=ra at*;have HRa:=hid hra;clear hra;refine' Jp (F:=fun q V=>Hid (ZP V q 3 [.int .i64 (Xe ra)])∧Hid (Below W1.heap.size W1 V)∧Hid (W1.heap.size≤q)) (fun key=>_) _
 rotate_left
 ·refine wp_region_held_drew (S:=fun w'=>w'.cell? ⟨w.heap.size+1,0,none⟩=some (.pointer (some ⟨gt,i*5,none⟩))∧w'.cell? ⟨gt,i*5+4,none⟩=some (.slice Y t.ZS.length y)∧w'.cell? ⟨c2,0,none⟩=some (.string (Z9 nm))) (by kernel_rfl) (⟨((Below.refl W1.heap.size W1).drew.cell (p:=⟨w.heap.size+1,0,none⟩) Z6.out.lt).trans (Z6.out.cell 0),((Below.refl W1.heap.size W1).drew.cell (p:=⟨gt,i*5+4,none⟩) hgl1).trans d4,((Below.refl W1.heap.size W1).drew.cell (p:=⟨c2,0,none⟩) C2w.out.lt).trans (C2w.out.cell 0)⟩) (fun HD=> ?_)
  (try simp only [pp]);refine tk 0 11 HD ?_;refine tk 1 12 HD ?_;refine tk 2 13 HD ?_;refine tk 3 14 HD ?_;refine tk 4 15 HD ?_;refine wpAnyH_ready (rs:= [5,6]) (by kernel_rfl) (by simp) ?_
  refine AllReadyH.cons (o:=⟨some 16,_,_,_,_,_⟩) rfl (fun K hK=> ?_) (AllReadyH.cons (o:=⟨some 8,_,_,_,_,_⟩) rfl (fun K hK=> ?_) AllReadyH.nil)
  ·go_simp;refine(HBy.out W1.drew br.drew).mono ?_
   rintro e V1 ⟨rfl,hb⟩;have HV1:Hid (Below W1.heap.size W1 V1):=hid (br.drew.trans hb);clear hb;refine hK.out _ _ ⟨cb Z6 HV1.out 0,ct d4 HV1.out hgl1,cb C2w HV1.out 0⟩ (fun HD=> ?_);clear hK K;(try simp only [pp])
   refine on 6 8 fun K hK=> ?_
   go_simp;have HV2:Hid (Below W1.heap.size W1 (V1.alloc (.cells #[.int .i64 0] 3))):=hid (HV1.out.alloc HV1.out.size _);have G2:Hid (ZP (V1.alloc (.cells #[.int .i64 0] 3)) V1.heap.size 3 [.int .i64 0]):=hid (ZP.new V1 _ _);have hzq:W1.heap.size≤V1.heap.size:=HV1.out.size;refine hK.out _ _ ⟨cb Z6 HV2.out 0,ct d4 HV2.out hgl1,cb C2w HV2.out 0⟩ (fun HD=> ?_);clear hK K;(try simp only [pp])
   refine Rc 7 fun K hK=> ?_
   have HV3:Hid (Below W1.heap.size W1 (V1.alloc (.cells #[.int .i64 (Xe ra)] 3))):=hid (HV1.out.alloc HV1.out.size _);have G3:Hid (ZP (V1.alloc (.cells #[.int .i64 (Xe ra)] 3)) V1.heap.size 3 [.int .i64 (Xe ra)]):=hid (ZP.new V1 _ _);clear HV2 G2 HV1;go_simp;refine hK.out _ _ ⟨cb Z6 HV3.out 0,ct d4 HV3.out hgl1,cb C2w HV3.out 0⟩ (fun HD=> ?_);clear hK K;(try simp only [pp])
   refine wpAnyH_done (by kernel_rfl) ?_ _
   clear HD;revert HV3 G3 hzq
   generalize V1.alloc (.cells #[.int .i64 (Xe ra)] 3)=V9;generalize V1.heap.size=q9;intro hzq HV3 G3;exact key q9 V9 ⟨G3,HV3,hzq⟩
  ·go_simp;have HV2:Hid (Below W1.heap.size W1 (W1.alloc (.cells #[.int .i64 0] 3)).drew):=hid (br.alloc lr _).drew;have G2:Hid (ZP (W1.alloc (.cells #[.int .i64 0] 3)).drew W1.heap.size 3 [.int .i64 0]):=hid (ZP.new W1 _ _).drew;refine hK.out _ _ ⟨cb Z6 HV2.out 0,ct d4 HV2.out hgl1,cb C2w HV2.out 0⟩ (fun HD=> ?_);clear hK K;(try simp only [pp])
   refine on 5 16 fun K hK=> ?_
   go_simp;refine(HBy.out _ HV2.out).mono ?_
   rintro e V1 ⟨rfl,hb⟩;have HV1:=bt HV2 hb;have G1:=bl G2 hb;clear hb HV2 G2;refine hK.out _ _ ⟨cb Z6 HV1.out 0,ct d4 HV1.out hgl1,cb C2w HV1.out 0⟩ (fun HD=> ?_);clear hK K;(try simp only [pp])
   refine Rc 7 fun K hK=> ?_
   have q0:=ce G1 0;have qf:=G1.out.frozen 0;have HV3:Hid (Below W1.heap.size W1 (V1.setCell ⟨W1.heap.size,0,none⟩ (.int .i64 (Xe ra)))):=hid (HV1.out.setCell lr _);have G3:Hid (ZP (V1.setCell ⟨W1.heap.size,0,none⟩ (.int .i64 (Xe ra))) W1.heap.size 3 [.int .i64 (Xe ra)]):=hid (G1.out.Zx 0 _);have hzq:W1.heap.size≤W1.heap.size:=Nat.le_refl _;go_simp;clear q0 qf G1 HV1;refine hK.out _ _ ⟨cb Z6 HV3.out 0,ct d4 HV3.out hgl1,cb C2w HV3.out 0⟩ (fun HD=> ?_);clear hK K;(try simp only [pp])
   refine wpAnyH_done (by kernel_rfl) ?_ _
   clear HD;exact key W1.heap.size _ ⟨G3,HV3,hzq⟩
 ·rintro q V ⟨HG,HBV,HZq⟩;unfold NoPanic;dsimp only;have HB2:Hid (Below w.heap.size w V):=hid (HB1.out.trans (HBV.out.mono hz1));have Q2:=bl Q1 HBV.out;have Z5v:=bl Z5 HBV.out;have Z6v:=bl Z6 HBV.out;have hq7:=Q2.out.lt;clear Q1 Z5 Z6 HBy d4 C2w;have g0:=ce HG 0;have q0:=ce Q2 0;have qf:=Q2.out.frozen 0
  cases ra with
  | none=>
   rw [show Xe (none:Option Nat)= -1 from rfl] at g0;have HF:Hid (∀ W,W=V.setCell ⟨w.heap.size+1+1,0,none⟩ (.int .i64 61)→WT none w base p gt B0 l0 l1 o (Vq o s n nm i) (.returned (.int .i64 61)) W):=hid (fun W h=>HNo.out 61 W (by decide) (by rw [h];exact HB2.out.setCell (by show _≤w.heap.size+1+1;omega) _))
   have qr:(V.setCell ⟨w.heap.size+1+1,0,none⟩ (.int .i64 61)).cell? ⟨w.heap.size+1+1,0,none⟩=some (.int .i64 61):=(Q2.out.Zx 0 _).cell 0;go_wp2;refine⟨.int .i64 61,?_,HF.out _ rfl⟩
   simp [results,Tryz.f214,go_sem,qr]
  | some k=>
   obtain⟨hk,_⟩:=Xa (show t.ZS.findIdx? (fun x=>x.name == nm)=some k from HRa.out);rw [show Xe (some k)=(k:Int) from rfl] at g0;have HG':Hid (ZP V q 3 [.int .i64 (k:Int)]):=HG;clear HG;have hk0: ¬ (k:Int)<0:=by omega
   have z0:=ce Z5v 0;have z1:=ce Z5v 1;have z3:=cd (C3.out.below HB2.out C3.out.lt) 0;have z4:=cd (C4.out.below HB2.out C4.out.lt) 0;obtain⟨rs,hrs,hro,hrr⟩:=HTab.out.ZS;dsimp only at hrs hro hrr;have hrsl:rs.length=t.ZS.length:=by rw [←hrs,List.length_map]
   obtain⟨gy,rfl⟩: ∃ gy,Y=some ⟨gy,0,none⟩:=by
    obtain⟨gy,cap,hv,_,_⟩:=hro.form (by omega);exact⟨gy,by injection hv⟩
   have hgy:=ZK hro;have hky:w.cell? ⟨gy,k*8+1,none⟩=some (.int .i64 rs[k].1.ZQ):=hgy.2.2.2.2 (k*8+1) _ (by rw [Zj Yv.k rs k 1 (by omega) (by omega)];rfl)
   have hrk:rs[k].1=t.ZS[k]:=by
    have h2:(rs.map (·.1))[k]?=t.ZS[k]?:=by rw [hrs]
    rw [List.getElem?_map,List.getElem?_eq_getElem (by omega),List.getElem?_eq_getElem hk] at h2;simpa using h2
   rw [hrk] at hky;have hgyl:gy<w.heap.size:=hgy.2.1;have HRs:=hid hrs;have HRo:=hid hro;have HRr2:=hid hrr;clear hrs hro hrr hgy hrk;go_wp2_with fail;refine(SO o B0 l0 (some ⟨gt,0,none⟩) l1 s n V).mono ?_
   rintro e w3 ⟨rfl,g1,g2,g3,hb3,hz3⟩;have HB3:=bt HB2 hb3;have Q3:=bl Q2 hb3;have Z63:=bl Z6v hb3;have GK3:=bl HG' hb3;have G1:=hid g1;have G2:=hid g2;have G3:=hid g3;have C23:=bl C2 HB3.out;clear g1 g2 g3 hb3 z0 z1 z3 z4 g0 q0 qf;generalize hzd:V.heap.size=z at*;have hz4:z+1+1<w3.heap.size:=by omega
   have hTb:ZV w3 (· < w3.heap.size) Zt (o.Z7.map Tb.da) (some ⟨gt,0,none⟩):=HIn.out.r.tb.later HB3.out;have hq3:=Q3.out.lt;have hk3:w3.cell? ⟨gy,k*8+1,none⟩=some (.int .i64 t.ZS[k].ZQ):=ct hky HB3.out hgyl;have d43:w3.cell? ⟨gt,i*5+4,none⟩=some (.slice (some ⟨gy,0,none⟩) t.ZS.length y):=ct hg4 HB3.out hgl;have hgyl3:gy<w3.heap.size:=by have:=HB3.out.size;omega
   have hgl3:gt<w3.heap.size:=by have:=HB3.out.size;omega
   obtain⟨kk,hkk⟩: ∃ kk,kk=t.ZS[k].ZQ:=⟨_,rfl⟩
   rw [←hkk] at hk3;have HKk:=hid hkk;clear hky;clear hzd hz3 hkk;go_wp2_with fail;have hi1:(0:Int)≤(k:Int):=by omega
   have hi2:(k:Int)< (t.ZS.length:Int):=by omega
   refine wpIn_wide.1 (wpIn_rangeFunc_ownH (F:=Fence.wide) (n:=6) rfl (by omega) (gf:=246) (lb:= #[.pointer (some ⟨z,0,none⟩),.pointer (some ⟨z+1,0,none⟩),.pointer (some ⟨z+1+1,0,none⟩)]) rfl trivial (enters_of Tryz.func246 (by kernel_rfl) rfl)
    (Up 4 o s n B0 l0 (some ⟨gt,0,none⟩) l1 w3.heap.size z (z+1) (z+1+1) w3 lr HO.out hTb G1.out G2.out G3.out (by omega) (by omega) (by omega)) (fun h k=>Pi.trans h k) (J1 lr) br (fun _=>rfl)
    (fun pre W=>(∀ x∈pre,¬ (x.2.1.key=nm∧kk=2))∧Below w3.heap.size w3 W)
    (fun c _ W=>(c= .ret∧Boxed W (w.heap.size+1+1) 45 (.int .i64 62))∧Below w.heap.size w W)
    (OwnFrom.and (ownFrom_pure _ _) (ownFrom_below lr lr))
    (fun c=>OwnFrom.and (OwnFrom.and (ownFrom_pure _ _) (Own.from (boxed_own _ _ _) _)) (ownFrom_below lr (by omega)))
    ⟨by simp,Below.refl _ _⟩
    (fun x a' W=> ∃ Bx,w3.heap.size≤Bx∧ZP W Bx 40 (Yv.cs x.2)∧a'= { tmps:= #[.agg #[.slice B0 o.Z4.length l0,.slice (some ⟨gt,0,none⟩) o.Z7.length l1],.pointer (some ⟨gt,i*5,none⟩),.pointer (some ⟨c2,0,none⟩),.pointer (some ⟨c3,0,none⟩),.pointer (some ⟨c4,0,none⟩),.pointer (some ⟨w.heap.size,0,none⟩),.pointer (some ⟨w.heap.size+1,0,none⟩),.pointer (some ⟨w.heap.size+1+1,0,none⟩),.pointer (some ⟨q,0,none⟩),undef,.pointer (some ⟨Bx,0,none⟩),.pointer (some ⟨gt,i*5,none⟩),.pointer (some ⟨gt,i*5,none⟩),.pointer (some ⟨gt,i*5+4,none⟩),.slice (some ⟨gy,0,none⟩) t.ZS.length y,.string (Z9 nm),.int .i64 (Xe (some k)),.int .i64 (k:Int),.bool false,.agg #[.slice B0 o.Z4.length l0,.slice (some ⟨gt,0,none⟩) o.Z7.length l1],.string (Z9 s),.string (Z9 n),.func (.func 246) #[] #[.pointer (some ⟨z,0,none⟩),.pointer (some ⟨z+1,0,none⟩),.pointer (some ⟨z+1+1,0,none⟩)],.agg (Za.cs x.1).toArray,.agg (Yv.cs x.2).toArray,undef,undef,undef,undef,undef,undef,undef,undef,undef,undef,undef,undef,undef,undef,undef,undef,undef,undef,undef,undef,undef,undef,undef,undef,undef,undef],defers:= []})
    (fun x a' _ X Y row hs hg hr=>by obtain⟨Bx,e1,e2,e3⟩:=hs;exact⟨Bx,e1,O8 e2 hg (fun r e=>(hr r e).2),e3⟩)
    ?assign ?body ?done ?stop)
   case assign=>
    rintro l pre x W K ⟨hp,hB⟩ hK;obtain⟨⟨t',X',xx,Y',yy⟩,r,V',v⟩:=x;dsimp only [TR.enc,Za.cs,Yv.cs,Tb.cs,Ru.cs];gi_wp2
    exact hK _ _ ((KeepsOthers.alloc _ _).from _) (Pi.alloc hB.size _) ⟨hp,hB.alloc hB.size _⟩ ⟨W.heap.size,hB.size,ZP.new W _ _,rfl⟩
   case body=>
    rintro l pre x a' W hl ⟨lr,hlr⟩ ⟨hp,hB⟩ ⟨Bx,hBx,bX,rfl⟩ hlt;obtain⟨⟨t',X',xx,Y',yy⟩,r,V',v⟩:=x;have x7:W.cell? ⟨Bx,7,none⟩=some (.string (Z9 r.key)):=bX.cell 7;have d2:=cd (C23.out.below hB C23.out.lt) 0;have d6:=cd (Z63.out.below hB Z63.out.lt) 0;have dg:W.cell? ⟨gt,i*5+4,none⟩=some (.slice (some ⟨gy,0,none⟩) t.ZS.length y):=ct d43 hB hgl3;have dq:=cd (GK3.out.below hB GK3.out.lt) 0;have dk:W.cell? ⟨gy,k*8+1,none⟩=some (.int .i64 kk):=ct hk3 hB hgyl3;have q0:W.drew.cell? ⟨w.heap.size+1+1,0,none⟩=some (.int .i64 0):=(Q3.out.below hB Q3.out.lt).drew.cell 0;have qf:W.drew.frozen? ⟨w.heap.size+1+1,0,none⟩=false:=(Q3.out.below hB Q3.out.lt).drew.frozen 0;have hSB:W.drew.cell? ⟨Bx,7,none⟩=some (.string (Z9 r.key))∧W.drew.cell? ⟨c2,0,none⟩=some (.string (Z9 nm))∧W.drew.cell? ⟨w.heap.size+1,0,none⟩=some (.pointer (some ⟨gt,i*5,none⟩))∧W.drew.cell? ⟨gt,i*5+4,none⟩=some (.slice (some ⟨gy,0,none⟩) t.ZS.length y)∧W.drew.cell? ⟨q,0,none⟩=some (.int .i64 (k:Int))∧W.drew.cell? ⟨gy,k*8+1,none⟩=some (.int .i64 kk):=⟨x7,d2,d6,dg,dq,dk⟩
    have hgo: ¬ (r.key=nm∧kk=2)→(∀ z∈pre ++ [(((t',X',xx,Y',yy),(r,V',v)):TR)],¬ (z.2.1.key=nm∧kk=2)):=by
     intro h z hz;rcases List.mem_append.1 hz with h1 | h1
     ·exact hp z h1
     ·rw [List.mem_singleton.1 h1];exact h
    have hBw:Below w.heap.size w W.drew:=(HB3.out.trans (hB.mono HB3.out.size)).drew;have hbx:Boxed (W.drew.setCell ⟨w.heap.size+1+1,0,none⟩ (.int .i64 62)) (w.heap.size+1+1) 45 (.int .i64 62):=by
     have h:=(Q3.out.below hB Q3.out.lt).drew.Zx 0 (.int .i64 62);simpa [ZP,Boxed] using h
    have hKp:Pi w3.heap.size W W.drew:=⟨br.drew,Nat.le_refl _,fun _ _ _ h=>h.drew⟩
    clear hp x7 d2 d6 dg dq dk;dsimp only [TR.enc,Za.cs,Yv.cs,Tb.cs,Ru.cs]
    cases e1:r.key == nm
    ·have hne: ¬ (r.key=nm∧kk=2):=fun h=>by simp [h.1] at e1
     refine wpIn_block (wpIn_seq (WM (S:=fun w'=>w'.cell? ⟨Bx,7,none⟩=some (.string (Z9 r.key))∧w'.cell? ⟨c2,0,none⟩=some (.string (Z9 nm))∧w'.cell? ⟨w.heap.size+1,0,none⟩=some (.pointer (some ⟨gt,i*5,none⟩))∧w'.cell? ⟨gt,i*5+4,none⟩=some (.slice (some ⟨gy,0,none⟩) t.ZS.length y)∧w'.cell? ⟨q,0,none⟩=some (.int .i64 (k:Int))∧w'.cell? ⟨gy,k*8+1,none⟩=some (.int .i64 kk)) (by kernel_rfl) (by kernel_rfl) (by rintro⟨a,w,h⟩;exact h) hSB (fun HD=> ?_)))
     (try simp only [pp]);refine tk 0 25 HD ?_;refine tk 1 26 HD ?_;refine tk 2 27 HD ?_;refine tb 3 28 (.bool false) HD ?_;refine tb 4 29 (.bool false) HD ?_;refine sk 5 30 HD ?_;refine sk 6 31 HD ?_;refine sk 7 32 HD ?_;refine sk 8 33 HD ?_;refine sk 9 34 HD ?_;refine sk 10 35 HD ?_;refine sk 11 36 HD ?_;refine sk 12 37 HD ?_;refine sk 13 38 HD ?_;refine tb 14 39 (.bool false) HD ?_;refine wpAnyH_done (by kernel_rfl) ?_ _
     clear HD;gi_wp2
     exact⟨(KeepsOthers.drew W).from _,hKp,fun _ _ _ _ _ _ _ _ h k1 k2=>hgo hne _ h ⟨k1,k2⟩,hB.drew⟩
    cases e2:kk == 2
    ·have hne: ¬ (r.key=nm∧kk=2):=fun h=>by simp [h.2] at e2
     refine wpIn_block (wpIn_seq (WM (S:=fun w'=>w'.cell? ⟨Bx,7,none⟩=some (.string (Z9 r.key))∧w'.cell? ⟨c2,0,none⟩=some (.string (Z9 nm))∧w'.cell? ⟨w.heap.size+1,0,none⟩=some (.pointer (some ⟨gt,i*5,none⟩))∧w'.cell? ⟨gt,i*5+4,none⟩=some (.slice (some ⟨gy,0,none⟩) t.ZS.length y)∧w'.cell? ⟨q,0,none⟩=some (.int .i64 (k:Int))∧w'.cell? ⟨gy,k*8+1,none⟩=some (.int .i64 kk)) (by kernel_rfl) (by kernel_rfl) (by rintro⟨a,w,h⟩;exact h) hSB (fun HD=> ?_)))
     (try simp only [pp]);refine tk 0 25 HD ?_;refine tk 1 26 HD ?_;refine tk 2 27 HD ?_;refine tb 3 28 (.bool true) HD ?_;refine tb 4 29 (.bool true) HD ?_;refine tk 5 30 HD ?_;refine tk 6 31 HD ?_;refine tk 7 32 HD ?_;refine tk 8 33 HD ?_;refine tk 9 34 HD ?_;refine tk 10 35 HD ?_;refine tk 11 36 HD ?_;refine tk 12 37 HD ?_;refine tb 13 38 (.bool false) HD ?_;refine tb 14 39 (.bool false) HD ?_;refine wpAnyH_done (by kernel_rfl) ?_ _
     clear HD;gi_wp2
     exact⟨(KeepsOthers.drew W).from _,hKp,fun _ _ _ _ _ _ _ _ h k1 k2=>hgo hne _ h ⟨k1,k2⟩,hB.drew⟩
    refine wpIn_block (wpIn_seq (WM (S:=fun w'=>w'.cell? ⟨Bx,7,none⟩=some (.string (Z9 r.key))∧w'.cell? ⟨c2,0,none⟩=some (.string (Z9 nm))∧w'.cell? ⟨w.heap.size+1,0,none⟩=some (.pointer (some ⟨gt,i*5,none⟩))∧w'.cell? ⟨gt,i*5+4,none⟩=some (.slice (some ⟨gy,0,none⟩) t.ZS.length y)∧w'.cell? ⟨q,0,none⟩=some (.int .i64 (k:Int))∧w'.cell? ⟨gy,k*8+1,none⟩=some (.int .i64 kk)) (by kernel_rfl) (by kernel_rfl) (by rintro⟨a,w,h⟩;exact h) hSB (fun HD=> ?_)))
    (try simp only [pp]);refine tk 0 25 HD ?_;refine tk 1 26 HD ?_;refine tk 2 27 HD ?_;refine tb 3 28 (.bool true) HD ?_;refine tb 4 29 (.bool true) HD ?_;refine tk 5 30 HD ?_;refine tk 6 31 HD ?_;refine tk 7 32 HD ?_;refine tk 8 33 HD ?_;refine tk 9 34 HD ?_;refine tk 10 35 HD ?_;refine tk 11 36 HD ?_;refine tk 12 37 HD ?_;refine tb 13 38 (.bool true) HD ?_;refine tb 14 39 (.bool true) HD ?_;refine wpAnyH_done (by kernel_rfl) ?_ _
    clear HD;gi_wp2
    exact⟨((KeepsOthers.drew W).trans (KeepsOthers.setCell _ _ _)).from _,⟨rfl,hbx⟩,hBw.setCell (p:=⟨w.heap.size+1+1,0,none⟩) (by show _≤w.heap.size+1+1;omega) _⟩
   case done=>
    rintro D ys W hD hys ⟨hp,hB⟩ hK;have hBw:Below w.heap.size w W:=HB3.out.trans (hB.mono HB3.out.size);have HBw:=hid hBw;have HKd:=hid hK;have HAll:Hid (kk=2→ ∀ x∈VY o s n,x.2.key≠nm):=hid (by
     intro h2;rw [←hys];intro x hx;obtain⟨y,hy,rfl⟩:=List.mem_map.1 hx;exact fun h=>hp y hy ⟨h,h2⟩)
    have Q4:=bl Q3 hB;have Z64:=bl Z63 hB;have GK4:=bl GK3 hB;have d44:W.cell? ⟨gt,i*5+4,none⟩=some (.slice (some ⟨gy,0,none⟩) t.ZS.length y):=ct d43 hB hgl3;have hwr:IntKind.i64.wrap ((k:Int)+1)=(k:Int)+1:=by simp [IntKind.wrap,IntKind.bits,IntKind.signed];omega
    have O4:=hid ((HRo.out.Yn hlob).Zw hBw);have hgt4:Zc W gt 73:=HGt.out.Tt (hBw.block gt hgl);have hgf4:W.frozen? ⟨gt,i*5+4,none⟩=false:=(hBw.frozen (p:=⟨gt,i*5+4,none⟩) hgl).trans (HGf.out _);have hDW:D<W.heap.size:=(Array.getElem?_eq_some_iff.1 hK).1;have hSz:W.drew.cell? ⟨w.heap.size+1,0,none⟩=some (.pointer (some ⟨gt,i*5,none⟩))∧W.drew.cell? ⟨gt,i*5+4,none⟩=some (.slice (some ⟨gy,0,none⟩) t.ZS.length y)∧W.drew.cell? ⟨q,0,none⟩=some (.int .i64 (k:Int)):=⟨Z64.out.drew.cell 0,d44,GK4.out.drew.cell 0⟩
    clear hys hp hBw hB hK;dsimp only;go_wp2_with fail;refine wp_region_noPanic ?_
    refine Zy 11 (S:=fun w'=>w'.cell? ⟨w.heap.size+1,0,none⟩=some (.pointer (some ⟨gt,i*5,none⟩))∧w'.cell? ⟨gt,i*5+4,none⟩=some (.slice (some ⟨gy,0,none⟩) t.ZS.length y)∧w'.cell? ⟨q,0,none⟩=some (.int .i64 (k:Int))) (by kernel_rfl) hSz (fun HD'=> ?_)
    (try simp only [pp]);refine Y9 0 40 HD' ?_;refine Y9 1 41 HD' ?_;refine Y9 2 42 HD' ?_;refine Y9 3 43 HD' ?_;refine Y9 4 44 HD' ?_;refine Y9 5 45 HD' ?_;refine Y9 6 46 HD' ?_;refine Y9 7 47 HD' ?_;refine Re 8 48 fun K hK=> ?_
    go_simp;have cD:=OX base rs (some ⟨gy,0,none⟩) y k W.drew (by rw [hrsl];exact O4.out.Zw br.drew) (by omega) (by omega);rw [hrsl] at cD;refine cD.mono ?_
    rintro e V1 ⟨rfl,hoV,hbV,hkV,hfV⟩;have HOV:=hid hoV;have HBV1:Hid (Below base w V1):=hid ((HBw.out.mono hbz).trans (br.drew.trans hbV));have HKV:Hid (ZR [40] W V1):=hid ((ZR.drew W).trans hkV);have HFV:Hid (Wh W.drew V1 (.slice (some ⟨gy,0,none⟩) t.ZS.length y)):=hid hfV;have hne:(Value.slice (some ⟨gy,0,none⟩) t.ZS.length y).ownBlock≠some D:=fun e=>by
     injection e with e'
     have e2:gy=D:=e';omega
    have HDV:Hid (V1.heap[D]?=some (.deferred (some []))):=hid ((hfV.block D hDW hne).trans HKd.out);have QV:=hid (Q4.out.keeps HKV.out (by decide));have Z6V:=hid (Z64.out.keeps HKV.out (by decide));have GKV:=hid (GK4.out.keeps HKV.out (by decide));have hbk:V1.heap[gt]?=W.heap[gt]?:=HKV.out.block gt _ hgt4 (by decide);have e4:V1.cell? ⟨gt,i*5+4,none⟩=some (.slice (some ⟨gy,0,none⟩) t.ZS.length y):=(World.cell?_of_block (w:=W) hbk).trans d44;have f4:V1.frozen? ⟨gt,i*5+4,none⟩=false:=(World.frozen?_of_block (w:=W) hbk).trans hgf4;have HGtV:Hid (Zc V1 gt 73):=hid (hgt4.Tt hbk);have HDg:V1.cell? ⟨w.heap.size+1,0,none⟩=some (.pointer (some ⟨gt,i*5,none⟩))∧V1.cell? ⟨gt,i*5+4,none⟩=some (.slice (some ⟨gy,0,none⟩) t.ZS.length y)∧V1.cell? ⟨q,0,none⟩=some (.int .i64 (k:Int)):=⟨Z6V.out.cell 0,e4,GKV.out.cell 0⟩
    clear hoV hbV hkV hfV cD hbk;refine hK.out _ _ HDg ?_
    clear hK K;(try simp only [pp])
    clear HD';have HD':=HDg;refine U7 9 49 (fun _=>HD') ?_;refine U7 10 50 (fun _=>HD') ?_;refine ZC.Xo (i:=11) (o:=⟨none,_,_,_,_,_⟩) (by kernel_rfl) (by kernel_rfl) rfl (fun K hK=> ?_)
    go_simp;refine hK.out _ _ (ZC.done (by kernel_rfl) ?_ _);clear hK K HD' HDg;unfold NoPanic;dsimp only;refine Sk _ fun V2 hV=> ?_
    have hpD:gt≠D:=by omega
    have hqD:w.heap.size+1+1≠D:=by omega
    have hqg:w.heap.size+1+1≠gt:=by omega
    have HK2:Hid (ZR [73] V1 V2):=hid (by rw [hV];exact ZR.Zx HGtV.out (by simp) _);have Q5:Hid (ZP V2 (w.heap.size+1+1) 45 [.int .i64 0]):=hid (by rw [hV];exact QV.out.Wx (by show _≠gt;omega) _)
    have HD5:Hid (V2.heap[D]?=some (.deferred (some []))):=hid (by rw [hV];exact((Below.heap_setCell V1 ⟨gt,i*5+4,none⟩ _ D (fun e=>hpD e.symm))).trans HDV.out);have HB5:Hid (Below base w V2):=hid (by rw [hV];exact HBV1.out.setCell hgb _);have hrowV:=(HIn.out.Z7.Zw HBw.out).keeps HKV.out (by decide);have hel:(t.ZS.eraseIdx k).length=t.ZS.length - 1:=List.length_eraseIdx_of_lt hk;have HRow2:Hid (V2.ownsRow base 73 5 (.slice (some ⟨gt,0,none⟩) o.Z7.length l1) o.Z7.length ((ts.set i (({ t with ZS:=t.ZS.eraseIdx k},X,x,some ⟨gy,0,none⟩,y):Za)).flatMap Za.cs)):=hid (by
     rw [hV];exact HPut.out V1 hrowV 4 (by omega) _ _ (by simp [Za.cs,Tb.cs,hel]))
    have HU2:Hid (Yz w V2 gt (b i) (b (i+1)) [40] none):=hid (by
     rw [hV];have h1:Yz w W.drew gt (b i) (b (i+1)) [40] none:=Yz.Zp HBw.out.drew;exact(h1.trans (Yz.Wx ((HRo.out.Zw HBw.out).Zw br.drew) HFV.out (by simp) fun k' hk'=>⟨Zu HRo.out k' hk',HTab.out.Qy k' hk'⟩)).trans (Yz.Zx _))
    clear hV hrowV;have q5:=ce Q5 0;have g5:=Q5.out.frozen 0;have HD6:(V2.setCell ⟨w.heap.size+1+1,0,none⟩ (.int .i64 0)).heap[D]?=some (.deferred (some [])):=(Below.heap_setCell V2 ⟨w.heap.size+1+1,0,none⟩ _ D (fun e=>hqD e.symm)).trans HD5.out;have Q6:Hid (ZP (V2.setCell ⟨w.heap.size+1+1,0,none⟩ (.int .i64 0)) (w.heap.size+1+1) 45 [.int .i64 0]):=hid (Q5.out.Zx 0 _);have HK6:Hid (ZR [45] V2 (V2.setCell ⟨w.heap.size+1+1,0,none⟩ (.int .i64 0))):=hid (ZR.Zx Q5.out.Xr (by simp) _);have HB6:Hid (Below base w (V2.setCell ⟨w.heap.size+1+1,0,none⟩ (.int .i64 0))):=hid (HB5.out.setCell (by show base≤w.heap.size+1+1;omega) _)
    go_wp2;refine⟨by simp,.inl ⟨_,_,rfl,run_takeDeferred HD6,?_⟩⟩
    have hc5:=cell_kept (show (V2.setCell ⟨w.heap.size+1+1,0,none⟩ (.int .i64 0)).cell? ⟨w.heap.size+1+1,0,none⟩=some (.int .i64 0) from Q6.out.cell 0) (grownBy_putObj' _ D (.deferred none)) (fun r e=>by cases e;exact⟨_,HD6,rfl⟩);refine⟨.int .i64 0,?_,?_⟩
    ·simp [results,Tryz.f214,go_sem,hc5]
    ·have hK7:ZR [] (V2.setCell ⟨w.heap.size+1+1,0,none⟩ (.int .i64 0)) ((V2.setCell ⟨w.heap.size+1+1,0,none⟩ (.int .i64 0)).putObj D (.deferred none)):=Tw HD6 rfl;have hKw:ZR [40,73,45] w ((V2.setCell ⟨w.heap.size+1+1,0,none⟩ (.int .i64 0)).putObj D (.deferred none)):=((((ZR.Zp HBw.out lr).trans (HKV.out.Ya (by simp))).trans (HK2.out.Ya (by simp))).trans (HK6.out.Ya (by simp))).trans (hK7.Ya (by simp));have hK1:ZR [73,45] V1 ((V2.setCell ⟨w.heap.size+1+1,0,none⟩ (.int .i64 0)).putObj D (.deferred none)):=((HK2.out.Ya (by simp)).trans (HK6.out.Ya (by simp))).trans (hK7.Ya (by simp));have hd: ∀ t,t∈ [9]→t∉ [40,73,45]:=by decide
     have hsz:(V2.setCell ⟨w.heap.size+1+1,0,none⟩ (.int .i64 0)).heap.size=V2.heap.size:=by simp [World.setCell]
     have hDz:w.heap.size≤D:=by omega
     refine VE (us:= [40]) (t':=({ t with ZS:=t.ZS.eraseIdx k},X,x,some ⟨gy,0,none⟩,y)) HIn.out hi' HP.out
      (HU2.out.post (Nat.le_trans (Nat.le_of_eq hsz.symm) hK7.size) (fun j hj=> ?_)) (by decide) (by decide) (by simp) hpb ((HRow2.out.keeps HK6.out (by decide)).keeps hK7 (by decide))
      (UN HTab.out hKw (by decide) hlob ⟨rs.eraseIdx k,by rw [Uc,HRs.out],by rw [hel];exact HOV.out.keeps hK1 (by decide),fun r hr=> ?_⟩) ((HB6.out.trans (belowK_b (w:=w) hbz _ D _ _ hDz HD6 rfl rfl)).x _) (HRr.out _ k (by rw [←HTi.out];exact HRa.out) ?_ (by rw [←HTi.out]))
     ·have h1:j≠D:=by omega
      have h2:j≠w.heap.size+1+1:=by omega
      rw [World.putObj_heap_other h1];exact Below.heap_setCell V2 ⟨w.heap.size+1+1,0,none⟩ _ j h2
     ·obtain⟨h1,h2⟩:=HRr2.out r (List.mem_of_mem_eraseIdx hr);exact⟨h1.Y6 (fun k hk=>((hk.1.keeps hKw hd).1).mono hlob (fun _ h=>h)) (fun _ hp=>World.cell?_of_block (hp.1.keeps hKw hd).2),h2⟩
     ·intro hkl h2;refine HAll.out ?_
      rw [←h2,HKk.out];simp only [←HTi.out]
   case stop=>
    rintro D c pre W hD _ ⟨⟨rfl,hbx⟩,hB⟩ hK;gi_wp2
    refine⟨by simp,.inl ⟨_,_,rfl,run_takeDeferred hK,?_⟩⟩
    have hc5:=cell_kept hbx.cell (grownBy_putObj' _ D (.deferred none)) (fun r e=>by cases e;exact⟨_,hK,rfl⟩);refine⟨.int .i64 62,?_,?_⟩
    ·simp [results,Tryz.f214,go_sem,hc5]
    ·exact HNo.out 62 _ (by decide) (hB.trans (belowK_b (w:=w) lr W D _ _ (by omega) hK rfl rfl))
theorem PF (o:Ob)(A0:Option Addr)(k0:Nat)(A1:Option Addr)(k1:Nat)(s n nm:List UInt8)(w:World)(hO:Pg w o A0 A1)(ho:o.Zv 1099511627776):
  Calls Tryz.prog 144 #[.agg #[.slice A0 o.Z4.length k0,.slice A1 o.Z7.length k1],.string (Z9 s),.string (Z9 n),.string (Z9 nm)] w (KP o (RT o s n (Vq o s n nm)) w):=by
 have HOb:=hid hO;have HO:=hid ho;have HI:=iN 26 2;clear hO ho;go_enter Tryz.func144,Tryz.ntmps144
 go_wp2_with fail;refine Zm _ fun W hW=> ?_
 have HB1:Hid (Below w.heap.size w W):=hid (by rw [hW];exact(((((br.alloc lr _).alloc (by simp) _).alloc (by simp;omega) _).alloc (by simp;omega) _).alloc (by simp;omega) _));have q0:ZP W (w.heap.size) 26 [.slice A0 o.Z4.length k0,.slice A1 o.Z7.length k1]:=by rw [hW];exact(ZP.alloc (ZP.alloc (ZP.alloc (ZP.alloc (ZP.new w 26 [.slice A0 o.Z4.length k0,.slice A1 o.Z7.length k1]) _) _) _) _)
 have q1:ZP W (w.heap.size+1) 9 [.string (Z9 s)]:=by rw [hW];exact(ZP.alloc (ZP.alloc (ZP.alloc (by simpa using ZP.new (w.alloc (.cells #[.slice A0 o.Z4.length k0,.slice A1 o.Z7.length k1] 26)) 9 [.string (Z9 s)]) _) _) _)
 have q2:ZP W (w.heap.size+1+1) 9 [.string (Z9 n)]:=by rw [hW];exact(ZP.alloc (ZP.alloc (by simpa using ZP.new ((w.alloc (.cells #[.slice A0 o.Z4.length k0,.slice A1 o.Z7.length k1] 26)).alloc (.cells #[.string (Z9 s)] 9)) 9 [.string (Z9 n)]) _) _)
 have q3:ZP W (w.heap.size+1+1+1) 9 [.string (Z9 nm)]:=by rw [hW];exact(ZP.alloc (by simpa using ZP.new (((w.alloc (.cells #[.slice A0 o.Z4.length k0,.slice A1 o.Z7.length k1] 26)).alloc (.cells #[.string (Z9 s)] 9)).alloc (.cells #[.string (Z9 n)] 9)) 9 [.string (Z9 nm)]) _)
 have q4:ZP W (w.heap.size+1+1+1+1) 26 [.slice none 0 0,.slice none 0 0]:=by rw [hW];exact(by simpa using ZP.new ((((w.alloc (.cells #[.slice A0 o.Z4.length k0,.slice A1 o.Z7.length k1] 26)).alloc (.cells #[.string (Z9 s)] 9)).alloc (.cells #[.string (Z9 n)] 9)).alloc (.cells #[.string (Z9 nm)] 9)) 26 [.slice none 0 0,.slice none 0 0])
 clear hW;have Q:=hid q4;have hql:=q4.lt;refine(Vw none 214 _ (Vq o s n nm) o s n A0 k0 A1 k1 W (enters_of Tryz.func214 (by kernel_rfl) rfl) (HOb.out.later HB1.out) HO.out (OV o s n nm _ _ _ W HO.out q3 q1 q2) (by simp)).mono ?_
 rintro e W2 ⟨er,o',C0,m0,C1,m1,rfl,hR,hOb,hb⟩;have HB2:Hid (Below w.heap.size w W2):=hid (HB1.out.trans (hb.low HB1.out.size (by simp)));have Q2:=hid (hb.X8 Q.out Q.out.lt (by simp));have HR:=hid hR;have HOb2:=hid hOb;clear hb hR hOb HB1 Q q0 q1 q2 q3 q4;go_wp2_with (first | ((refine sO Q2 HI ?_);intro wS HS) | fail);refine bodyPost_ret (rt (hid HS.out.X8) Tryz.underlying26 HI) rfl ?_
 exact⟨er,o',C0,m0,C1,m1,rfl,HR.out,HOb2.out.keeps HS.out.keeps (by decide),HS.out.below HB2.out (by omega)⟩
end Go.Proofs.YtnhmoibjlakhjaaGreat
