/- Lemmas of the proof. No condition but each theorem's own. -/
import Derived.Test.YtnhmoibjlakhjaaGreatR35
import Derived.Test.YtnhmoibjlakhjaaGreatR10
set_option linter.unusedVariables false
set_option linter.unusedSimpArgs false
namespace Go.Proofs.YtnhmoibjlakhjaaGreat
open Lib (hid)
set_option maxRecDepth 100000
set_option maxHeartbeats 16000000
open Go.RowKit
theorem Kw (p:Gr→Bool)(g:Nat)(lb:Array Value)(l:List Gr)(A:Option Addr)(c:Nat)(w:World)(eg: ∀ args w,(callFunc g args).run Tryz.prog w= .ok (.enter g args) w)(hA:Ze w w.heap.size A Gr.cs l)(hn:l.length≤1099511627776)
  (hp: ∀ W x,Below w.heap.size w W→x∈l→Calls Tryz.prog g (#[(.agg #[.string (Z9 x.Z8),.string (Z9 x.ZY),.int .i64 x.right,.string (Z9 x.ZN),.string (Z9 x.to),.bool x.Zz])] ++lb) W fun e w'=>e= .returned (.bool (p x))∧Below W.heap.size W w'):
  Calls Tryz.prog 156 #[.slice A l.length c,.func (.func g) #[] lb] w fun e w'=>e= .returned (.int .i64 (Zi p l 0))∧Below w.heap.size w w':=by
 have HA:=hid hA;have HP:=hid hp;have HI:=iN 53 6;clear hA hp;go_enter Tryz.func156,Tryz.ntmps156
 go_wp2;go_loopw [8] (fun i wr=> ∃ j:Nat,j≤l.length∧i= .int .i64 j∧Hid (Below w.heap.size w wr)∧Hid (Zi p l 0=Zi p (l.drop j) j)) (fun i _=>l.length - (intOf i).toNat)
 case atStart=>exact⟨0,Nat.zero_le _,rfl,hid br,hid (by rw [List.drop_zero])⟩
 case round=>
  obtain⟨j,hj,rfl,HBw,HE⟩:=hrel;by_cases hlt:j<l.length
  ·obtain⟨ad,rfl,hB,hread⟩:=(HA.out.later HBw.out) (by omega);have HX:Hid (Zi p l 0=if p l[j]=true then(j:Int) else Zi p (l.drop (j+1)) (j+1)):=hid (HE.out.trans (Xx hlt));have HC:=hid (HP.out wr l[j] HBw.out (List.getElem_mem hlt));have HG:Hid (∀ i u,[.string (Z9 l[j].Z8),.string (Z9 l[j].ZY),.int .i64 l[j].right,.string (Z9 l[j].ZN),.string (Z9 l[j].to),.bool l[j].Zz][i]?=some u→wr.cell? ((ad.add (j*6)).add i)=some u):=hid fun i u hu=>by
    rw [ZG];exact hread (j*6+i) u (by rw [Zj Gr.k l j i hlt ((List.getElem?_eq_some_iff.1 hu).1)];exact hu)
   clear hread hB;generalize l[j]=x at*;have HL:Hid ((Tryz.prog.info? 53).map (·.size)=some ([.string (Z9 x.Z8),.string (Z9 x.ZY),.int .i64 x.right,.string (Z9 x.ZN),.string (Z9 x.to),.bool x.Zz]:List Value).length):=hid HI.out
   cases hq:p x
   ·rw [hq] at HX HC;have HX':Hid (Zi p l 0=Zi p (l.drop (j+1)) (j+1)):=hid HX.out;clear HX hq;go_wp2_with (first | (with_reducible refine ZI rfl 53 _ rfl (ad.add (j*6)) rfl _ _ HG.out Tryz.underlying53 rfl HL.out ?_) | (go_at_fn g;refine HC.out.mono ?_;rintro e w2 ⟨rfl,hb⟩) | fail);have HB2:=bt HBw hb;go_roundw
    case rel=>exact⟨j+1,by omega,by go_num,HB2,HX'⟩
    case measure=>simp [intOf];omega
   ·rw [hq] at HX HC;have HX':Hid (Zi p l 0=(j:Int)):=hid HX.out;clear HX hq;go_wp2_with (first | (with_reducible refine ZI rfl 53 _ rfl (ad.add (j*6)) rfl _ _ HG.out Tryz.underlying53 rfl HL.out ?_) | (go_at_fn g;refine HC.out.mono ?_;rintro e w2 ⟨rfl,hb⟩) | fail);go_ret;exact⟨by rw [HX'.out];rfl,HBw.out.trans (hb.mono HBw.out.size)⟩
  ·obtain rfl:j=l.length:=by omega
   rw [List.drop_length] at HE;go_wp2;go_ret;exact⟨by rw [HE.out];rfl,HBw.out⟩
theorem MW (p:Gr→Bool)(g:Nat)(lb:Array Value)(base:Nat)(l:List Gr)(A:Option Addr)(c:Nat)(w:World)(eg: ∀ args w,(callFunc g args).run Tryz.prog w= .ok (.enter g args) w)(h:w.ownsRow base 53 6 (.slice A l.length c) l.length (l.flatMap Gr.cs))(hn:l.length≤1099511627776)(hbase:base≤w.heap.size)
  (hp: ∀ W x,Below base w W→x∈l→Calls Tryz.prog g (#[(.agg #[.string (Z9 x.Z8),.string (Z9 x.ZY),.int .i64 x.right,.string (Z9 x.ZN),.string (Z9 x.to),.bool x.Zz])] ++lb) W fun e w'=>e= .returned (.bool (p x))∧Below W.heap.size W w'):
  Calls Tryz.prog 125 #[.slice A l.length c,.func (.func g) #[] lb] w (Jt base 53 6 Gr.cs l (fun x=> !p x) A c w):=by
 have HO:=hid h;have HP:=hid hp;have HI6:=iN 53 6;have HI:=hid (Kw p g lb l A c w eg (XA h rfl) hn fun W x hW hx=>hp W x (hW.mono hbase) hx);clear h hp;go_enter Tryz.func125,Tryz.ntmps125
 go_wp2_with fail;refine HI.out.mono ?_
 rintro e w1 ⟨rfl,hb1⟩;have HB1:=hid hb1;clear hb1 HI;by_cases hi:Zi p l 0= -1
 ·have HF:=hid (Qv p l hi);have hi':(Zi p l 0 == -1)=true:=by rw [hi];rfl
  go_wp2;go_ret;refine⟨l.length,rfl,by rw [HF.out],?_,HB1.out.mono hbase⟩
  rw [HF.out];exact HO.out.Zw HB1.out
 obtain⟨i0,hi0,hix,hft⟩:=Qu p l hi;have HFt:=hid hft;have hi':((i0:Int) == -1)=false:=by simp <;> omega
 have hi2: ¬ (i0:Int)= -1:=by omega
 have hwi:IntKind.i64.wrap ((i0:Int)+1)=(i0:Int)+1:=by simp [IntKind.wrap,IntKind.bits,IntKind.signed];omega
 rw [hix];clear hi hix hft;obtain⟨gb,rfl⟩: ∃ gb,A=some ⟨gb,0,none⟩:=by
  obtain⟨gb,cap,hv,_,_⟩:=HO.out.form (by omega);exact⟨gb,by injection hv⟩
 obtain⟨hc1,hc2⟩:=YR HO.out;obtain⟨hgb,_,_,_,_⟩:=ZK HO.out;have HJ0:Hid (Pk base 53 6 Gr.cs l (fun x=> !p x) (some ⟨gb,0,none⟩) c i0 (i0+1) w1):=hid ⟨l,rfl,HO.out.Zw HB1.out,HFt.out,rfl⟩;have HB0:Hid (Below base w w1):=hid (HB1.out.mono hbase);have hbz:base≤w1.heap.size:=Nat.le_trans hbase HB1.out.size;clear HB1 HFt HO;go_wp2;go_loopw [5,6] (fun aa i wr=> ∃ a j:Nat,a+1≤j∧j≤l.length∧aa= .int .i64 a∧i= .int .i64 j∧Hid (Pk base 53 6 Gr.cs l (fun x=> !p x) (some ⟨gb,0,none⟩) c a j wr)∧Hid (Below base w wr)) (fun _ i _=>l.length - (intOf i).toNat)
 case atStart=>exact⟨i0,i0+1,by omega,by omega,rfl,by(try go_num),HJ0,HB0⟩
 case round=>
  clear HJ0 HB0 hi' hi2 hwi;obtain⟨a,j,haj,hj,rfl,rfl,HJ,HB⟩:=hrel;obtain⟨l',hl',ho,ht,hd⟩:=HJ.out;have HOr:=hid ho;have HT:=hid ht;have HD:=hid hd;obtain⟨_,hgl,_,hfz,hcell⟩:=ZK ho;clear ho ht hd;have hbr:base≤wr.heap.size:=Nat.le_trans hbase HB.out.size;by_cases hlt:j<l.length
  ·have e1:(j:Int)< (l.length:Int):=by omega
   have e2:(a:Int)< (l.length:Int):=by omega
   have hwa:IntKind.i64.wrap ((a:Int)+1)=(a:Int)+1:=by simp [IntKind.wrap,IntKind.bits,IntKind.signed];omega
   have hwj:IntKind.i64.wrap ((j:Int)+1)=(j:Int)+1:=by simp [IntKind.wrap,IntKind.bits,IntKind.signed];omega
   have hjl:j<l'.length:=by omega
   have hal:a<l'.length:=by omega
   have HG:Hid (∀ i u,[.string (Z9 l[j].Z8),.string (Z9 l[j].ZY),.int .i64 l[j].right,.string (Z9 l[j].ZN),.string (Z9 l[j].to),.bool l[j].Zz][i]?=some u→wr.cell? ((⟨gb,j*6,none⟩:Addr).add i)=some u):=hid fun i u hu=>by
    rw [Addr.add_mid];exact hcell (j*6+i) u (by rw [Zj Gr.k l' j i hjl ((List.getElem?_eq_some_iff.1 hu).1),MY hlt hl' HD.out];exact hu)
   have HC:=hid (fun W (h:Below base w W)=>HP.out W l[j] h (List.getElem_mem hlt));have HK:=hid (fun hq=>QG (q:=fun x=> !p x) hlt hl' (by omega:a≤j) HT.out HD.out hq);have HS:=hid (fun hq=>QD (q:=fun x=> !p x) hlt HT.out HD.out hq);clear hcell hfz;generalize l[j]=x at*;have HL:Hid ((Tryz.prog.info? 53).map (·.size)=some ([.string (Z9 x.Z8),.string (Z9 x.ZY),.int .i64 x.right,.string (Z9 x.ZN),.string (Z9 x.to),.bool x.Zz]:List Value).length):=hid HI6.out;have HBa:Hid (Below wr.heap.size wr (wr.alloc (.cells #[.string (Z9 x.Z8),.string (Z9 x.ZY),.int .i64 x.right,.string (Z9 x.ZN),.string (Z9 x.to),.bool x.Zz] 53))):=hid (br.alloc lr _);have V0:Hid (ZP (wr.alloc (.cells #[.string (Z9 x.Z8),.string (Z9 x.ZY),.int .i64 x.right,.string (Z9 x.ZN),.string (Z9 x.to),.bool x.Zz] 53)) wr.heap.size 53 [.string (Z9 x.Z8),.string (Z9 x.ZY),.int .i64 x.right,.string (Z9 x.ZN),.string (Z9 x.to),.bool x.Zz]):=hid (ZP.new wr _ _);have HC':=hid (HC.out _ (HB.out.trans (HBa.out.mono hbr)));clear HC
   cases hq:p x
   ·rw [hq] at HC';obtain⟨ht2,hd2⟩:=HK.out (by simp [hq]);have HT2:=hid ht2;have HD2:=hid hd2;clear hq HS HK HT HD ht2 hd2;go_wp2_with (first | (with_reducible refine ZI rfl 53 _ rfl ⟨gb,j*6,none⟩ rfl _ _ HG.out Tryz.underlying53 rfl HL.out ?_) | fail);refine HC'.out.mono ?_
    rintro e w2 ⟨rfl,hb⟩;have hb':=HBa.out.trans (hb.mono HBa.out.size);have HO2:=hid (HOr.out.Zw hb');have HB2:=hid (HB.out.trans (hb'.mono hbr));have V2:=bl V0 hb;clear hb hb' HBa V0 HC' HOr HB HJ HG;go_wp2_with (first | (refine lO V2 HI6 Tryz.underlying53 ?_) | ((with_reducible refine VL rfl 53 _ _ rfl Gr.k gb a x rfl rfl HO2 hl' hal HI6 (Gr.one x) ?_);intro wS HS HOS) | fail);have HJ3:Hid (Pk base 53 6 Gr.cs l (fun x=> !p x) (some ⟨gb,0,none⟩) c (a+1) (j+1) wS):=hid ⟨_,by rw [List.length_set];exact hl',HOS.out,HT2.out,HD2.out⟩;have HB3:Hid (Below base w wS):=hid (HB2.out.trans (HS.out.SR.mono hgb));clear HS HOS HT2 HD2 HO2 HB2 V2;go_roundw
    case rel=>exact⟨a+1,j+1,by omega,by omega,by(try go_num),by(try go_num),HJ3,HB3⟩
    case measure=>simp [intOf];omega
   ·rw [hq] at HC';obtain⟨ht2,hd2⟩:=HS.out (by simp [hq]);have HT2:=hid ht2;have HD2:=hid hd2;clear hq HS HK HT HD ht2 hd2;go_wp2_with (first | (with_reducible refine ZI rfl 53 _ rfl ⟨gb,j*6,none⟩ rfl _ _ HG.out Tryz.underlying53 rfl HL.out ?_) | fail);refine HC'.out.mono ?_
    rintro e w2 ⟨rfl,hb⟩;have hb':=HBa.out.trans (hb.mono HBa.out.size);have HJ3:Hid (Pk base 53 6 Gr.cs l (fun x=> !p x) (some ⟨gb,0,none⟩) c a (j+1) w2):=hid ⟨l',hl',HOr.out.Zw hb',HT2.out,HD2.out⟩;have HB3:=hid (HB.out.trans (hb'.mono hbr));clear hb hb' HT2 HD2 HC' HOr HB HJ HG HBa V0;go_wp2;go_roundw
    case rel=>exact⟨a,j+1,by omega,by omega,rfl,by(try go_num),HJ3,HB3⟩
    case measure=>simp [intOf];omega
  ·obtain rfl:j=l.length:=by omega
   rw [List.take_length] at HT;have hal:a≤l'.length:=by omega
   have hlen:a=(l.filter fun x=> !p x).length:=by rw [←HT.out,List.length_take,Nat.min_eq_left hal]
   have HLn:=hid hlen;clear hlen;have HA1:=hid (WC HOr.out (show a≤l.length by omega));have HFl:Hid ((l'.flatMap Gr.cs).take (a*6)=(l.filter fun x=> !p x).flatMap Gr.cs):=hid (by rw [←XF Gr.k,HT.out]);obtain⟨Z,hZl,hclr⟩:=Zd wr 31 53 0 (.agg #[.string ⟨#[]⟩,.string ⟨#[]⟩,.int .i64 0,.string ⟨#[]⟩,.string ⟨#[]⟩,.bool false]) Tryz.underlying31 (fun w=>by kernel_rfl) rfl (by decide) (by simp [Value.cells,Value.oneCell']) (size:=6) gb (a*6) (l.length - a) (c - a) (by omega) (Zg HOr.out _ _ (by rw [←Nat.add_mul];exact Nat.mul_le_mul_right _ (by omega)));have e1: ¬ (l.length:Int)< (l.length:Int):=by omega
   have f1:(a:Int)≤(l.length:Int):=by omega
   have f2:(a:Int)≤(c:Int):=by omega
   have f3:((l.length:Int) - (a:Int)).toNat=l.length - a:=by omega
   have f4:((c:Int) - (a:Int)).toNat=c - a:=by omega
   go_wp2_with fail;go_ret;refine⟨a,rfl,HLn.out,?_,HB.out.trans (ZJ hgb _ _)⟩
   rw [←HFl.out];exact XY HA1.out Z _ lr
end Go.Proofs.YtnhmoibjlakhjaaGreat
