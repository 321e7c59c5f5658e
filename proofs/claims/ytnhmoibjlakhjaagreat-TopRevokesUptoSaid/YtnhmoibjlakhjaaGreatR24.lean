/- Lemmas of the proof. No condition but each theorem's own. -/
import Derived.Test.YtnhmoibjlakhjaaGreatR23
import Derived.Maps.AppendAt
import Derived.Test.YtnhmoibjlakhjaaGreatR18
import Derived.Test.YtnhmoibjlakhjaaGreatR03
import Derived.Test.YtnhmoibjlakhjaaGreatR10
set_option linter.unusedVariables false
set_option linter.unusedSimpArgs false
namespace Go.Proofs.YtnhmoibjlakhjaaGreat
open Lib (hid)
set_option maxRecDepth 100000
set_option maxHeartbeats 16000000
open Go.RowKit
theorem Qe {P:Program}{w:World}{ops:Array Oper}{o:Oper}{a:Act}{K:Act→World→Prop}{Q:Exit→Act→World→Prop}{E':Prop}(hgd:o.guard=none)(s x:Operand)(t:TypeId)
  (ho:o.op= .call { callee:= .builtin .append,args:= #[s,x],argTypes:= #[t,t]})
  (base:Nat) (e:TypeId) (i:TypeInfo) (z:Value) (size bytes:Nat) (ht:P.underlying t=some (.slice e)) (hi:P.info? e=some i) (hz:i.zero=some z)
  (hsize:i.size=size) (hby:i.bytes=bytes) (hzs:z.cells.size=size) (hsz:0<size)
  (v:Value) (n:Nat) (xs:List Value) (hs:a.eval s=v) (hown:w.ownsRow base e size v n xs)
  (ad:Addr) (m c:Nat) (news:List Value) (hx:a.eval x= .slice (some ad) m c) (hl:news.length=m*size) (hnews: ∀ j u,news[j]?=some u→w.cell? (ad.add j)=some u) (h1: ∀ u∈news,u.oneCell'=true)
  (h63:n+m≤maxLen) (hbytes:(n+m)*bytes≤140737488355328) (hbase:base≤w.heap.size)
  (h: ∀ A' c' w',Hid (w'.ownsRow base e size (.slice A' (n+m) c') (n+m) (xs ++news))→Hid (w.grownBy w' v.ownBlock)→Hid ((Value.slice A' (n+m) c').ownBlock=v.ownBlock∨(Value.slice A' (n+m) c').ownBlock=some w.heap.size)→K (a.put o.dst (.slice A' (n+m) c')) w'):if Region.wanted o (yielded ops a.tmps)=true then Oper.wp P o a w K Q else E':=by
 have hw:Region.wanted o (yielded ops a.tmps)=true:=by simp [Region.wanted,hgd]
 rw [if_pos hw];obtain⟨v',w',hrun,h2,h3,_,h4⟩:=run_append_own_at (P:=P) w base t o.type e i z size bytes ht hi hz hsize hby hzs hsz v n xs hown ad m c news hl hnews h1 h63 hbytes hbase;unfold Oper.wp execOp;simp only [ho,resolve,invoke,builtin,Sem.run_bind,Sem.run_pure,Result.andThen_ok,List.map_toArray,List.map_cons,List.map_nil,hs,hx,hrun];obtain⟨A',c',rfl⟩:=Wi h2;exact h A' c' w' h2 h3 h4
theorem Yz.Jn {w w1 w2:World}{gt lo hi:Nat}{us:List TypeId}{x:Option Nat}{v:Value}{e:TypeId}(hU:Yz w w1 gt lo hi us x)(hf:Wh w1 w2 v)(he:e∈us)(hT: ∀ k,v.ownBlock=some k→k<w.heap.size→Zc w k e∧lo≤k∧k<hi):Yz w w2 gt lo hi us x:=
 ⟨Nat.le_trans hU.size hf.size,fun k t ht hk hn hx=>(hf.block k (Nat.lt_of_lt_of_le ht.lt hU.size) (fun e'=>by
  obtain⟨h1,h2⟩:=hT k e' ht.lt;rw [ht.same h1] at hn;exact hn he h2)).trans (hU.block k t ht hk hn hx)⟩
theorem Zf.K2 {B c i:Nat}{w w1:World}(h:Below B w w1)(u:Value):Zf B (some c) w (w1.setCell ⟨c,i,none⟩ u):=⟨h.os,h.tape,h.output,by simpa [World.setCell] using h.size,fun k hk hx=>(Below.heap_setCell w1 ⟨c,i,none⟩ u k (fun e=>hx (by rw [e]))).trans (h.block k hk)⟩
theorem RP {ts:List Za}{i:Nat}{a b:Za}(hi:i<ts.length)(h:Za.cs a=Za.cs b):(ts.set i a).flatMap Za.cs=(ts.set i b).flatMap Za.cs:=by
 rw [List.set_eq_take_append_cons_drop,List.set_eq_take_append_cons_drop,if_pos hi,if_pos hi,List.flatMap_append,List.flatMap_cons,List.flatMap_append,List.flatMap_cons,h]
def Xc (o:Ob)(r:Ru)(i:Nat)(er:Int)(o':Ob):Prop:=(er≠0∧o'=o)∨(er=0∧ ∃ hi:i<o.Z7.length,Yy o.Z7[i].ZX r=true∧S4 o.Z7[i].ZS r.name=none∧o.Z7[i].ZS.length<8∧(r.ZQ=4→Uu o o.Z7[i].ZX r=0)∧
 ∃ rs':List Ru,rs'.Perm (o.Z7[i].ZS ++ [r])∧(∀ (a b:Nat) (ha:a<rs'.length) (hb:b<rs'.length),a<b→0≤WQ rs'[b] rs'[a])∧o'=UJ o i { o.Z7[i] with ZS:=rs'})
theorem PR (o:Ob)(s n:List UInt8)(r:Ru)(RA:Option Addr)(rn c2:Nat)(w0:World)(ho:o.Zv 1099511627776)(hr:r.Zv 1099511627776)(hbdr:QJ r)(h:ZP w0 c2 40 [(.string (Z9 r.name)),(.int .i64 r.ZQ),(.slice RA r.ZX.length rn),(.int .i64 r.low),(.int .i64 r.ZF),(.string (Z9 r.Z8)),(.string (Z9 r.ZY)),(.string (Z9 r.key))])(hRA:ZV w0 (· < w0.heap.size) [.Z9] (YU r.ZX) RA):Ss (some c2) 209 #[.pointer (some ⟨c2,0,none⟩)] o w0 s n (Xc o r):=by
 intro w base p gt i B0 l0 l1 ts b hbase hw0 hin hbd hp hpb hck hta hi;have hts:ts.length=o.Z7.length:=by rw [←hin.data,List.length_map]
 have hi':i<ts.length:=by omega
 have hti:ts[i].1=o.Z7[i]:=by
  have:=hin.data;rw [←List.getElem_map (f:=fun x:Za=>x.1) (h:=by simpa using hi')];simp only [this]
 have hTab:=(hin.tab i hi').2;have hbz:base≤w.heap.size:=by
  have:=hin.low;have:=hbd 0 (Nat.zero_le _);omega
 have hgt:Zc w gt 73:=YC hin.Z7 rfl;have hgb:=(ZK hin.Z7).1;have hgl:=(ZK hin.Z7).2.1;have hgf:=(ZK hin.Z7).2.2.2.1;have hlob:base≤b i:=Nat.le_trans hin.low (hin.Ur i 0 (Nat.zero_le _) (by omega));have hhib:b (i+1)≤w.heap.size:=hbd (i+1) (by omega);have hgc:=fun f hf u hu=>Xg hin.Z7 hi' f hf u hu
 have hput:=fun(W:World) (h:W.ownsRow base 73 5 (.slice (some ⟨gt,0,none⟩) o.Z7.length l1) o.Z7.length (ts.flatMap Za.cs)) f hf u t' ht=>UL h hi' (f:=f) hf u t' ht
 have HOt:=hid (ho.2.2 o.Z7[i] (List.getElem_mem hi));generalize hT:ts[i]=T at*;obtain⟨t,X,x,Y,y⟩:=T;dsimp only at hti;rw [←hti] at HOt;have HIn:=hid hin;have HTab:=hid hTab;have HP:=hid hp;have HGt:=hid hgt;have HGf:=hid hgf;have HW0:=hid hw0;have HPut:=hid hput;have HT:=hid hT;have HTi:=hid hti;have HBd:=hid hbd;have hwz:=hw0.size;have hpl:=hp.lt;have HC:=hid (h.below hw0 h.lt);have HRA:=hid (hRA.later hw0);have hc2:=h.lt;have HNo:Hid (∀ er W,er≠0→Below w.heap.size w W→WT (some c2) w base p gt B0 l0 l1 o (Xc o r i) (.returned (.int .i64 er)) W):=hid fun er W h1 h2=>TI HIn.out hbz HP.out h2 (Or.inl ⟨h1,rfl⟩)
 have hg3:=hgc 3 (by omega) (.slice X t.ZX.length x) rfl;have hg4:=hgc 4 (by omega) (.slice Y t.ZS.length y) rfl;have HRr:Hid (∀ o' rs',Yy o.Z7[i].ZX r=true→S4 o.Z7[i].ZS r.name=none→o.Z7[i].ZS.length<8→(r.ZQ=4→Uu o o.Z7[i].ZX r=0)→rs'.Perm (o.Z7[i].ZS ++ [r])→(∀ (a b:Nat) (ha:a<rs'.length) (hb:b<rs'.length),a<b→0≤WQ rs'[b] rs'[a])→o'=UJ o i { o.Z7[i] with ZS:=rs'} →Xc o r i 0 o'):=hid fun o' rs' h1 h2 h3 h4 h5 h6 h7=>Or.inr ⟨rfl,hi,h1,h2,h3,h4,rs',h5,h6,h7⟩
 have HOb:=hid ho;have HRt:=hid hr;have HBdr:=hid hbdr;clear hin hTab hp hgt hgf hw0 hput hT hbd hck hta hti h hgc ho hr hRA hbdr;go_enter Tryz.func209,Tryz.ntmps209
 go_upto_region 1 with fail
 refine Uv _ fun W hW=> ?_
 have HB1:=bP hW;have hbx:ZP W w.heap.size 26 [.slice B0 o.Z4.length l0,.slice (some ⟨gt,0,none⟩) o.Z7.length l1]:=by rw [hW];exact ZP.new w _ _
 clear hW;have hC1:=HC.out.below HB1.out (by omega);have d3:W.cell? ⟨gt,i*5+3,none⟩=some (.slice X t.ZX.length x):=ct hg3 HB1.out hgl;have d4:W.cell? ⟨gt,i*5+4,none⟩=some (.slice Y t.ZS.length y):=ct hg4 HB1.out hgl;have d10:W.cell? ⟨c2,0,none⟩=some (.string (Z9 r.name)):=hC1.cell 0;have d11:W.cell? ⟨c2,1,none⟩=some (.int .i64 r.ZQ):=hC1.cell 1;have d12:W.cell? ⟨c2,2,none⟩=some (.slice RA r.ZX.length rn):=hC1.cell 2;have d13:W.cell? ⟨c2,3,none⟩=some (.int .i64 r.low):=hC1.cell 3;have d14:W.cell? ⟨c2,4,none⟩=some (.int .i64 r.ZF):=hC1.cell 4;have d15:W.cell? ⟨c2,5,none⟩=some (.string (Z9 r.Z8)):=hC1.cell 5;have d16:W.cell? ⟨c2,6,none⟩=some (.string (Z9 r.ZY)):=hC1.cell 6;have d17:W.cell? ⟨c2,7,none⟩=some (.string (Z9 r.key)):=hC1.cell 7;have b0:=hbx.cell 0;have b1:=hbx.cell 1;dsimp only [List.getElem?_cons_zero,List.getElem?_cons_succ] at b0 b1;have hW0:Below w.heap.size w W.drew:=HB1.out.drew;have hkeep:Hid (∀ w1 w2,(fun w'=>Below w.heap.size w w'∧w'.cell? ⟨gt,i*5+3,none⟩=some (.slice X t.ZX.length x)∧w'.cell? ⟨gt,i*5+4,none⟩=some (.slice Y t.ZS.length y)∧w'.cell? ⟨w.heap.size,0,none⟩=some (.slice B0 o.Z4.length l0)∧w'.cell? ⟨w.heap.size,1,none⟩=some (.slice (some ⟨gt,0,none⟩) o.Z7.length l1)∧w'.cell? ⟨c2,0,none⟩=some (.string (Z9 r.name))∧w'.cell? ⟨c2,1,none⟩=some (.int .i64 r.ZQ)∧w'.cell? ⟨c2,2,none⟩=some (.slice RA r.ZX.length rn)∧w'.cell? ⟨c2,3,none⟩=some (.int .i64 r.low)∧w'.cell? ⟨c2,4,none⟩=some (.int .i64 r.ZF)∧w'.cell? ⟨c2,5,none⟩=some (.string (Z9 r.Z8))∧w'.cell? ⟨c2,6,none⟩=some (.string (Z9 r.ZY))∧w'.cell? ⟨c2,7,none⟩=some (.string (Z9 r.key))) w1→Below w1.heap.size w1 w2→(fun w'=>Below w.heap.size w w'∧w'.cell? ⟨gt,i*5+3,none⟩=some (.slice X t.ZX.length x)∧w'.cell? ⟨gt,i*5+4,none⟩=some (.slice Y t.ZS.length y)∧w'.cell? ⟨w.heap.size,0,none⟩=some (.slice B0 o.Z4.length l0)∧w'.cell? ⟨w.heap.size,1,none⟩=some (.slice (some ⟨gt,0,none⟩) o.Z7.length l1)∧w'.cell? ⟨c2,0,none⟩=some (.string (Z9 r.name))∧w'.cell? ⟨c2,1,none⟩=some (.int .i64 r.ZQ)∧w'.cell? ⟨c2,2,none⟩=some (.slice RA r.ZX.length rn)∧w'.cell? ⟨c2,3,none⟩=some (.int .i64 r.low)∧w'.cell? ⟨c2,4,none⟩=some (.int .i64 r.ZF)∧w'.cell? ⟨c2,5,none⟩=some (.string (Z9 r.Z8))∧w'.cell? ⟨c2,6,none⟩=some (.string (Z9 r.ZY))∧w'.cell? ⟨c2,7,none⟩=some (.string (Z9 r.key))) w2):=hid (by
  intro w1 w2 ⟨h1,g0,g1,g2,g3,g4,g5,g6,g7,g8,g9,g10,g11⟩ h6;exact⟨h1.trans (h6.mono h1.size),(h6.cell (World.block_lt_of_cell? w1 _ g0)).trans g0,(h6.cell (World.block_lt_of_cell? w1 _ g1)).trans g1,(h6.cell (World.block_lt_of_cell? w1 _ g2)).trans g2,(h6.cell (World.block_lt_of_cell? w1 _ g3)).trans g3,(h6.cell (World.block_lt_of_cell? w1 _ g4)).trans g4,(h6.cell (World.block_lt_of_cell? w1 _ g5)).trans g5,(h6.cell (World.block_lt_of_cell? w1 _ g6)).trans g6,(h6.cell (World.block_lt_of_cell? w1 _ g7)).trans g7,(h6.cell (World.block_lt_of_cell? w1 _ g8)).trans g8,(h6.cell (World.block_lt_of_cell? w1 _ g9)).trans g9,(h6.cell (World.block_lt_of_cell? w1 _ g10)).trans g10,(h6.cell (World.block_lt_of_cell? w1 _ g11)).trans g11⟩)
 have HFi:Hid (∀ W,Below w.heap.size w W→Calls Tryz.prog 161 #[.slice X t.ZX.length x,.agg #[(.string (Z9 r.name)),(.int .i64 r.ZQ),(.slice RA r.ZX.length rn),(.int .i64 r.low),(.int .i64 r.ZF),(.string (Z9 r.Z8)),(.string (Z9 r.ZY)),(.string (Z9 r.key))]] W fun e w'=>e= .returned (.bool (Yy t.ZX r))∧Below W.heap.size W w'):=hid fun W hW=>
  OL t.ZX r X x RA rn W (HTab.out.rows.1.later hW) (HRA.out.later hW) HOt.out.1 HRt.out
 have HBy:Hid (∀ W,Below w.heap.size w W→Calls Tryz.prog 210 #[.slice Y t.ZS.length y,.string (Z9 r.name),.func (.func 211) #[] #[]] W fun e w'=>e= .returned (.int .i64 (Xe (S4 t.ZS r.name)))∧Below W.heap.size W w'):=hid (by
  intro W hW;have cB:=U4 (t.ZS.map Ru.da) Y y r.name W (HTab.out.rows.2.later hW) (by simpa using HOt.out.2.1);rwa [List.length_map,S3] at cB)
 have HKe:Hid (∀ W,Below w.heap.size w W→Calls Tryz.prog 162 #[.agg #[.slice B0 o.Z4.length l0,.slice (some ⟨gt,0,none⟩) o.Z7.length l1],.slice X t.ZX.length x,.agg #[(.string (Z9 r.name)),(.int .i64 r.ZQ),(.slice RA r.ZX.length rn),(.int .i64 r.low),(.int .i64 r.ZF),(.string (Z9 r.Z8)),(.string (Z9 r.ZY)),(.string (Z9 r.key))]] W fun e w'=>e= .returned (.int .i64 (Uu o t.ZX r))∧Below W.heap.size W w'):=hid fun W hW=>
  MO o B0 l0 (some ⟨gt,0,none⟩) l1 t.ZX X x r RA rn W (HIn.out.r.tb.later hW) (HTab.out.rows.1.later hW) (HRA.out.later hW) HOb.out HOt.out.1 HRt.out
 have HR4:Hid (r.ZQ=4∨r.ZQ≠4):=hid (by omega);have HRk:Hid (Yy t.ZX r=true→S4 t.ZS r.name=none→t.ZS.length<8→(r.ZQ=4→Uu o t.ZX r=0)→ ∀ rs',rs'.Perm (t.ZS ++ [r])→(∀ (a b:Nat) (ha:a<rs'.length) (hb:b<rs'.length),a<b→0≤WQ rs'[b] rs'[a])→Xc o r i 0 (UJ o i { t with ZS:=rs'})):=hid fun h1 h2 h3 h4 rs' h5 h6=>by
  rw [HTi.out] at h1 h2 h3 h4 h5;exact HRr.out _ rs' h1 h2 h3 h4 h5 h6 (by rw [HTi.out])
 clear HRr;generalize Yy t.ZX r=fi at*;generalize Uu o t.ZX r=ke at*;go_region_held_law (fun w'=>Below w.heap.size w w'∧w'.cell? ⟨gt,i*5+3,none⟩=some (.slice X t.ZX.length x)∧w'.cell? ⟨gt,i*5+4,none⟩=some (.slice Y t.ZS.length y)∧w'.cell? ⟨w.heap.size,0,none⟩=some (.slice B0 o.Z4.length l0)∧w'.cell? ⟨w.heap.size,1,none⟩=some (.slice (some ⟨gt,0,none⟩) o.Z7.length l1)∧w'.cell? ⟨c2,0,none⟩=some (.string (Z9 r.name))∧w'.cell? ⟨c2,1,none⟩=some (.int .i64 r.ZQ)∧w'.cell? ⟨c2,2,none⟩=some (.slice RA r.ZX.length rn)∧w'.cell? ⟨c2,3,none⟩=some (.int .i64 r.low)∧w'.cell? ⟨c2,4,none⟩=some (.int .i64 r.ZF)∧w'.cell? ⟨c2,5,none⟩=some (.string (Z9 r.Z8))∧w'.cell? ⟨c2,6,none⟩=some (.string (Z9 r.ZY))∧w'.cell? ⟨c2,7,none⟩=some (.string (Z9 r.key)))
  (first | exact hkeep.out _ _ (by assumption) (by assumption) | exact⟨hW0,d3,d4,b0,b1,d10,d11,d12,d13,d14,d15,d16,d17⟩)
  (first | (go_at_call 161;refine(HFi.out _ (by first | exact hW0 | assumption)).mono ?_;rintro e w' ⟨rfl,hb⟩))
 rename_i hS
 cases fi
 ·have hb:=hS.1;clear hS;go_wp2;go_ret;exact HNo.out 63 _ (by decide) hb
 clear d3 d4 hW0 b0 b1 d10 d11 d12 d13 d14 d15 d16 d17;obtain⟨hB2,d3,d4,b0,b1,d10,d11,d12,d13,d14,d15,d16,d17⟩:=hS;have HB2:=hid hB2;have hW0:=hB2.drew;clear hB2;go_wp2_with fail;go_region_held_law (fun w'=>Below w.heap.size w w'∧w'.cell? ⟨gt,i*5+3,none⟩=some (.slice X t.ZX.length x)∧w'.cell? ⟨gt,i*5+4,none⟩=some (.slice Y t.ZS.length y)∧w'.cell? ⟨w.heap.size,0,none⟩=some (.slice B0 o.Z4.length l0)∧w'.cell? ⟨w.heap.size,1,none⟩=some (.slice (some ⟨gt,0,none⟩) o.Z7.length l1)∧w'.cell? ⟨c2,0,none⟩=some (.string (Z9 r.name))∧w'.cell? ⟨c2,1,none⟩=some (.int .i64 r.ZQ)∧w'.cell? ⟨c2,2,none⟩=some (.slice RA r.ZX.length rn)∧w'.cell? ⟨c2,3,none⟩=some (.int .i64 r.low)∧w'.cell? ⟨c2,4,none⟩=some (.int .i64 r.ZF)∧w'.cell? ⟨c2,5,none⟩=some (.string (Z9 r.Z8))∧w'.cell? ⟨c2,6,none⟩=some (.string (Z9 r.ZY))∧w'.cell? ⟨c2,7,none⟩=some (.string (Z9 r.key)))
  (first | exact hkeep.out _ _ (by assumption) (by assumption) | exact⟨hW0,d3,d4,b0,b1,d10,d11,d12,d13,d14,d15,d16,d17⟩)
  (first | (go_at_call 210;refine(HBy.out _ (by first | exact hW0 | assumption)).mono ?_;rintro e w' ⟨rfl,hb⟩))
 rename_i hS
 cases hat:S4 t.ZS r.name with
 | some k=>
  have hk:(0:Int)≤(k:Int):=by omega
  have hb:=hS.1;rw [show Xe (some k)=(k:Int) from rfl];clear hS;go_wp2;go_ret;exact HNo.out 60 _ (by decide) hb
 | none=>
  have HAt:=hid hat;clear hat;rw [show Xe (none:Option Nat)= -1 from rfl];clear d3 d4 hW0 b0 b1 d10 d11 d12 d13 d14 d15 d16 d17;obtain⟨hB3,d3,d4,b0,b1,d10,d11,d12,d13,d14,d15,d16,d17⟩:=hS;have HB3:=hid hB3;clear hB3 HB2;by_cases h8:8≤t.ZS.length
  ·have h8':(t.ZS.length:Int)≥8:=by omega
   have h8'':(8:Int)≤(t.ZS.length:Int):=by omega
   go_wp2;go_ret;exact HNo.out 2 _ (by decide) HB3.out
  have h8': ¬ (t.ZS.length:Int)≥8:=by omega
  have h8'': ¬ (8:Int)≤(t.ZS.length:Int):=by omega
  have HRf:Hid (r.ZQ=4∨ ¬ r.ZQ=4):=hid (by omega);by_cases h4:r.ZQ=4
  ·have h4':(r.ZQ == 4)=true:=by simpa using h4
   have HH4:=hid h4;clear h4;have hW0:=HB3.out.drew;go_upto_region 8 with fail
   go_region_held_law (fun w'=>Below w.heap.size w w'∧w'.cell? ⟨gt,i*5+3,none⟩=some (.slice X t.ZX.length x)∧w'.cell? ⟨gt,i*5+4,none⟩=some (.slice Y t.ZS.length y)∧w'.cell? ⟨w.heap.size,0,none⟩=some (.slice B0 o.Z4.length l0)∧w'.cell? ⟨w.heap.size,1,none⟩=some (.slice (some ⟨gt,0,none⟩) o.Z7.length l1)∧w'.cell? ⟨c2,0,none⟩=some (.string (Z9 r.name))∧w'.cell? ⟨c2,1,none⟩=some (.int .i64 r.ZQ)∧w'.cell? ⟨c2,2,none⟩=some (.slice RA r.ZX.length rn)∧w'.cell? ⟨c2,3,none⟩=some (.int .i64 r.low)∧w'.cell? ⟨c2,4,none⟩=some (.int .i64 r.ZF)∧w'.cell? ⟨c2,5,none⟩=some (.string (Z9 r.Z8))∧w'.cell? ⟨c2,6,none⟩=some (.string (Z9 r.ZY))∧w'.cell? ⟨c2,7,none⟩=some (.string (Z9 r.key)))
    (first | exact hkeep.out _ _ (by assumption) (by assumption) | exact⟨hW0,d3,d4,b0,b1,d10,d11,d12,d13,d14,d15,d16,d17⟩)
    (first | (go_at_call 162;refine(HKe.out _ (by first | exact hW0 | assumption)).mono ?_;rintro e w' ⟨rfl,hb⟩))
   rename_i hS;clear d3 d4 b0 b1 hW0 d10 d11 d12 d13 d14 d15 d16 d17;obtain⟨hB4,d3,d4,b0,b1,d10,d11,d12,d13,d14,d15,d16,d17⟩:=hS;have HB4:=hid hB4;clear hB4;by_cases hke:ke=0
   ·have hke1:(ke == 0)=true:=by simpa using hke
    have hke2:(ke != 0)=false:=by simp [hke]
    have HKz:=hid hke;clear hke;have cS:=XG RA rn r.ZX w' (X9 (HRA.out.later HB4.out)) HRt.out.1;have r2:w'.cell? ⟨c2,2,none⟩=some (.slice RA r.ZX.length rn):=d12;go_wp2_with fail;refine cS.mono ?_
    rintro e W5 ⟨A',c',rfl,ho5,hb⟩;have HB5:=bt HB4 hb;have HS5:=hid (Tq ho5);have hz5a:=HB4.out.size;have hz5:=HB5.out.size;have C5:=HC.out.below HB5.out (by omega);have e2:W5.cell? ⟨c2,2,none⟩=some (.slice RA r.ZX.length rn):=C5.cell 2;have f2:W5.frozen? ⟨c2,2,none⟩=false:=C5.frozen 2;clear hb ho5 cS r2 d3 d4 b0 b1 d10 d11 d12 d13 d14 d15 d16 d17;go_upto_region 12 with fail
    refine Uv _ fun W6 hW=> ?_
    have C6:Hid (ZP W6 c2 40 [(.string (Z9 r.name)),(.int .i64 r.ZQ),(.slice A' r.ZX.length c'),(.int .i64 r.low),(.int .i64 r.ZF),(.string (Z9 r.Z8)),(.string (Z9 r.ZY)),(.string (Z9 r.key))]):=hid (by rw [hW];exact C5.Zx 2 _);have HX6:Hid (Zf w.heap.size (some c2) w W6):=hid (by rw [hW];exact Zf.K2 HB5.out _);have HU6:Hid (Yz w W6 gt (b i) (b (i+1)) [40] (some c2)):=hid (by rw [hW];exact(Yz.Zp HB5.out).trans (Yz.K2 _));have HK56:Hid (ZR [40] W5 W6):=hid (by rw [hW];exact ZR.Zx C5.Xr (by simp) _);have hz6:W5.heap.size≤W6.heap.size:=HK56.out.size;clear hW e2 f2;have HK6:Hid (ZR [40] w W6):=hid ((ZR.Zp HB5.out lr).trans HK56.out);obtain⟨_,_,⟨rs,hrm,hro,hra⟩,Qy⟩:=HTab.out;have HRm:=hid hrm;have HRa:=hid hra;have hrl:rs.length=t.ZS.length:=by rw [←hrm,List.length_map]
    have HRo6:Hid (W6.ownsRow base 40 8 (.slice Y t.ZS.length y) t.ZS.length (rs.flatMap Yv.cs)):=hid (Xu (hro.Yn hlob) fun k hk=>HX6.out.block k (XQ hro hk) (fun e=>by have:=Zu hro k hk;injection e with e;omega));have HYb:Hid (∀ k,(Value.slice Y t.ZS.length y).ownBlock=some k→Zc w k 40∧b i≤k∧k<b (i+1)):=hid fun k hk=>⟨YC hro hk,Zu hro k hk,Qy k hk⟩
    clear hrm hro hra Qy;have HGt6:Hid (Zc W6 gt 73):=hid (HK6.out.Xr HGt.out (by decide));have g4:W6.cell? ⟨gt,i*5+4,none⟩=some (.slice Y t.ZS.length y):=(World.cell?_of_block (w:=w) (HK6.out.block gt _ HGt.out (by decide))).trans hg4;have gf:W6.frozen? ⟨gt,i*5+4,none⟩=false:=(World.frozen?_of_block (w:=w) (HK6.out.block gt _ HGt.out (by decide))).trans (HGf.out _);have hkp:Hid (∀ w1 w2,(fun w'=>w'.cell? ⟨gt,i*5+4,none⟩=some (.slice Y t.ZS.length y)∧w'.cell? ⟨c2,0,none⟩=some (.string (Z9 r.name))∧w'.cell? ⟨c2,1,none⟩=some (.int .i64 r.ZQ)∧w'.cell? ⟨c2,2,none⟩=some (.slice A' r.ZX.length c')∧w'.cell? ⟨c2,3,none⟩=some (.int .i64 r.low)∧w'.cell? ⟨c2,4,none⟩=some (.int .i64 r.ZF)∧w'.cell? ⟨c2,5,none⟩=some (.string (Z9 r.Z8))∧w'.cell? ⟨c2,6,none⟩=some (.string (Z9 r.ZY))∧w'.cell? ⟨c2,7,none⟩=some (.string (Z9 r.key))) w1→Below w1.heap.size w1 w2→(fun w'=>w'.cell? ⟨gt,i*5+4,none⟩=some (.slice Y t.ZS.length y)∧w'.cell? ⟨c2,0,none⟩=some (.string (Z9 r.name))∧w'.cell? ⟨c2,1,none⟩=some (.int .i64 r.ZQ)∧w'.cell? ⟨c2,2,none⟩=some (.slice A' r.ZX.length c')∧w'.cell? ⟨c2,3,none⟩=some (.int .i64 r.low)∧w'.cell? ⟨c2,4,none⟩=some (.int .i64 r.ZF)∧w'.cell? ⟨c2,5,none⟩=some (.string (Z9 r.Z8))∧w'.cell? ⟨c2,6,none⟩=some (.string (Z9 r.ZY))∧w'.cell? ⟨c2,7,none⟩=some (.string (Z9 r.key))) w2):=hid (by
     intro w1 w2 ⟨g0,g1,g2,g3,g4,g5,g6,g7,g8⟩ h6;exact⟨(h6.cell (World.block_lt_of_cell? w1 _ g0)).trans g0,(h6.cell (World.block_lt_of_cell? w1 _ g1)).trans g1,(h6.cell (World.block_lt_of_cell? w1 _ g2)).trans g2,(h6.cell (World.block_lt_of_cell? w1 _ g3)).trans g3,(h6.cell (World.block_lt_of_cell? w1 _ g4)).trans g4,(h6.cell (World.block_lt_of_cell? w1 _ g5)).trans g5,(h6.cell (World.block_lt_of_cell? w1 _ g6)).trans g6,(h6.cell (World.block_lt_of_cell? w1 _ g7)).trans g7,(h6.cell (World.block_lt_of_cell? w1 _ g8)).trans g8⟩)
    refine YB 10 (S:=fun w'=>w'.cell? ⟨gt,i*5+4,none⟩=some (.slice Y t.ZS.length y)∧w'.cell? ⟨c2,0,none⟩=some (.string (Z9 r.name))∧w'.cell? ⟨c2,1,none⟩=some (.int .i64 r.ZQ)∧w'.cell? ⟨c2,2,none⟩=some (.slice A' r.ZX.length c')∧w'.cell? ⟨c2,3,none⟩=some (.int .i64 r.low)∧w'.cell? ⟨c2,4,none⟩=some (.int .i64 r.ZF)∧w'.cell? ⟨c2,5,none⟩=some (.string (Z9 r.Z8))∧w'.cell? ⟨c2,6,none⟩=some (.string (Z9 r.ZY))∧w'.cell? ⟨c2,7,none⟩=some (.string (Z9 r.key))) (by kernel_rfl) ⟨g4,C6.out.cell 0,C6.out.cell 1,C6.out.cell 2,C6.out.cell 3,C6.out.cell 4,C6.out.cell 5,C6.out.cell 6,C6.out.cell 7⟩ (fun HD'=> ?_)
    (try simp only [pp]);refine Xk 0 48 HD' ?_;refine Xk 1 49 HD' ?_;refine Xk 2 50 HD' ?_;refine Xk 3 51 HD' ?_;refine Xk 4 52 HD' ?_;refine Xk 5 53 HD' ?_;refine Vd 6 54 fun K hK=> ?_
    go_simp;refine JC _ fun w7 h7=> ?_
    have HB67:Hid (Below W6.heap.size W6 w7):=hid (by rw [h7];exact(show Below W6.heap.size W6 W6.drew from br.drew).trans (br.alloc (by simp) _));have N7:Hid (ZP w7 W6.heap.size 40 [(.string (Z9 r.name)),(.int .i64 r.ZQ),(.slice A' r.ZX.length c'),(.int .i64 r.low),(.int .i64 r.ZF),(.string (Z9 r.Z8)),(.string (Z9 r.ZY)),(.string (Z9 r.key))]):=hid (by rw [h7];exact ZP.new W6.drew _ _);have HBd:Below W6.drew.heap.size W6.drew w7:=by rw [h7];exact br.alloc lr _
    clear h7;have HD':=hkp.out _ _ HD' HBd;refine hK.out _ _ HD' ?_
    clear hK K;(try simp only [pp])
    refine Vd 7 55 fun K hK=> ?_
    have O7:=hid (HRo6.out.Zw HB67.out);obtain⟨i0,hi0,hz0,hz1,hz2⟩:=info_parts UG;have hs7:=HB67.out.size;refine Qe rfl _ _ _ rfl base 40 i0 _ 8 112 Tryz.underlying71 hi0 hz0 hz1 hz2 rfl (by decide) (.slice Y t.ZS.length y) t.ZS.length _ rfl O7.out ⟨W6.heap.size,0,none⟩ 1 1 [(.string (Z9 r.name)),(.int .i64 r.ZQ),(.slice A' r.ZX.length c'),(.int .i64 r.low),(.int .i64 r.ZF),(.string (Z9 r.Z8)),(.string (Z9 r.ZY)),(.string (Z9 r.key))] rfl rfl (ZP.news N7.out) (by simp [Value.oneCell']) (by unfold maxLen;omega) (by omega) (by omega) ?_
    intro A8 c8 w8 HO8 hg8 hl8;have hK78:ZR [40] w7 w8:=ZR.grown O7.out hg8.out (by simp) hg8.out.size;have HK8:Hid (ZR [40] w w8):=hid ((HK6.out.trans (ZR.Zp HB67.out lr)).trans hK78);have HK58:Hid (ZR [40] W5 w8):=hid ((HK56.out.trans (ZR.Zp HB67.out lr)).trans hK78);have HU8:Hid (Yz w w8 gt (b i) (b (i+1)) [40] (some c2)):=hid ((HU6.out.trans (Yz.Zp HB67.out)).trans ⟨hg8.out.size,fun k t ht _ hn _=>hg8.out.block k ht.lt fun e'=>by
     have ht':=YC O7.out e'.symm;rw [ht.same ht'] at hn;exact hn (by simp) (HYb.out k e'.symm).2⟩)
    have HX8:Hid (Zf base (some c2) w w8):=hid (((HX6.out.mono hbz).post (HB67.out.mono (by omega))).post (Below.grown (Below.refl base w7) hg8.out (by omega) (Zu O7.out)));have hs8:=hg8.out.size;have e8:w8.cell? ⟨gt,i*5+4,none⟩=some (.slice Y t.ZS.length y):=(World.cell?_of_block (w:=w) (HK8.out.block gt _ HGt.out (by decide))).trans hg4;have f8:w8.frozen? ⟨gt,i*5+4,none⟩=false:=(World.frozen?_of_block (w:=w) (HK8.out.block gt _ HGt.out (by decide))).trans (HGf.out _);have hc8: ∀ f u,w7.cell? ⟨c2,f,none⟩=some u→w8.cell? ⟨c2,f,none⟩=some u:=fun f u hu=>(World.cell?_of_block (hg8.out.block c2 (by omega) (fun e=>by have:=Zu O7.out c2 e.symm;omega))).trans hu
    have HD':=(show (fun w'=>w'.cell? ⟨gt,i*5+4,none⟩=some (.slice Y t.ZS.length y)∧w'.cell? ⟨c2,0,none⟩=some (.string (Z9 r.name))∧w'.cell? ⟨c2,1,none⟩=some (.int .i64 r.ZQ)∧w'.cell? ⟨c2,2,none⟩=some (.slice A' r.ZX.length c')∧w'.cell? ⟨c2,3,none⟩=some (.int .i64 r.low)∧w'.cell? ⟨c2,4,none⟩=some (.int .i64 r.ZF)∧w'.cell? ⟨c2,5,none⟩=some (.string (Z9 r.Z8))∧w'.cell? ⟨c2,6,none⟩=some (.string (Z9 r.ZY))∧w'.cell? ⟨c2,7,none⟩=some (.string (Z9 r.key))) w8 from ⟨e8,hc8 _ _ HD'.2.1,hc8 _ _ HD'.2.2.1,hc8 _ _ HD'.2.2.2.1,hc8 _ _ HD'.2.2.2.2.1,hc8 _ _ HD'.2.2.2.2.2.1,hc8 _ _ HD'.2.2.2.2.2.2.1,hc8 _ _ HD'.2.2.2.2.2.2.2.1,hc8 _ _ HD'.2.2.2.2.2.2.2.2⟩)
    refine hK.out _ _ HD' ?_
    clear hK K;(try simp only [pp])
    refine Vd 8 56 fun K hK=> ?_
    go_simp;refine hK.out _ _ HD' ?_
    clear hK K;(try simp only [pp])
    refine Vd 9 57 fun K hK=> ?_
    go_simp;refine hK.out _ _ HD' ?_
    clear hK K;(try simp only [pp])
    refine YI.Xo (i:=10) (o:=⟨none,_,_,_,_,_⟩) (by kernel_rfl) rfl rfl (fun K hK=> ?_)
    go_simp;refine hK.out _ _ (YI.done (by kernel_rfl) ?_ _);clear hK K;refine Sk _ fun W9 hW=> ?_
    have HT8:Hid (w8.ownsRow base 73 5 (.slice (some ⟨gt,0,none⟩) o.Z7.length l1) o.Z7.length (ts.flatMap Za.cs)):=hid (HIn.out.Z7.keeps HK8.out (by decide));have HT9:Hid (W9.ownsRow base 73 5 (.slice (some ⟨gt,0,none⟩) o.Z7.length l1) o.Z7.length ((ts.set i ({ t with ZS:=t.ZS ++ [r]},X,x,A8,c8)).flatMap Za.cs)):=hid (by rw [hW];exact HPut.out w8 HT8.out 4 (by omega) _ _ (by simp [Za.cs,Tb.cs]));have HK89:Hid (ZR [73] w8 W9):=hid (by rw [hW];exact ZR.Zx (HK8.out.Xr HGt.out (by decide)) (by simp) _);have HU9:Hid (Yz w W9 gt (b i) (b (i+1)) [40] (some c2)):=hid (by rw [hW];exact HU8.out.trans (Yz.Zx _));have HX9:Hid (Zf base (some c2) w W9):=hid (by rw [hW];exact HX8.out.post (br.setCell hgb _));have e9:W9.cell? ⟨gt,i*5+4,none⟩=some (.slice A8 (t.ZS.length+1) c8):=by
     have hc:=Xg HT9.out (i:=i) (by simpa using hi') 4 (by omega) (.slice A8 (t.ZS ++ [r]).length c8) (by rw [List.getElem_set_self];rfl);rw [List.length_append] at hc;exact hc
    have hz9:w8.heap.size≤W9.heap.size:=HK89.out.size;clear hW e8 f8 HD' hkp;have HO9:Hid (W9.ownsRow base 40 8 (.slice A8 (rs ++ [((r,A',c'):Yv)]).length c8) (rs ++ [((r,A',c'):Yv)]).length ((rs ++ [((r,A',c'):Yv)]).flatMap Yv.cs)):=hid (by
     have h1:=HO8.out.keeps HK89.out (by decide);rw [List.length_append,hrl,List.flatMap_append];simpa [Yv.cs,Ru.cs] using h1)
    have cSo:=Qf base (rs ++ [((r,A',c'):Yv)]) A8 c8 W9 HO9.out (by simp) (by simp;omega);rw [show (rs ++ [((r,A',c'):Yv)]).length=t.ZS.length+1 from by simp [hrl]] at cSo;go_wp2_with fail;refine cSo.mono ?_
    rintro e W10 ⟨rfl,l',hp',hs',ho',hb',hk',hf'⟩;have HF:Hid (WT (some c2) w base p gt B0 l0 l1 o (Xc o r i) (.returned (.int .i64 0)) W10):=hid (by
     have hl':l'.length=t.ZS.length+1:=by rw [hp'.length_eq];simp [hrl]
     have hK10:ZR [40,73] w W10:=((HK8.out.Ya (by simp)).trans (HK89.out.Ya (by simp))).trans (hk'.Ya (by simp));have hK510:ZR [40,73] W5 W10:=((HK58.out.Ya (by simp)).trans (HK89.out.Ya (by simp))).trans (hk'.Ya (by simp));have hU10:Yz w W10 gt (b i) (b (i+1)) [40] (some c2):=HU9.out.Jn (e:=40) hf' (by simp) fun k hk hkl=>by
      rcases hl8.out with h1 | h1
      ·exact HYb.out k (by rw [←h1];simpa [hrl] using hk)
      ·have h2:some k=some w7.heap.size:=by rw [←h1];simpa [hrl] using hk.symm
       injection h2 with h2
       omega
     have hd: ∀ t,t∈ [9]→t∉ [40,73]:=by decide
     have hrow10:W10.ownsRow base 73 5 (.slice (some ⟨gt,0,none⟩) o.Z7.length l1) o.Z7.length ((ts.set i ({ t with ZS:=l'.map (·.1)},X,x,A8,c8)).flatMap Za.cs):=by
      have h1:=HT9.out.keeps hk' (by decide);have e1:Za.cs ({ t with ZS:=t.ZS ++ [r]},X,x,A8,c8)=Za.cs ({ t with ZS:=l'.map (·.1)},X,x,A8,c8):=by simp [Za.cs,Tb.cs,hl']
      rwa [RP hi' e1] at h1
     refine VE (us:= [40]) (t':=({ t with ZS:=l'.map (·.1)},X,x,A8,c8)) HIn.out hi' HP.out hU10 (by decide) (by decide) (fun c hc=>by injection hc with hc;omega) hpb hrow10 (UN HTab.out hK10 (by decide) hlob ⟨l',rfl,by simpa [hl',hrl] using ho',fun z hz=> ?_⟩) (HX9.out.post hb') (HRk.out (by simp) HAt.out (by omega) (fun _=>HKz.out) _ ?_ ?_)
     ·rcases List.mem_append.1 (hp'.subset hz) with hz1 | hz1
      ·obtain⟨h1,h2⟩:=HRa.out z hz1;exact⟨h1.Y6 (fun k hk=>((hk.1.keeps hK10 hd).1).mono hlob (fun _ h=>h)) (fun _ hp=>World.cell?_of_block (hp.1.keeps hK10 hd).2),h2⟩
      ·rw [List.mem_singleton.1 hz1];exact⟨(HS5.out.WD hK510 hd).UF (by omega) (fun _ h=>h),HBdr.out⟩
     ·have h1:=hp'.map (·.1);rw [List.map_append,HRm.out] at h1;exact h1
     ·intro a b ha hb hab;rw [List.getElem_map,List.getElem_map];exact hs' a b (by simpa using ha) (by simpa using hb) hab)
    clear hp' hs' ho' hb' hk' hf' cSo;go_wp2;go_ret;exact HF.out
   ·have hke1:(ke == 0)=false:=by simpa using hke
    have hke2:(ke != 0)=true:=by simp [hke]
    go_wp2;go_ret;exact HNo.out ke _ hke HB4.out
  ·have h4':(r.ZQ == 4)=false:=by simpa using h4
   have HH4:=hid h4;clear h4;have cS:=XG RA rn r.ZX w' (X9 (HRA.out.later HB3.out)) HRt.out.1;have r2:w'.cell? ⟨c2,2,none⟩=some (.slice RA r.ZX.length rn):=d12;go_wp2_with fail;refine cS.mono ?_
   rintro e W5 ⟨A',c',rfl,ho5,hb⟩;have HB5:=bt HB3 hb;have HS5:=hid (Tq ho5);have hz5a:=HB3.out.size;have hz5:=HB5.out.size;have C5:=HC.out.below HB5.out (by omega);have e2:W5.cell? ⟨c2,2,none⟩=some (.slice RA r.ZX.length rn):=C5.cell 2;have f2:W5.frozen? ⟨c2,2,none⟩=false:=C5.frozen 2;clear hb ho5 cS r2 d3 d4 b0 b1 d10 d11 d12 d13 d14 d15 d16 d17;go_upto_region 12 with fail
   refine Uv _ fun W6 hW=> ?_
   have C6:Hid (ZP W6 c2 40 [(.string (Z9 r.name)),(.int .i64 r.ZQ),(.slice A' r.ZX.length c'),(.int .i64 r.low),(.int .i64 r.ZF),(.string (Z9 r.Z8)),(.string (Z9 r.ZY)),(.string (Z9 r.key))]):=hid (by rw [hW];exact C5.Zx 2 _);have HX6:Hid (Zf w.heap.size (some c2) w W6):=hid (by rw [hW];exact Zf.K2 HB5.out _);have HU6:Hid (Yz w W6 gt (b i) (b (i+1)) [40] (some c2)):=hid (by rw [hW];exact(Yz.Zp HB5.out).trans (Yz.K2 _));have HK56:Hid (ZR [40] W5 W6):=hid (by rw [hW];exact ZR.Zx C5.Xr (by simp) _);have hz6:W5.heap.size≤W6.heap.size:=HK56.out.size;clear hW e2 f2;have HK6:Hid (ZR [40] w W6):=hid ((ZR.Zp HB5.out lr).trans HK56.out);obtain⟨_,_,⟨rs,hrm,hro,hra⟩,Qy⟩:=HTab.out;have HRm:=hid hrm;have HRa:=hid hra;have hrl:rs.length=t.ZS.length:=by rw [←hrm,List.length_map]
   have HRo6:Hid (W6.ownsRow base 40 8 (.slice Y t.ZS.length y) t.ZS.length (rs.flatMap Yv.cs)):=hid (Xu (hro.Yn hlob) fun k hk=>HX6.out.block k (XQ hro hk) (fun e=>by have:=Zu hro k hk;injection e with e;omega));have HYb:Hid (∀ k,(Value.slice Y t.ZS.length y).ownBlock=some k→Zc w k 40∧b i≤k∧k<b (i+1)):=hid fun k hk=>⟨YC hro hk,Zu hro k hk,Qy k hk⟩
   clear hrm hro hra Qy;have HGt6:Hid (Zc W6 gt 73):=hid (HK6.out.Xr HGt.out (by decide));have g4:W6.cell? ⟨gt,i*5+4,none⟩=some (.slice Y t.ZS.length y):=(World.cell?_of_block (w:=w) (HK6.out.block gt _ HGt.out (by decide))).trans hg4;have gf:W6.frozen? ⟨gt,i*5+4,none⟩=false:=(World.frozen?_of_block (w:=w) (HK6.out.block gt _ HGt.out (by decide))).trans (HGf.out _);have hkp:Hid (∀ w1 w2,(fun w'=>w'.cell? ⟨gt,i*5+4,none⟩=some (.slice Y t.ZS.length y)∧w'.cell? ⟨c2,0,none⟩=some (.string (Z9 r.name))∧w'.cell? ⟨c2,1,none⟩=some (.int .i64 r.ZQ)∧w'.cell? ⟨c2,2,none⟩=some (.slice A' r.ZX.length c')∧w'.cell? ⟨c2,3,none⟩=some (.int .i64 r.low)∧w'.cell? ⟨c2,4,none⟩=some (.int .i64 r.ZF)∧w'.cell? ⟨c2,5,none⟩=some (.string (Z9 r.Z8))∧w'.cell? ⟨c2,6,none⟩=some (.string (Z9 r.ZY))∧w'.cell? ⟨c2,7,none⟩=some (.string (Z9 r.key))) w1→Below w1.heap.size w1 w2→(fun w'=>w'.cell? ⟨gt,i*5+4,none⟩=some (.slice Y t.ZS.length y)∧w'.cell? ⟨c2,0,none⟩=some (.string (Z9 r.name))∧w'.cell? ⟨c2,1,none⟩=some (.int .i64 r.ZQ)∧w'.cell? ⟨c2,2,none⟩=some (.slice A' r.ZX.length c')∧w'.cell? ⟨c2,3,none⟩=some (.int .i64 r.low)∧w'.cell? ⟨c2,4,none⟩=some (.int .i64 r.ZF)∧w'.cell? ⟨c2,5,none⟩=some (.string (Z9 r.Z8))∧w'.cell? ⟨c2,6,none⟩=some (.string (Z9 r.ZY))∧w'.cell? ⟨c2,7,none⟩=some (.string (Z9 r.key))) w2):=hid (by
    intro w1 w2 ⟨g0,g1,g2,g3,g4,g5,g6,g7,g8⟩ h6;exact⟨(h6.cell (World.block_lt_of_cell? w1 _ g0)).trans g0,(h6.cell (World.block_lt_of_cell? w1 _ g1)).trans g1,(h6.cell (World.block_lt_of_cell? w1 _ g2)).trans g2,(h6.cell (World.block_lt_of_cell? w1 _ g3)).trans g3,(h6.cell (World.block_lt_of_cell? w1 _ g4)).trans g4,(h6.cell (World.block_lt_of_cell? w1 _ g5)).trans g5,(h6.cell (World.block_lt_of_cell? w1 _ g6)).trans g6,(h6.cell (World.block_lt_of_cell? w1 _ g7)).trans g7,(h6.cell (World.block_lt_of_cell? w1 _ g8)).trans g8⟩)
   refine YB 10 (S:=fun w'=>w'.cell? ⟨gt,i*5+4,none⟩=some (.slice Y t.ZS.length y)∧w'.cell? ⟨c2,0,none⟩=some (.string (Z9 r.name))∧w'.cell? ⟨c2,1,none⟩=some (.int .i64 r.ZQ)∧w'.cell? ⟨c2,2,none⟩=some (.slice A' r.ZX.length c')∧w'.cell? ⟨c2,3,none⟩=some (.int .i64 r.low)∧w'.cell? ⟨c2,4,none⟩=some (.int .i64 r.ZF)∧w'.cell? ⟨c2,5,none⟩=some (.string (Z9 r.Z8))∧w'.cell? ⟨c2,6,none⟩=some (.string (Z9 r.ZY))∧w'.cell? ⟨c2,7,none⟩=some (.string (Z9 r.key))) (by kernel_rfl) ⟨g4,C6.out.cell 0,C6.out.cell 1,C6.out.cell 2,C6.out.cell 3,C6.out.cell 4,C6.out.cell 5,C6.out.cell 6,C6.out.cell 7⟩ (fun HD'=> ?_)
   (try simp only [pp]);refine Xk 0 48 HD' ?_;refine Xk 1 49 HD' ?_;refine Xk 2 50 HD' ?_;refine Xk 3 51 HD' ?_;refine Xk 4 52 HD' ?_;refine Xk 5 53 HD' ?_;refine Vd 6 54 fun K hK=> ?_
   go_simp;refine JC _ fun w7 h7=> ?_
   have HB67:Hid (Below W6.heap.size W6 w7):=hid (by rw [h7];exact(show Below W6.heap.size W6 W6.drew from br.drew).trans (br.alloc (by simp) _));have N7:Hid (ZP w7 W6.heap.size 40 [(.string (Z9 r.name)),(.int .i64 r.ZQ),(.slice A' r.ZX.length c'),(.int .i64 r.low),(.int .i64 r.ZF),(.string (Z9 r.Z8)),(.string (Z9 r.ZY)),(.string (Z9 r.key))]):=hid (by rw [h7];exact ZP.new W6.drew _ _);have HBd:Below W6.drew.heap.size W6.drew w7:=by rw [h7];exact br.alloc lr _
   clear h7;have HD':=hkp.out _ _ HD' HBd;refine hK.out _ _ HD' ?_
   clear hK K;(try simp only [pp])
   refine Vd 7 55 fun K hK=> ?_
   have O7:=hid (HRo6.out.Zw HB67.out);obtain⟨i0,hi0,hz0,hz1,hz2⟩:=info_parts UG;have hs7:=HB67.out.size;refine Qe rfl _ _ _ rfl base 40 i0 _ 8 112 Tryz.underlying71 hi0 hz0 hz1 hz2 rfl (by decide) (.slice Y t.ZS.length y) t.ZS.length _ rfl O7.out ⟨W6.heap.size,0,none⟩ 1 1 [(.string (Z9 r.name)),(.int .i64 r.ZQ),(.slice A' r.ZX.length c'),(.int .i64 r.low),(.int .i64 r.ZF),(.string (Z9 r.Z8)),(.string (Z9 r.ZY)),(.string (Z9 r.key))] rfl rfl (ZP.news N7.out) (by simp [Value.oneCell']) (by unfold maxLen;omega) (by omega) (by omega) ?_
   intro A8 c8 w8 HO8 hg8 hl8;have hK78:ZR [40] w7 w8:=ZR.grown O7.out hg8.out (by simp) hg8.out.size;have HK8:Hid (ZR [40] w w8):=hid ((HK6.out.trans (ZR.Zp HB67.out lr)).trans hK78);have HK58:Hid (ZR [40] W5 w8):=hid ((HK56.out.trans (ZR.Zp HB67.out lr)).trans hK78);have HU8:Hid (Yz w w8 gt (b i) (b (i+1)) [40] (some c2)):=hid ((HU6.out.trans (Yz.Zp HB67.out)).trans ⟨hg8.out.size,fun k t ht _ hn _=>hg8.out.block k ht.lt fun e'=>by
    have ht':=YC O7.out e'.symm;rw [ht.same ht'] at hn;exact hn (by simp) (HYb.out k e'.symm).2⟩)
   have HX8:Hid (Zf base (some c2) w w8):=hid (((HX6.out.mono hbz).post (HB67.out.mono (by omega))).post (Below.grown (Below.refl base w7) hg8.out (by omega) (Zu O7.out)));have hs8:=hg8.out.size;have e8:w8.cell? ⟨gt,i*5+4,none⟩=some (.slice Y t.ZS.length y):=(World.cell?_of_block (w:=w) (HK8.out.block gt _ HGt.out (by decide))).trans hg4;have f8:w8.frozen? ⟨gt,i*5+4,none⟩=false:=(World.frozen?_of_block (w:=w) (HK8.out.block gt _ HGt.out (by decide))).trans (HGf.out _);have hc8: ∀ f u,w7.cell? ⟨c2,f,none⟩=some u→w8.cell? ⟨c2,f,none⟩=some u:=fun f u hu=>(World.cell?_of_block (hg8.out.block c2 (by omega) (fun e=>by have:=Zu O7.out c2 e.symm;omega))).trans hu
   have HD':=(show (fun w'=>w'.cell? ⟨gt,i*5+4,none⟩=some (.slice Y t.ZS.length y)∧w'.cell? ⟨c2,0,none⟩=some (.string (Z9 r.name))∧w'.cell? ⟨c2,1,none⟩=some (.int .i64 r.ZQ)∧w'.cell? ⟨c2,2,none⟩=some (.slice A' r.ZX.length c')∧w'.cell? ⟨c2,3,none⟩=some (.int .i64 r.low)∧w'.cell? ⟨c2,4,none⟩=some (.int .i64 r.ZF)∧w'.cell? ⟨c2,5,none⟩=some (.string (Z9 r.Z8))∧w'.cell? ⟨c2,6,none⟩=some (.string (Z9 r.ZY))∧w'.cell? ⟨c2,7,none⟩=some (.string (Z9 r.key))) w8 from ⟨e8,hc8 _ _ HD'.2.1,hc8 _ _ HD'.2.2.1,hc8 _ _ HD'.2.2.2.1,hc8 _ _ HD'.2.2.2.2.1,hc8 _ _ HD'.2.2.2.2.2.1,hc8 _ _ HD'.2.2.2.2.2.2.1,hc8 _ _ HD'.2.2.2.2.2.2.2.1,hc8 _ _ HD'.2.2.2.2.2.2.2.2⟩)
   refine hK.out _ _ HD' ?_
   clear hK K;(try simp only [pp])
   refine Vd 8 56 fun K hK=> ?_
   go_simp;refine hK.out _ _ HD' ?_
   clear hK K;(try simp only [pp])
   refine Vd 9 57 fun K hK=> ?_
   go_simp;refine hK.out _ _ HD' ?_
   clear hK K;(try simp only [pp])
   refine YI.Xo (i:=10) (o:=⟨none,_,_,_,_,_⟩) (by kernel_rfl) rfl rfl (fun K hK=> ?_)
   go_simp;refine hK.out _ _ (YI.done (by kernel_rfl) ?_ _);clear hK K;refine Sk _ fun W9 hW=> ?_
   have HT8:Hid (w8.ownsRow base 73 5 (.slice (some ⟨gt,0,none⟩) o.Z7.length l1) o.Z7.length (ts.flatMap Za.cs)):=hid (HIn.out.Z7.keeps HK8.out (by decide));have HT9:Hid (W9.ownsRow base 73 5 (.slice (some ⟨gt,0,none⟩) o.Z7.length l1) o.Z7.length ((ts.set i ({ t with ZS:=t.ZS ++ [r]},X,x,A8,c8)).flatMap Za.cs)):=hid (by rw [hW];exact HPut.out w8 HT8.out 4 (by omega) _ _ (by simp [Za.cs,Tb.cs]));have HK89:Hid (ZR [73] w8 W9):=hid (by rw [hW];exact ZR.Zx (HK8.out.Xr HGt.out (by decide)) (by simp) _);have HU9:Hid (Yz w W9 gt (b i) (b (i+1)) [40] (some c2)):=hid (by rw [hW];exact HU8.out.trans (Yz.Zx _));have HX9:Hid (Zf base (some c2) w W9):=hid (by rw [hW];exact HX8.out.post (br.setCell hgb _));have e9:W9.cell? ⟨gt,i*5+4,none⟩=some (.slice A8 (t.ZS.length+1) c8):=by
    have hc:=Xg HT9.out (i:=i) (by simpa using hi') 4 (by omega) (.slice A8 (t.ZS ++ [r]).length c8) (by rw [List.getElem_set_self];rfl);rw [List.length_append] at hc;exact hc
   have hz9:w8.heap.size≤W9.heap.size:=HK89.out.size;clear hW e8 f8 HD' hkp;have HO9:Hid (W9.ownsRow base 40 8 (.slice A8 (rs ++ [((r,A',c'):Yv)]).length c8) (rs ++ [((r,A',c'):Yv)]).length ((rs ++ [((r,A',c'):Yv)]).flatMap Yv.cs)):=hid (by
    have h1:=HO8.out.keeps HK89.out (by decide);rw [List.length_append,hrl,List.flatMap_append];simpa [Yv.cs,Ru.cs] using h1)
   have cSo:=Qf base (rs ++ [((r,A',c'):Yv)]) A8 c8 W9 HO9.out (by simp) (by simp;omega);rw [show (rs ++ [((r,A',c'):Yv)]).length=t.ZS.length+1 from by simp [hrl]] at cSo;go_wp2_with fail;refine cSo.mono ?_
   rintro e W10 ⟨rfl,l',hp',hs',ho',hb',hk',hf'⟩;have HF:Hid (WT (some c2) w base p gt B0 l0 l1 o (Xc o r i) (.returned (.int .i64 0)) W10):=hid (by
    have hl':l'.length=t.ZS.length+1:=by rw [hp'.length_eq];simp [hrl]
    have hK10:ZR [40,73] w W10:=((HK8.out.Ya (by simp)).trans (HK89.out.Ya (by simp))).trans (hk'.Ya (by simp));have hK510:ZR [40,73] W5 W10:=((HK58.out.Ya (by simp)).trans (HK89.out.Ya (by simp))).trans (hk'.Ya (by simp));have hU10:Yz w W10 gt (b i) (b (i+1)) [40] (some c2):=HU9.out.Jn (e:=40) hf' (by simp) fun k hk hkl=>by
     rcases hl8.out with h1 | h1
     ·exact HYb.out k (by rw [←h1];simpa [hrl] using hk)
     ·have h2:some k=some w7.heap.size:=by rw [←h1];simpa [hrl] using hk.symm
      injection h2 with h2
      omega
    have hd: ∀ t,t∈ [9]→t∉ [40,73]:=by decide
    have hrow10:W10.ownsRow base 73 5 (.slice (some ⟨gt,0,none⟩) o.Z7.length l1) o.Z7.length ((ts.set i ({ t with ZS:=l'.map (·.1)},X,x,A8,c8)).flatMap Za.cs):=by
     have h1:=HT9.out.keeps hk' (by decide);have e1:Za.cs ({ t with ZS:=t.ZS ++ [r]},X,x,A8,c8)=Za.cs ({ t with ZS:=l'.map (·.1)},X,x,A8,c8):=by simp [Za.cs,Tb.cs,hl']
     rwa [RP hi' e1] at h1
    refine VE (us:= [40]) (t':=({ t with ZS:=l'.map (·.1)},X,x,A8,c8)) HIn.out hi' HP.out hU10 (by decide) (by decide) (fun c hc=>by injection hc with hc;omega) hpb hrow10 (UN HTab.out hK10 (by decide) hlob ⟨l',rfl,by simpa [hl',hrl] using ho',fun z hz=> ?_⟩) (HX9.out.post hb') (HRk.out (by simp) HAt.out (by omega) (fun h=>absurd h HH4.out) _ ?_ ?_)
    ·rcases List.mem_append.1 (hp'.subset hz) with hz1 | hz1
     ·obtain⟨h1,h2⟩:=HRa.out z hz1;exact⟨h1.Y6 (fun k hk=>((hk.1.keeps hK10 hd).1).mono hlob (fun _ h=>h)) (fun _ hp=>World.cell?_of_block (hp.1.keeps hK10 hd).2),h2⟩
     ·rw [List.mem_singleton.1 hz1];exact⟨(HS5.out.WD hK510 hd).UF (by omega) (fun _ h=>h),HBdr.out⟩
    ·have h1:=hp'.map (·.1);rw [List.map_append,HRm.out] at h1;exact h1
    ·intro a b ha hb hab;rw [List.getElem_map,List.getElem_map];exact hs' a b (by simpa using ha) (by simpa using hb) hab)
   clear hp' hs' ho' hb' hk' hf' cSo;go_wp2;go_ret;exact HF.out
def VI (o:Ob)(nm ow:List UInt8)(er:Int)(o':Ob):Prop:=
 (o'=o∧((er=1∧(Zr nm && Zr ow)=false)∨(er=60∧(WY o.Z4 nm).isSome=true)∨(er=2∧8≤o.Z4.length)))∨
 (er=0∧Zr nm=true∧Zr ow=true∧WY o.Z4 nm=none∧o.Z4.length<8∧ ∃ ss':List Sc,ss'.Perm (o.Z4 ++ [⟨nm,ow⟩])∧(∀ (a b:Nat) (ha:a<ss'.length) (hb:b<ss'.length),a<b→0≤WO ss'[b] ss'[a])∧o'=⟨ss',o.Z7⟩)
def Vp (o:Ob)(nm:List UInt8)(er:Int)(o':Ob):Prop:=(er≠0∧o'=o)∨(er=0∧ ∃ k,WY o.Z4 nm=some k∧XC o nm=0∧o'=⟨o.Z4.eraseIdx k,o.Z7⟩)
section
variable {w w' : World} {base p : Nat} {o : Ob} {B0 : Option Addr} {l0 : Nat} {B1 : Option Addr} {l1 : Nat} {ts : List Za} {b : Nat → Nat} {R : Int → Ob → Prop}
theorem TJ {er:Int}{x:Option Nat}(hin:WH w base o B0 l0 B1 l1 ts b)(hbz:base≤w.heap.size)(hp:ZP w p 26 [.slice B0 o.Z4.length l0,.slice B1 o.Z7.length l1])(hb:Below w.heap.size w w')(hR:R er o):U6 x w base p R (.returned (.int .i64 er)) w':=
 ⟨er,o,B0,l0,B1,l1,rfl,hR,hp.below hb hp.lt,hin.t.keeps (ZR.Zp (ts:= []) hb lr) (by simp),(hb.mono hbz).x _⟩
theorem Sw (hin:WH w base o B0 l0 B1 l1 ts b)(hbd: ∀ j,j≤ts.length→b j≤w.heap.size):base≤w.heap.size:=by
 have:=hin.low;have:=hbd 0 (Nat.zero_le _);omega
theorem Rr {T:TypeId}{ss:List Sc}{A:Option Addr}{c:Nat}(h:w.ownsRow base 89 2 (.slice A ss.length c) ss.length (ss.flatMap Sc.cs)):ZV w (Xn w OT) Zh (ss.map Sc.da) A:=by
 have h2:=Yk (S:=fun _=>False) (sh:=Zh) Sc.da id Sc.k h rfl (fun a _=>Sc.VH a);rw [List.map_id] at h2;exact h2.Y6 (fun k hk=>hk.elim (fun h=>h.elim) (fun h=>h.Sz (by simp [OT]))) (fun _ _=>rfl)
end
theorem Oa (o:Ob)(nm ow:List UInt8)(c1 c2:Nat)(w0:World)(ho:o.Zv 1099511627776)(h1:ZP w0 c1 9 [.string (Z9 nm)])(h2:ZP w0 c2 9 [.string (Z9 ow)]):QI none 194 #[.pointer (some ⟨c1,0,none⟩),.pointer (some ⟨c2,0,none⟩)] o w0 (VI o nm ow):=by
 intro w base p B0 l0 B1 l1 ts b hbase hw0 hin hbd hp hpb hck;have hbz:=Sw hin hbd;have hwz:=hw0.size;have hpl:=hp.lt;have HIn:=hid hin;have HP:=hid hp;have HOb:=hid ho;have hsl:=ho.1;have htl:=ho.2.1;have a0:w.cell? ⟨p,0,none⟩=some (.slice B0 o.Z4.length l0):=hp.cell 0;have a1:w.cell? ⟨p,1,none⟩=some (.slice B1 o.Z7.length l1):=hp.cell 1;have hpf:=fun i=>hp.frozen i
 have H1:=hid (h1.below hw0 h1.lt);have H2:=hid (h2.below hw0 h2.lt);have hc1:=h1.lt;have hc2:=h2.lt;have HNo:Hid (∀ er W,((er=1∧(Zr nm && Zr ow)=false)∨(er=60∧(WY o.Z4 nm).isSome=true)∨(er=2∧8≤o.Z4.length))→Below w.heap.size w W→U6 none w base p (VI o nm ow) (.returned (.int .i64 er)) W):=hid fun er W h h2=>TJ HIn.out hbz HP.out h2 (Or.inl ⟨rfl,h⟩)
 have HYes:Hid (∀ ss':List Sc,Zr nm=true→Zr ow=true→WY o.Z4 nm=none→o.Z4.length<8→ss'.Perm (o.Z4 ++ [⟨nm,ow⟩])→(∀ (a b:Nat) (ha:a<ss'.length) (hb:b<ss'.length),a<b→0≤WO ss'[b] ss'[a])→VI o nm ow 0 ⟨ss',o.Z7⟩):=hid fun ss' h1 h2 h3 h4 h5 h6=>Or.inr ⟨rfl,h1,h2,h3,h4,ss',h5,h6,rfl⟩
 have a2:=ce H1 0;have a3:=ce H2 0;have hkeep:Hid (∀ w1 w2,(fun w'=>Below w.heap.size w w'∧w'.cell? ⟨p,0,none⟩=some (.slice B0 o.Z4.length l0)∧w'.cell? ⟨p,1,none⟩=some (.slice B1 o.Z7.length l1)∧w'.cell? ⟨c1,0,none⟩=some (.string (Z9 nm))) w1→Below w1.heap.size w1 w2→(fun w'=>Below w.heap.size w w'∧w'.cell? ⟨p,0,none⟩=some (.slice B0 o.Z4.length l0)∧w'.cell? ⟨p,1,none⟩=some (.slice B1 o.Z7.length l1)∧w'.cell? ⟨c1,0,none⟩=some (.string (Z9 nm))) w2):=hid (by
  intro w1 w2 ⟨h1,g0,g1,g2⟩ h6;exact⟨h1.trans (h6.mono h1.size),(h6.cell (World.block_lt_of_cell? w1 _ g0)).trans g0,(h6.cell (World.block_lt_of_cell? w1 _ g1)).trans g1,(h6.cell (World.block_lt_of_cell? w1 _ g2)).trans g2⟩)
 have HBy:Hid (∀ W,Below w.heap.size w W→Calls Tryz.prog 159 #[.slice B0 o.Z4.length l0,.string (Z9 nm),.func (.func 160) #[] #[]] W fun e w'=>e= .returned (.int .i64 (Xe (WY o.Z4 nm)))∧Below W.heap.size W w'):=hid (by
  intro W hW;have cB:=WK (o.Z4.map Sc.da) B0 l0 nm W (HIn.out.r.sc.later hW) (by simpa using hsl);rwa [List.length_map,UB] at cB)
 have hn1:=fun W=>YL nm W
 have hn2:=fun W=>YL ow W
 clear hin hbd hp hck hw0 h1 h2 ho;generalize Zr nm=n1 at*;generalize Zr ow=n2 at*;go_enter Tryz.func194,Tryz.ntmps194
 go_wp2_with fail;refine(hn1 _).mono ?_
 rintro e w2 ⟨rfl,m1,rfl⟩
 cases n1
 ·go_wp2;go_ret;exact HNo.out 1 _ (Or.inl ⟨rfl,rfl⟩) (below_drewN br m1)
 have b3:(w.drewN m1).cell? ⟨c2,0,none⟩=some (.string (Z9 ow)):=a3;go_wp2_with fail;refine(hn2 _).mono ?_
 rintro e w2 ⟨rfl,m2,rfl⟩;have HB2:Hid (Below w.heap.size w (w.drewN (m1+m2))):=hid (below_drewN br (m1+m2))
 cases n2
 ·go_wp2;go_ret;exact HNo.out 1 _ (Or.inl ⟨rfl,rfl⟩) HB2.out
 clear b3;go_upto_region 3 with fail
 refine Uv _ fun W hW=> ?_
 have hWB:Below w.heap.size w W:=by rw [hW];exact HB2.out
 have HB3:=hid hWB;have hW0:Below w.heap.size w W.drew:=hWB.drew;have d0:W.cell? ⟨p,0,none⟩=some (.slice B0 o.Z4.length l0):=ct a0 hWB hpl;have d1:W.cell? ⟨p,1,none⟩=some (.slice B1 o.Z7.length l1):=ct a1 hWB hpl;have d2:W.cell? ⟨c1,0,none⟩=some (.string (Z9 nm)):=(hWB.cell (p:=⟨c1,0,none⟩) (by show c1<_;omega)).trans a2
 clear hW hWB HB2;go_region_held_law (fun w'=>Below w.heap.size w w'∧w'.cell? ⟨p,0,none⟩=some (.slice B0 o.Z4.length l0)∧w'.cell? ⟨p,1,none⟩=some (.slice B1 o.Z7.length l1)∧w'.cell? ⟨c1,0,none⟩=some (.string (Z9 nm)))
  (first | exact hkeep.out _ _ (by assumption) (by assumption) | exact⟨hW0,d0,d1,d2⟩)
  (first | (go_at_call 159;refine(HBy.out _ (by first | exact hW0 | assumption)).mono ?_;rintro e w' ⟨rfl,hb⟩))
 rename_i hS
 cases hat:WY o.Z4 nm with
 | some k=>
  have hk:(0:Int)≤(k:Int):=by omega
  have hb:=hS.1;rw [show Xe (some k)=(k:Int) from rfl];clear hS;go_wp2;go_ret;exact HNo.out 60 _ (Or.inr (Or.inl ⟨rfl,by rw [hat];rfl⟩)) hb
 | none=>
  have HAt:=hid hat;clear hat d0 d1 d2 hW0;obtain⟨hB4,d0,d1,d2⟩:=hS;have HB4:=hid hB4;rw [show Xe (none:Option Nat)= -1 from rfl];by_cases h8:8≤o.Z4.length
  ·have h8':(o.Z4.length:Int)≥8:=by omega
   have h8'':(8:Int)≤(o.Z4.length:Int):=by omega
   clear hB4;go_wp2;go_ret;exact HNo.out 2 _ (Or.inr (Or.inr ⟨rfl,h8⟩)) HB4.out
  have h8': ¬ (o.Z4.length:Int)≥8:=by omega
  have h8'': ¬ (8:Int)≤(o.Z4.length:Int):=by omega
  have d3:w'.cell? ⟨c2,0,none⟩=some (.string (Z9 ow)):=(hB4.cell (p:=⟨c2,0,none⟩) (by show c2<_;omega)).trans a3;clear hB4 hkeep;have hkp:Hid (∀ w1 w2,(fun w'=>w'.cell? ⟨p,0,none⟩=some (.slice B0 o.Z4.length l0)∧w'.cell? ⟨c1,0,none⟩=some (.string (Z9 nm))∧w'.cell? ⟨c2,0,none⟩=some (.string (Z9 ow))) w1→Below w1.heap.size w1 w2→(fun w'=>w'.cell? ⟨p,0,none⟩=some (.slice B0 o.Z4.length l0)∧w'.cell? ⟨c1,0,none⟩=some (.string (Z9 nm))∧w'.cell? ⟨c2,0,none⟩=some (.string (Z9 ow))) w2):=hid (by
   intro w1 w2 ⟨g0,g1,g2⟩ h6;exact⟨(h6.cell (World.block_lt_of_cell? w1 _ g0)).trans g0,(h6.cell (World.block_lt_of_cell? w1 _ g1)).trans g1,(h6.cell (World.block_lt_of_cell? w1 _ g2)).trans g2⟩)
  go_upto_region 7 with fail
  refine YB 12 (S:=fun w'=>w'.cell? ⟨p,0,none⟩=some (.slice B0 o.Z4.length l0)∧w'.cell? ⟨c1,0,none⟩=some (.string (Z9 nm))∧w'.cell? ⟨c2,0,none⟩=some (.string (Z9 ow))) (by kernel_rfl) ⟨d0,d2,d3⟩ (fun HD'=> ?_)
  (try simp only [pp]);refine Xk 0 29 HD' ?_;refine Xk 1 30 HD' ?_;refine Xk 2 31 HD' ?_;refine Xk 3 32 HD' ?_;refine Xk 4 33 HD' ?_;refine Xk 5 34 HD' ?_;refine Xk 6 35 HD' ?_;refine Xk 7 36 HD' ?_;refine Vd 8 37 fun K hK=> ?_
  go_simp;refine JC _ fun w6 h6=> ?_
  have HBd:Below w'.drew.heap.size w'.drew w6:=by rw [h6];exact br.alloc lr _
  have N6:Hid (ZP w6 w'.heap.size 89 [.string (Z9 nm),.string (Z9 ow)]):=hid (by rw [h6];exact ZP.new w'.drew _ _);clear h6;have HB6:Hid (Below w.heap.size w w6):=hid (HB4.out.drew.trans (HBd.mono HB4.out.drew.size));have HD':=hkp.out _ _ HD' HBd;refine hK.out _ _ HD' ?_
  clear hK K;(try simp only [pp])
  refine Vd 9 38 fun K hK=> ?_
  have O6:=hid (HIn.out.Z4.Zw HB6.out);obtain⟨i0,hi0,hz0,hz1,hz2⟩:=info_parts UX;have hs6:=HB6.out.size;refine Uz rfl _ _ _ rfl base 89 i0 _ 2 32 Tryz.underlying23 hi0 hz0 hz1 hz2 rfl (by decide) (.slice B0 o.Z4.length l0) o.Z4.length _ rfl O6.out ⟨w'.heap.size,0,none⟩ 1 1 [.string (Z9 nm),.string (Z9 ow)] rfl rfl (ZP.news N6.out) (by simp [Value.oneCell']) (by unfold maxLen;omega) (by omega) (by omega) ?_
  intro A7 c7 w7 HO7 hg7;have hK67:ZR [89] w6 w7:=ZR.grown O6.out hg7.out (by simp) hg7.out.size;have HK7:Hid (ZR [89] w w7):=hid ((ZR.Zp HB6.out lr).trans hK67);have HB7:Hid (Below base w w7):=hid ((HB6.out.mono hbz).grown hg7.out (by omega) (Zu O6.out));have hs7:=hg7.out.size;have P7:=hid (HP.out.keeps HK7.out (by decide));have hc7: ∀ c f u,c<base→w.cell? ⟨c,f,none⟩=some u→w7.cell? ⟨c,f,none⟩=some u:=fun c f u hc hu=>ct hu HB7.out hc
  have HD':=(show (fun w'=>w'.cell? ⟨p,0,none⟩=some (.slice B0 o.Z4.length l0)∧w'.cell? ⟨c1,0,none⟩=some (.string (Z9 nm))∧w'.cell? ⟨c2,0,none⟩=some (.string (Z9 ow))) w7 from ⟨P7.out.cell 0,hc7 _ _ _ (by omega) a2,hc7 _ _ _ (by omega) a3⟩)
  refine hK.out _ _ HD' ?_
  clear hK K;(try simp only [pp])
  refine Vd 10 39 fun K hK=> ?_
  go_simp;refine hK.out _ _ HD' ?_
  clear hK K;(try simp only [pp])
  refine Vd 11 40 fun K hK=> ?_
  go_simp;refine hK.out _ _ HD' ?_
  clear hK K;(try simp only [pp])
  refine YI.Xo (i:=12) (o:=⟨none,_,_,_,_,_⟩) (by kernel_rfl) rfl rfl (fun K hK=> ?_)
  have e7:=ce P7 0;have f7:=P7.out.frozen 0;go_simp;refine hK.out _ _ (YI.done (by kernel_rfl) ?_ _);clear hK K;refine Sk _ fun W9 hW=> ?_
  have P9:=rB hW (P7.out.Zx 0 _);have HK79:Hid (ZR [26] w7 W9):=hid (by rw [hW];exact ZR.Zx P7.out.Xr (by simp) _);have HB9:Hid (Below base w W9):=hid (by rw [hW];exact HB7.out.setCell hpb _);have e9:=ce P9 0;clear hW e7 f7 HD' hkp;have HO9:Hid (W9.ownsRow base 89 2 (.slice A7 (o.Z4 ++ [(⟨nm,ow⟩:Sc)]).length c7) (o.Z4 ++ [(⟨nm,ow⟩:Sc)]).length ((o.Z4 ++ [(⟨nm,ow⟩:Sc)]).flatMap Sc.cs)):=hid (by
   have h1:=HO7.out.keeps HK79.out (by decide);rw [List.length_append,List.flatMap_append];simpa [Sc.cs] using h1)
  have cSo:=Oj base (o.Z4 ++ [(⟨nm,ow⟩:Sc)]) A7 c7 W9 HO9.out (by simp) (by simp;omega);rw [show (o.Z4 ++ [(⟨nm,ow⟩:Sc)]).length=o.Z4.length+1 from by simp] at cSo;go_wp2_with fail;refine cSo.mono ?_
  rintro e W10 ⟨rfl,l',hp',hs',ho',hb',hk',hf'⟩;have HF:Hid (U6 none w base p (VI o nm ow) (.returned (.int .i64 0)) W10):=hid (by
   have hl':l'.length=o.Z4.length+1:=by rw [hp'.length_eq];simp
   have hK10:ZR [89,26] w W10:=((HK7.out.Ya (by simp)).trans (HK79.out.Ya (by simp))).trans (hk'.Ya (by simp));refine⟨0,⟨l',o.Z7⟩,A7,c7,B1,l1,rfl,HYes.out l' (by simp) (by simp) HAt.out (by omega) hp' hs',by rw [hl'];exact P9.out.keeps hk' (by decide),⟨Rr (T:=0) (base:=base) (c:=c7) (by rw [hl'];simpa [hl'] using ho'),?_⟩,(HB9.out.trans hb').x _⟩
   have h1:=HIn.out.tb.Y6 (S':=Xn w [73,119,40,9]) (fun k hk=>hk.Sz (fun _ h=>h)) (fun _ _=>rfl);exact(ZB h1 hK10 (by decide)).Y6 (fun k ⟨t,h1,h2⟩=>⟨t,List.mem_cons_of_mem _ h1,h2⟩) (fun _ _=>rfl))
  clear hp' hs' ho' hb' hk' hf' cSo;go_wp2;go_ret;exact HF.out
theorem OU (o:Ob)(nm:List UInt8)(c1:Nat)(w0:World)(ho:o.Zv 1099511627776)(h1:ZP w0 c1 9 [.string (Z9 nm)]):QI none 197 #[.pointer (some ⟨c1,0,none⟩)] o w0 (Vp o nm):=by
 intro w base p B0 l0 B1 l1 ts b hbase hw0 hin hbd hp hpb hck;have hbz:=Sw hin hbd;have hwz:=hw0.size;have hpl:=hp.lt;have HIn:=hid hin;have HP:=hid hp;have HOb:=hid ho;have hsl:=ho.1;have htl:=ho.2.1;have a0:w.cell? ⟨p,0,none⟩=some (.slice B0 o.Z4.length l0):=hp.cell 0;have a1:w.cell? ⟨p,1,none⟩=some (.slice B1 o.Z7.length l1):=hp.cell 1;have hpf:=fun i=>hp.frozen i
 have H1:=hid (h1.below hw0 h1.lt);have hc1:=h1.lt;have HNo:Hid (∀ er W,er≠0→Below w.heap.size w W→U6 none w base p (Vp o nm) (.returned (.int .i64 er)) W):=hid fun er W h h2=>TJ HIn.out hbz HP.out h2 (Or.inl ⟨h,rfl⟩)
 have HYes:Hid (∀ k,WY o.Z4 nm=some k→XC o nm=0→Vp o nm 0 ⟨o.Z4.eraseIdx k,o.Z7⟩):=hid fun k h1 h2=>Or.inr ⟨rfl,k,h1,h2,rfl⟩
 have a2:=ce H1 0;have hkeep:Hid (∀ w1 w2,(fun w'=>Below w.heap.size w w'∧w'.cell? ⟨p,0,none⟩=some (.slice B0 o.Z4.length l0)∧w'.cell? ⟨p,1,none⟩=some (.slice B1 o.Z7.length l1)∧w'.cell? ⟨c1,0,none⟩=some (.string (Z9 nm))) w1→Below w1.heap.size w1 w2→(fun w'=>Below w.heap.size w w'∧w'.cell? ⟨p,0,none⟩=some (.slice B0 o.Z4.length l0)∧w'.cell? ⟨p,1,none⟩=some (.slice B1 o.Z7.length l1)∧w'.cell? ⟨c1,0,none⟩=some (.string (Z9 nm))) w2):=hid (by
  intro w1 w2 ⟨h1,g0,g1,g2⟩ h6;exact⟨h1.trans (h6.mono h1.size),(h6.cell (World.block_lt_of_cell? w1 _ g0)).trans g0,(h6.cell (World.block_lt_of_cell? w1 _ g1)).trans g1,(h6.cell (World.block_lt_of_cell? w1 _ g2)).trans g2⟩)
 have HBy:Hid (∀ W,Below w.heap.size w W→Calls Tryz.prog 159 #[.slice B0 o.Z4.length l0,.string (Z9 nm),.func (.func 160) #[] #[]] W fun e w'=>e= .returned (.int .i64 (Xe (WY o.Z4 nm)))∧Below W.heap.size W w'):=hid (by
  intro W hW;have cB:=WK (o.Z4.map Sc.da) B0 l0 nm W (HIn.out.r.sc.later hW) (by simpa using hsl);rwa [List.length_map,UB] at cB)
 have HWi:Hid (∀ W,Below w.heap.size w W→Calls Tryz.prog 108 #[.agg #[.slice B0 o.Z4.length l0,.slice B1 o.Z7.length l1],.string (Z9 nm)] W fun e w'=>e= .returned (.int .i64 (XC o nm))∧Below W.heap.size W w'):=hid (by
  intro W hW;have cB:=TY (o.Z4.map Sc.da) (o.Z7.map Tb.da) B0 l0 B1 l1 nm W (HIn.out.r.tb.later hW) (by simpa using htl);rwa [List.length_map,List.length_map,Rh] at cB)
 have hW0:Below w.heap.size w w.drew:=br.drew;clear hin hbd hp hck hw0 h1 ho;generalize XC o nm=wn at*;go_enter Tryz.func197,Tryz.ntmps197
 go_upto_region 1 with fail
 go_region_held_law (fun w'=>Below w.heap.size w w'∧w'.cell? ⟨p,0,none⟩=some (.slice B0 o.Z4.length l0)∧w'.cell? ⟨p,1,none⟩=some (.slice B1 o.Z7.length l1)∧w'.cell? ⟨c1,0,none⟩=some (.string (Z9 nm)))
  (first | exact hkeep.out _ _ (by assumption) (by assumption) | exact⟨hW0,a0,a1,a2⟩)
  (first | (go_at_call 159;refine(HBy.out _ (by first | exact hW0 | assumption)).mono ?_;rintro e w' ⟨rfl,hb⟩))
 rename_i hS
 cases hat:WY o.Z4 nm with
 | none=>
  have hb:=hS.1;rw [show Xe (none:Option Nat)= -1 from rfl];clear hS;go_wp2;go_ret;exact HNo.out 61 _ (by decide) hb
 | some k=>
  have HAt:=hid hat;obtain⟨hkl,_⟩:=Xa (show o.Z4.findIdx? (fun s=>s.name == nm)=some k from hat);clear hat;have hk:(0:Int)≤(k:Int):=by omega
  have hk2: ¬ (k:Int)<0:=by omega
  rw [show Xe (some k)=(k:Int) from rfl];obtain⟨hB4,d0,d1,d2⟩:=hS;have HB4:=hid hB4;have hW1:=hB4.drew;clear hB4 hW0;go_upto_region 4 with fail
  go_region_held_law (fun w'=>Below w.heap.size w w'∧w'.cell? ⟨p,0,none⟩=some (.slice B0 o.Z4.length l0)∧w'.cell? ⟨p,1,none⟩=some (.slice B1 o.Z7.length l1)∧w'.cell? ⟨c1,0,none⟩=some (.string (Z9 nm)))
   (first | exact hkeep.out _ _ (by assumption) (by assumption) | exact⟨hW1,d0,d1,d2⟩)
   (first | (go_at_call 108;refine(HWi.out _ (by first | exact hW1 | assumption)).mono ?_;rintro e w' ⟨rfl,hb⟩))
  rename_i hS;clear d0 d1 d2;obtain⟨hB5,d0,d1,d2⟩:=hS;have HB5:=hid hB5;clear hB5;by_cases hwn:wn=0
  case neg=>
   have hw1:(wn:Int) > 0:=by omega
   have hw2:(0:Int)< (wn:Int):=by omega
   go_wp2;go_ret;exact HNo.out 62 _ (by decide) HB5.out
  have HWn:=hid hwn;have hw1: ¬ (wn:Int) > 0:=by omega
  have hw2: ¬ (0:Int)< (wn:Int):=by omega
  clear hwn;have O6:=hid (HIn.out.Z4.Zw HB5.out);have hwr:IntKind.i64.wrap ((k:Int)+1)=(k:Int)+1:=by
   simp [IntKind.wrap,IntKind.bits,IntKind.signed];omega
  go_wp2_with fail;refine(QY base o.Z4 B0 l0 k _ O6.out hkl hsl).mono ?_
  rintro e w7 ⟨rfl,ho7,hb7,hk7,hf7⟩;have HO7:=hid ho7;have hs5:=HB5.out.size;have P7:=hid ((HP.out.below HB5.out hpl).keeps hk7 (by decide));have HK7:Hid (ZR [89] w w7):=hid ((ZR.Zp HB5.out lr).trans hk7);have HB7:Hid (Below base w w7):=hid ((HB5.out.mono hbz).trans hb7);have e7:=ce P7 0;have f7:=P7.out.frozen 0;have HF:Hid (∀ W,W=w7.setCell ⟨p,0,none⟩ (.slice B0 (o.Z4.length - 1:Nat) l0)→U6 none w base p (Vp o nm) (.returned (.int .i64 0)) W):=hid (by
   rintro W rfl;have hel:(o.Z4.eraseIdx k).length=o.Z4.length - 1:=List.length_eraseIdx_of_lt hkl;have hK8:ZR [26] w7 (w7.setCell ⟨p,0,none⟩ (.slice B0 (o.Z4.length - 1:Nat) l0)):=ZR.Zx P7.out.Xr (by simp) _;have hK10:ZR [89,26] w (w7.setCell ⟨p,0,none⟩ (.slice B0 (o.Z4.length - 1:Nat) l0)):=(HK7.out.Ya (by simp)).trans (hK8.Ya (by simp));refine⟨0,⟨o.Z4.eraseIdx k,o.Z7⟩,B0,l0,B1,l1,rfl,HYes.out k HAt.out HWn.out,by rw [hel];exact P7.out.Zx 0 _,⟨Rr (T:=0) (base:=base) (c:=l0) (by rw [hel];exact HO7.out.keeps hK8 (by decide)),?_⟩,(HB7.out.setCell hpb _).x _⟩;have h1:=HIn.out.tb.Y6 (S':=Xn w [73,119,40,9]) (fun k hk=>hk.Sz (fun _ h=>h)) (fun _ _=>rfl);exact(ZB h1 hK10 (by decide)).Y6 (fun k ⟨t,h1,h2⟩=>⟨t,List.mem_cons_of_mem _ h1,h2⟩) (fun _ _=>rfl))
  clear ho7 hb7 hk7 hf7;go_wp2;go_ret;exact HF.out _ rfl
def Ug (o:Ob)(t:Tb)(er:Int)(o':Ob):Prop:=(er≠0∧o'=o)∨
 (er=0∧Zr t.name=true∧Zr t.ZL=true∧(WY o.Z4 t.Z8).isSome=true∧Xs o t.Z8 t.name=none∧XC o t.Z8<8∧Yb t.ZX=true∧t.ZS= []∧
  ∃ ts':List Tb,ts'.Perm (o.Z7 ++ [t])∧(∀ (a b:Nat) (ha:a<ts'.length) (hb:b<ts'.length),a<b→0≤Xm ts'[b] ts'[a])∧o'=⟨o.Z4,ts'⟩)
theorem N9 (o:Ob)(t:Tb)(X:Option Addr)(x:Nat)(Y:Option Addr)(y:Nat)(c1:Nat)(w0:World)(ho:o.Zv 1099511627776)(ht:t.Zv 1099511627776)(h1:ZP w0 c1 73 [(.string (Z9 t.Z8)),(.string (Z9 t.name)),(.string (Z9 t.ZL)),(.slice X t.ZX.length x),(.slice Y t.ZS.length y)])(hX:ZV w0 (· < w0.heap.size) Zl (t.ZX.map Cl.da) X)(hY:ZV w0 (· < w0.heap.size) Yx (t.ZS.map Ru.da) Y):QI none 199 #[.pointer (some ⟨c1,0,none⟩)] o w0 (Ug o t):=by
 intro w base p B0 l0 B1 l1 ts b hbase hw0 hin hbd hp hpb hck;have hbz:=Sw hin hbd;have hwz:=hw0.size;have hpl:=hp.lt;have HIn:=hid hin;have HP:=hid hp;have HOb:=hid ho;have hsl:=ho.1;have htl:=ho.2.1;have a0:w.cell? ⟨p,0,none⟩=some (.slice B0 o.Z4.length l0):=hp.cell 0;have a1:w.cell? ⟨p,1,none⟩=some (.slice B1 o.Z7.length l1):=hp.cell 1;have hpf:=fun i=>hp.frozen i
 have H1:=hid (h1.below hw0 h1.lt);have HX:=hid (hX.later hw0);have HY:=hid (hY.later hw0);have HTm:=hid ht;have hc1:=h1.lt;have hcl:=ht.1;have ht64:o.Z7.length≤64:=by
  have h:=hck;unfold YT at h;simp only [Bool.and_eq_true,decide_eq_true_eq] at h;exact h.1.1.1.1.2
 have HNo:Hid (∀ er W,er≠0→Below w.heap.size w W→U6 none w base p (Ug o t) (.returned (.int .i64 er)) W):=hid fun er W h h2=>TJ HIn.out hbz HP.out h2 (Or.inl ⟨h,rfl⟩)
 have HYes:Hid (∀ ts':List Tb,Zr t.name=true→Zr t.ZL=true→(WY o.Z4 t.Z8).isSome=true→Xs o t.Z8 t.name=none→XC o t.Z8<8→Yb t.ZX=true→t.ZS= []→ts'.Perm (o.Z7 ++ [t])→(∀ (a b:Nat) (ha:a<ts'.length) (hb:b<ts'.length),a<b→0≤Xm ts'[b] ts'[a])→Ug o t 0 ⟨o.Z4,ts'⟩):=hid fun ts' h1 h2 h3 h4 h5 h6 h7 h8 h9=>Or.inr ⟨rfl,h1,h2,h3,h4,h5,h6,h7,ts',h8,h9,rfl⟩
 have d0:=a0;have d1:=a1;have d2:=ce H1 0;have d3:=ce H1 1;have d4:=ce H1 2;have d5:=ce H1 3;have d6:=ce H1 4;have HC:=hid (show w.cell? ⟨c1,0,none⟩=some (.string (Z9 t.Z8))∧w.cell? ⟨c1,1,none⟩=some (.string (Z9 t.name))∧w.cell? ⟨c1,2,none⟩=some (.string (Z9 t.ZL))∧w.cell? ⟨c1,3,none⟩=some (.slice X t.ZX.length x)∧w.cell? ⟨c1,4,none⟩=some (.slice Y t.ZS.length y) from ⟨d2,d3,d4,d5,d6⟩);have hkeep:Hid (∀ w1 w2,(fun w'=>Below w.heap.size w w'∧w'.cell? ⟨p,0,none⟩=some (.slice B0 o.Z4.length l0)∧w'.cell? ⟨p,1,none⟩=some (.slice B1 o.Z7.length l1)∧w'.cell? ⟨c1,0,none⟩=some (.string (Z9 t.Z8))∧w'.cell? ⟨c1,1,none⟩=some (.string (Z9 t.name))∧w'.cell? ⟨c1,2,none⟩=some (.string (Z9 t.ZL))∧w'.cell? ⟨c1,3,none⟩=some (.slice X t.ZX.length x)∧w'.cell? ⟨c1,4,none⟩=some (.slice Y t.ZS.length y)) w1→Below w1.heap.size w1 w2→(fun w'=>Below w.heap.size w w'∧w'.cell? ⟨p,0,none⟩=some (.slice B0 o.Z4.length l0)∧w'.cell? ⟨p,1,none⟩=some (.slice B1 o.Z7.length l1)∧w'.cell? ⟨c1,0,none⟩=some (.string (Z9 t.Z8))∧w'.cell? ⟨c1,1,none⟩=some (.string (Z9 t.name))∧w'.cell? ⟨c1,2,none⟩=some (.string (Z9 t.ZL))∧w'.cell? ⟨c1,3,none⟩=some (.slice X t.ZX.length x)∧w'.cell? ⟨c1,4,none⟩=some (.slice Y t.ZS.length y)) w2):=hid (by
  intro w1 w2 ⟨h1,g0,g1,g2,g3,g4,g5,g6⟩ h6;exact⟨h1.trans (h6.mono h1.size),(h6.cell (World.block_lt_of_cell? w1 _ g0)).trans g0,(h6.cell (World.block_lt_of_cell? w1 _ g1)).trans g1,(h6.cell (World.block_lt_of_cell? w1 _ g2)).trans g2,(h6.cell (World.block_lt_of_cell? w1 _ g3)).trans g3,(h6.cell (World.block_lt_of_cell? w1 _ g4)).trans g4,(h6.cell (World.block_lt_of_cell? w1 _ g5)).trans g5,(h6.cell (World.block_lt_of_cell? w1 _ g6)).trans g6⟩)
 have HWh:Hid (∀ W,Below w.heap.size w W→Calls Tryz.prog 57 #[.agg #[.slice B0 o.Z4.length l0,.slice B1 o.Z7.length l1],.string (Z9 t.Z8),.string (Z9 t.name)] W fun e w'=>e= .returned (.tuple #[.int .i64 (Xe (Xs o t.Z8 t.name)),.bool (Xs o t.Z8 t.name).isSome])∧Below W.heap.size W w'):=hid (by
  intro W hW;have cW:=Vt (o.Z4.map Sc.da) (o.Z7.map Tb.da) B0 l0 B1 l1 t.Z8 t.name W (HIn.out.r.tb.later hW) (by simpa using htl);rwa [List.length_map,List.length_map,Vu,UM] at cW)
 have HBy:Hid (∀ W,Below w.heap.size w W→Calls Tryz.prog 159 #[.slice B0 o.Z4.length l0,.string (Z9 t.Z8),.func (.func 160) #[] #[]] W fun e w'=>e= .returned (.int .i64 (Xe (WY o.Z4 t.Z8)))∧Below W.heap.size W w'):=hid (by
  intro W hW;have cB:=WK (o.Z4.map Sc.da) B0 l0 t.Z8 W (HIn.out.r.sc.later hW) (by simpa using hsl);rwa [List.length_map,UB] at cB)
 have HWi:Hid (∀ W,Below w.heap.size w W→Calls Tryz.prog 108 #[.agg #[.slice B0 o.Z4.length l0,.slice B1 o.Z7.length l1],.string (Z9 t.Z8)] W fun e w'=>e= .returned (.int .i64 (XC o t.Z8))∧Below W.heap.size W w'):=hid (by
  intro W hW;have cB:=TY (o.Z4.map Sc.da) (o.Z7.map Tb.da) B0 l0 B1 l1 t.Z8 W (HIn.out.r.tb.later hW) (by simpa using htl);rwa [List.length_map,List.length_map,Rh] at cB)
 have hn1:=fun W=>YL t.name W
 have hn2:=fun W=>YL t.ZL W
 have hmc:=fun W h=>UW t.ZX X x W h hcl
 have hW0:Below w.heap.size w w.drew:=br.drew;clear hin hbd hp hck hw0 h1 ho hX hY ht a0 a1;generalize Zr t.name=n1 at*;generalize Zr t.ZL=n2 at*;generalize Yb t.ZX=mc at*;generalize XC o t.Z8=wn at*;generalize Xs o t.Z8 t.name=ta at*;go_enter Tryz.func199,Tryz.ntmps199
 go_upto_region 1 with fail
 go_region_held_law (fun w'=>Below w.heap.size w w'∧w'.cell? ⟨p,0,none⟩=some (.slice B0 o.Z4.length l0)∧w'.cell? ⟨p,1,none⟩=some (.slice B1 o.Z7.length l1)∧w'.cell? ⟨c1,0,none⟩=some (.string (Z9 t.Z8))∧w'.cell? ⟨c1,1,none⟩=some (.string (Z9 t.name))∧w'.cell? ⟨c1,2,none⟩=some (.string (Z9 t.ZL))∧w'.cell? ⟨c1,3,none⟩=some (.slice X t.ZX.length x)∧w'.cell? ⟨c1,4,none⟩=some (.slice Y t.ZS.length y))
  (first | exact hkeep.out _ _ (by assumption) (by assumption) | exact⟨hW0,d0,d1,d2,d3,d4,d5,d6⟩)
  (first | (go_at_call 57;refine(HWh.out _ (by first | exact hW0 | assumption)).mono ?_;rintro e w' ⟨rfl,hb⟩))
 rename_i hS;clear d0 d1 d2 d3 d4 d5 d6;obtain⟨hB1,d0,d1,d2,d3,d4,d5,d6⟩:=hS;have HB1:=hid hB1;have hW1:=hB1.drew;clear hB1;go_wp2_with fail;refine(hn1 _).mono ?_
 rintro e w2 ⟨rfl,m1,rfl⟩;have HB2:Hid (Below w.heap.size w (w'.drewN m1)):=hid (below_drewN HB1.out m1)
 cases n1
 ·clear hW1 hW0;go_wp2;go_ret;exact HNo.out 1 _ (by decide) HB2.out
 have b4:(w'.drewN m1).cell? ⟨c1,2,none⟩=some (.string (Z9 t.ZL)):=d4;go_wp2_with fail;refine(hn2 _).mono ?_
 rintro e w2 ⟨rfl,m2,rfl⟩;have HB3:Hid (Below w.heap.size w (w'.drewN (m1+m2))):=hid (below_drewN HB1.out (m1+m2))
 cases n2
 ·clear hW1 hW0;go_wp2;go_ret;exact HNo.out 1 _ (by decide) HB3.out
 clear b4 hW1;go_upto_region 4 with fail
 refine Uv _ fun W hW=> ?_
 have hWB:Below w.heap.size w W:=by rw [hW];exact HB3.out
 have e0:W.cell? ⟨p,0,none⟩=some (.slice B0 o.Z4.length l0):=by rw [hW];exact d0
 have e1:W.cell? ⟨p,1,none⟩=some (.slice B1 o.Z7.length l1):=by rw [hW];exact d1
 have e2:W.cell? ⟨c1,0,none⟩=some (.string (Z9 t.Z8)):=by rw [hW];exact d2
 have e3:W.cell? ⟨c1,1,none⟩=some (.string (Z9 t.name)):=by rw [hW];exact d3
 have e4:W.cell? ⟨c1,2,none⟩=some (.string (Z9 t.ZL)):=by rw [hW];exact d4
 have e5:W.cell? ⟨c1,3,none⟩=some (.slice X t.ZX.length x):=by rw [hW];exact d5
 have e6:W.cell? ⟨c1,4,none⟩=some (.slice Y t.ZS.length y):=by rw [hW];exact d6
 clear hW d0 d1 d2 d3 d4 d5 d6 HB1 HB2 HB3 hW0;have d0:=e0;have d1:=e1;have d2:=e2;have d3:=e3;have d4:=e4;have d5:=e5;have d6:=e6;have HB4:=hid hWB;have hW4:=hWB.drew;clear hWB e0 e1 e2 e3 e4 e5 e6;go_region_held_law (fun w'=>Below w.heap.size w w'∧w'.cell? ⟨p,0,none⟩=some (.slice B0 o.Z4.length l0)∧w'.cell? ⟨p,1,none⟩=some (.slice B1 o.Z7.length l1)∧w'.cell? ⟨c1,0,none⟩=some (.string (Z9 t.Z8))∧w'.cell? ⟨c1,1,none⟩=some (.string (Z9 t.name))∧w'.cell? ⟨c1,2,none⟩=some (.string (Z9 t.ZL))∧w'.cell? ⟨c1,3,none⟩=some (.slice X t.ZX.length x)∧w'.cell? ⟨c1,4,none⟩=some (.slice Y t.ZS.length y))
  (first | exact hkeep.out _ _ (by assumption) (by assumption) | exact⟨hW4,d0,d1,d2,d3,d4,d5,d6⟩)
  (first | (go_at_call 159;refine(HBy.out _ (by first | exact hW4 | assumption)).mono ?_;rintro e w' ⟨rfl,hb⟩))
 rename_i hS
 cases hat:WY o.Z4 t.Z8 with
 | none=>
  have hb:=hS.1;rw [show Xe (none:Option Nat)= -1 from rfl];clear hS;go_wp2;go_ret;exact HNo.out 61 _ (by decide) hb
 | some k=>
  have HAt:=hid hat;clear hat;have hk: ¬ (k:Int)<0:=by omega
  rw [show Xe (some k)=(k:Int) from rfl];clear d0 d1 d2 d3 d4 d5 d6;obtain⟨hB5,d0,d1,d2,d3,d4,d5,d6⟩:=hS;have HB5:=hid hB5;have hW5:=hB5.drew;clear hB5
  cases ta with
  | some j=>
   clear hW5 hW4;go_wp2;go_ret;exact HNo.out 60 _ (by decide) HB5.out
  | none=>
  go_upto_region 8 with fail
  go_region_held_law (fun w'=>Below w.heap.size w w'∧w'.cell? ⟨p,0,none⟩=some (.slice B0 o.Z4.length l0)∧w'.cell? ⟨p,1,none⟩=some (.slice B1 o.Z7.length l1)∧w'.cell? ⟨c1,0,none⟩=some (.string (Z9 t.Z8))∧w'.cell? ⟨c1,1,none⟩=some (.string (Z9 t.name))∧w'.cell? ⟨c1,2,none⟩=some (.string (Z9 t.ZL))∧w'.cell? ⟨c1,3,none⟩=some (.slice X t.ZX.length x)∧w'.cell? ⟨c1,4,none⟩=some (.slice Y t.ZS.length y))
   (first | exact hkeep.out _ _ (by assumption) (by assumption) | exact⟨hW5,d0,d1,d2,d3,d4,d5,d6⟩)
   (first | (go_at_call 108;refine(HWi.out _ (by first | exact hW5 | assumption)).mono ?_;rintro e w' ⟨rfl,hb⟩))
  rename_i hS;clear d0 d1 d2 d3 d4 d5 d6;obtain⟨hB6,d0,d1,d2,d3,d4,d5,d6⟩:=hS;have HB6:=hid hB6;have hW6:=hB6.drew;clear hB6;by_cases h8:8≤wn
  ·have h8':(wn:Int)≥8:=by omega
   have h8'':(8:Int)≤(wn:Int):=by omega
   clear hW6 hW5 hW4;go_wp2;go_ret;exact HNo.out 2 _ (by decide) HB6.out
  have h8': ¬ (wn:Int)≥8:=by omega
  have h8'': ¬ (8:Int)≤(wn:Int):=by omega
  clear hW6 hW5 hW4;go_wp2_with fail;refine(hmc _ (HX.out.later HB6.out)).mono ?_
  rintro e W7 ⟨rfl,hb7⟩;have HB7:=bt HB6 hb7;clear hb7
  cases mc
  ·go_wp2;go_ret;exact HNo.out 63 _ (by decide) HB7.out
  have f4:W7.cell? ⟨c1,4,none⟩=some (.slice Y t.ZS.length y):=(HB7.out.cell (p:=⟨c1,4,none⟩) (by show c1<_;omega)).trans HC.out.2.2.2.2;by_cases hr0:t.ZS.length > 0
  ·have hr1:(t.ZS.length:Int) > 0:=by omega
   have hr2:(0:Int)< (t.ZS.length:Int):=by omega
   go_wp2;go_ret;exact HNo.out 63 _ (by decide) HB7.out
  have HR0:Hid (t.ZS= []):=hid (List.eq_nil_of_length_eq_zero (by omega));have hr1: ¬ (t.ZS.length:Int) > 0:=by omega
  have hr2: ¬ (0:Int)< (t.ZS.length:Int):=by omega
  go_upto_region 12 with fail
  have q1:=cd (HP.out.below HB7.out hpl) 1;have hc:=fun f=>HB7.out.cell (p:=⟨c1,f,none⟩) (by show c1<_;omega)
  have hkp:Hid (∀ w1 w2,(fun w'=>w'.cell? ⟨p,1,none⟩=some (.slice B1 o.Z7.length l1)∧w'.cell? ⟨c1,0,none⟩=some (.string (Z9 t.Z8))∧w'.cell? ⟨c1,1,none⟩=some (.string (Z9 t.name))∧w'.cell? ⟨c1,2,none⟩=some (.string (Z9 t.ZL))∧w'.cell? ⟨c1,3,none⟩=some (.slice X t.ZX.length x)∧w'.cell? ⟨c1,4,none⟩=some (.slice Y t.ZS.length y)) w1→Below w1.heap.size w1 w2→(fun w'=>w'.cell? ⟨p,1,none⟩=some (.slice B1 o.Z7.length l1)∧w'.cell? ⟨c1,0,none⟩=some (.string (Z9 t.Z8))∧w'.cell? ⟨c1,1,none⟩=some (.string (Z9 t.name))∧w'.cell? ⟨c1,2,none⟩=some (.string (Z9 t.ZL))∧w'.cell? ⟨c1,3,none⟩=some (.slice X t.ZX.length x)∧w'.cell? ⟨c1,4,none⟩=some (.slice Y t.ZS.length y)) w2):=hid (by
   intro w1 w2 ⟨g0,g1,g2,g3,g4,g5⟩ h6;exact⟨(h6.cell (World.block_lt_of_cell? w1 _ g0)).trans g0,(h6.cell (World.block_lt_of_cell? w1 _ g1)).trans g1,(h6.cell (World.block_lt_of_cell? w1 _ g2)).trans g2,(h6.cell (World.block_lt_of_cell? w1 _ g3)).trans g3,(h6.cell (World.block_lt_of_cell? w1 _ g4)).trans g4,(h6.cell (World.block_lt_of_cell? w1 _ g5)).trans g5⟩)
  refine YB 11 (S:=fun w'=>w'.cell? ⟨p,1,none⟩=some (.slice B1 o.Z7.length l1)∧w'.cell? ⟨c1,0,none⟩=some (.string (Z9 t.Z8))∧w'.cell? ⟨c1,1,none⟩=some (.string (Z9 t.name))∧w'.cell? ⟨c1,2,none⟩=some (.string (Z9 t.ZL))∧w'.cell? ⟨c1,3,none⟩=some (.slice X t.ZX.length x)∧w'.cell? ⟨c1,4,none⟩=some (.slice Y t.ZS.length y)) (by kernel_rfl) ⟨q1,(hc 0).trans HC.out.1,(hc 1).trans HC.out.2.1,(hc 2).trans HC.out.2.2.1,(hc 3).trans HC.out.2.2.2.1,(hc 4).trans HC.out.2.2.2.2⟩ (fun HD'=> ?_)
  clear hc;(try simp only [pp])
  refine Xk 0 58 HD' ?_;refine Xk 1 59 HD' ?_;refine Xk 2 60 HD' ?_;refine Xk 3 61 HD' ?_;refine Xk 4 62 HD' ?_;refine Xk 5 63 HD' ?_;refine Vd 6 64 fun K hK=> ?_
  go_simp;go_at_call 58
  have hB7d:Below w.heap.size w W7.drew:=HB7.out.drew;refine(Uf t X x Y y W7.drew (HX.out.later hB7d) (HY.out.later hB7d) HTm.out).mono ?_
  rintro e W8 ⟨X',x',Y',y',rfl,ht8,hb8⟩;have HN8:=hid ht8;have HB8:=hid (hB7d.trans (hb8.mono hB7d.size));have HD':=hkp.out _ _ HD' hb8;clear ht8 hb8 hB7d;unfold Tb.cs;dsimp only;refine hK.out _ _ HD' ?_
  clear hK K;(try simp only [pp])
  refine Vd 7 65 fun K hK=> ?_
  go_simp;refine JC _ fun w6 h6=> ?_
  have HBd:Below W8.heap.size W8 w6:=by rw [h6];exact br.alloc lr _
  have N6:=nC h6;clear h6;have HB6:=bt HB8 HBd;have HN6:=hid (HN8.out.below HBd);have HD':=hkp.out _ _ HD' HBd;refine hK.out _ _ HD' ?_
  clear hK K;(try simp only [pp])
  refine Vd 8 66 fun K hK=> ?_
  have O6:=hid (HIn.out.Z7.Zw HB6.out);obtain⟨i0,hi0,hz0,hz1,hz2⟩:=info_parts VX;have hs6:=HB6.out.size;refine Uz rfl _ _ _ rfl base 73 i0 _ 5 96 Tryz.underlying24 hi0 hz0 hz1 hz2 rfl (by decide) (.slice B1 o.Z7.length l1) o.Z7.length _ rfl O6.out ⟨W8.heap.size,0,none⟩ 1 1 [.string (Z9 t.Z8),.string (Z9 t.name),.string (Z9 t.ZL),.slice X' t.ZX.length x',.slice Y' t.ZS.length y'] rfl rfl (ZP.news N6.out) (by simp [Value.oneCell']) (by unfold maxLen;omega) (by omega) (by omega) ?_
  intro A7 c7 w7 HO7 hg7;have hK67:ZR [73] w6 w7:=ZR.grown O6.out hg7.out (by simp) hg7.out.size;have HK7:Hid (ZR [73] w w7):=hid ((ZR.Zp HB6.out lr).trans hK67);have HB9:Hid (Below base w w7):=hid ((HB6.out.mono hbz).grown hg7.out (by omega) (Zu O6.out));have HN7:=hid (HN6.out.keeps hK67 (by decide) (by decide) (by decide));have hs7:=hg7.out.size;have P7:=hid (HP.out.keeps HK7.out (by decide));have hc7: ∀ f u,w.cell? ⟨c1,f,none⟩=some u→w7.cell? ⟨c1,f,none⟩=some u:=fun f u hu=>(HB9.out.cell (p:=⟨c1,f,none⟩) (by show c1<base;omega)).trans hu
  have HD':=(show (fun w'=>w'.cell? ⟨p,1,none⟩=some (.slice B1 o.Z7.length l1)∧w'.cell? ⟨c1,0,none⟩=some (.string (Z9 t.Z8))∧w'.cell? ⟨c1,1,none⟩=some (.string (Z9 t.name))∧w'.cell? ⟨c1,2,none⟩=some (.string (Z9 t.ZL))∧w'.cell? ⟨c1,3,none⟩=some (.slice X t.ZX.length x)∧w'.cell? ⟨c1,4,none⟩=some (.slice Y t.ZS.length y)) w7 from ⟨P7.out.cell 1,hc7 _ _ HC.out.1,hc7 _ _ HC.out.2.1,hc7 _ _ HC.out.2.2.1,hc7 _ _ HC.out.2.2.2.1,hc7 _ _ HC.out.2.2.2.2⟩)
  refine hK.out _ _ HD' ?_
  clear hK K;(try simp only [pp])
  refine Vd 9 67 fun K hK=> ?_
  go_simp;refine hK.out _ _ HD' ?_
  clear hK K;(try simp only [pp])
  refine Vd 10 68 fun K hK=> ?_
  go_simp;refine hK.out _ _ HD' ?_
  clear hK K;(try simp only [pp])
  refine YI.Xo (i:=11) (o:=⟨none,_,_,_,_,_⟩) (by kernel_rfl) rfl rfl (fun K hK=> ?_)
  have e7:=ce P7 1;have f7:=P7.out.frozen 1;go_simp;refine hK.out _ _ (YI.done (by kernel_rfl) ?_ _);clear hK K;refine Sk _ fun W9 hW=> ?_
  have P9:=rB hW (P7.out.Zx 1 _);have HK79:Hid (ZR [26] w7 W9):=hid (by rw [hW];exact ZR.Zx P7.out.Xr (by simp) _);have HB10:Hid (Below base w W9):=hid (by rw [hW];exact HB9.out.setCell hpb _);have e9:=ce P9 1;clear hW e7 f7 HD' hkp;have htsl:ts.length=o.Z7.length:=by rw [←HIn.out.data,List.length_map]
  have HO9:Hid (W9.ownsRow base 73 5 (.slice A7 (ts ++ [((t,X',x',Y',y'):Za)]).length c7) (ts ++ [((t,X',x',Y',y'):Za)]).length ((ts ++ [((t,X',x',Y',y'):Za)]).flatMap Za.cs)):=hid (by
   have h1:=HO7.out.keeps HK79.out (by decide);rw [List.length_append,List.flatMap_append,htsl];simpa [Za.cs,Tb.cs] using h1)
  have cSo:=Nk base (ts ++ [((t,X',x',Y',y'):Za)]) A7 c7 W9 HO9.out (by simp) (by simp;omega);rw [show (ts ++ [((t,X',x',Y',y'):Za)]).length=o.Z7.length+1 from by simp [htsl]] at cSo;go_wp2_with fail;refine cSo.mono ?_
  rintro e W10 ⟨rfl,l',hp',hs',ho',hb',hk',hf'⟩;have HF:Hid (U6 none w base p (Ug o t) (.returned (.int .i64 0)) W10):=hid (by
   have hl':l'.length=o.Z7.length+1:=by rw [hp'.length_eq];simp [htsl]
   have hK10:ZR [73,26] w W10:=((HK7.out.Ya (by simp)).trans (HK79.out.Ya (by simp))).trans (hk'.Ya (by simp));have hK710:ZR [73,26] w7 W10:=(HK79.out.Ya (by simp)).trans (hk'.Ya (by simp));have hP:=hp'.map (·.1);rw [List.map_append,HIn.out.data] at hP;refine⟨0,⟨o.Z4,l'.map (·.1)⟩,B0,l0,A7,c7,rfl,HYes.out (l'.map (·.1)) (by simp) (by simp) (by rw [HAt.out];rfl) (by simp) (by omega) (by simp) HR0.out hP (fun a b ha hb hab=> ?_),by rw [List.length_map,hl'];exact P9.out.keeps hk' (by decide),⟨Rr (T:=0) (base:=base) (c:=l0) (HIn.out.Z4.keeps hK10 (by decide)),?_⟩,(HB10.out.trans hb').x _⟩
   ·rw [List.getElem_map,List.getElem_map];exact hs' a b (by simpa using ha) (by simpa using hb) hab
   ·have h1:=Yk (n:=l'.length) (A:=A7) (c:=c7) (S:=Xn W10 OT) (sh:=Zt) Tb.da (·.1) Za.k (show W10.ownsRow base 73 5 (.slice A7 l'.length c7) l'.length (l'.flatMap Za.cs) from by simpa [hl',htsl] using ho') rfl (fun z hz=>by
     rcases List.mem_append.1 (hp'.subset hz) with hz1 | hz1
     ·obtain⟨j,hj,rfl⟩:=List.getElem_of_mem hz1;exact ZH.Y6 (fun k hk=>hk.Sz (by simp [OT])) (fun _ _=>rfl) _ _ _ ((HIn.out.tab j hj).2.keeps hK10 (by decide) (by decide) (by decide)).VH
     ·rw [List.mem_singleton.1 hz1];exact ZH.Y6 (fun k hk=>hk.Sz (by simp [OT])) (fun _ _=>rfl) _ _ _ (HN7.out.keeps hK710 (by decide) (by decide) (by decide)).VH)
    exact h1.Y6 (fun k hk=>hk.elim id (fun h=>h.Sz (by simp [OT]))) (fun _ _=>rfl))
  clear hp' hs' ho' hb' hk' hf' cSo;go_wp2;go_ret;exact HF.out
end Go.Proofs.YtnhmoibjlakhjaaGreat
