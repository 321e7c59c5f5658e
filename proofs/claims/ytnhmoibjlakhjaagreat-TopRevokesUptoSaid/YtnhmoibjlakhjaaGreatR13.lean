/- Lemmas of the proof. No condition but each theorem's own. -/
import Derived.Test.YtnhmoibjlakhjaaGreatR12
import Derived.Shelf.Abstract
import Derived.Test.YtnhmoibjlakhjaaGreatR10
import Derived.Lib.Bytealg
import Derived.Lib.Strings
import Derived.Lib.Walk
set_option linter.unusedVariables false
set_option linter.unusedSimpArgs false
namespace Go.Proofs.YtnhmoibjlakhjaaGreat
open Lib (hid)
set_option maxRecDepth 100000
set_option maxHeartbeats 16000000
open Go.RowKit
theorem Vk (p:List Da→Bool)(g:Nat)(lb:Array Value)(ds:List (List Da))(A:Option Addr)(c:Nat)(w:World)(eg: ∀ args w,(callFunc g args).run Tryz.prog w= .ok (.enter g args) w)
  (hA:ZV w (· < w.heap.size) Zh ds A) (hn:ds.length≤1099511627776) (hp:Sq Tryz.prog g lb Zh ds p w):
  Calls Tryz.prog 70 #[.slice A ds.length c,.func (.func g) #[] lb] w fun e w'=>e= .returned (.int .i64 (Zi p ds 0))∧Below w.heap.size w w':=by
 have HA:=hid hA;have HP:=hid hp;have HI:=iN 89 2;clear hA hp;go_enter Tryz.func70,Tryz.ntmps70
 go_wp2;go_loopw [8] (fun i wr=> ∃ j:Nat,j≤ds.length∧i= .int .i64 j∧Hid (Below w.heap.size w wr)∧Hid (Zi p ds 0=Zi p (ds.drop j) j)) (fun i _=>ds.length - (intOf i).toNat)
 case atStart=>exact⟨0,Nat.zero_le _,rfl,hid br,hid (by rw [List.drop_zero])⟩
 case round=>
  obtain⟨j,hj,rfl,HBw,HE⟩:=hrel;by_cases hlt:j<ds.length
  ·obtain⟨ad,vs,rfl,hv,hr⟩:=(HA.out.below HBw.out).at_ hlt;have HX:Hid (Zi p ds 0=if p ds[j]=true then(j:Int) else Zi p (ds.drop (j+1)) (j+1)):=hid (HE.out.trans (Xx hlt));have hcall:=HP.out wr ds[j] vs HBw.out (List.getElem_mem hlt) hv;have HL:Hid ((Tryz.prog.info? 89).map (·.size)=some vs.length):=hid (by rw [hv.len.2];exact HI.out);generalize ds[j]=d at*;have HG:Hid (∀ i u,vs[i]?=some u→wr.cell? ((ad.add (j*2)).add i)=some u):=hid fun i u hu=>by rw [ZG];exact hr i u hu
   clear hv hr;have HC:=hid hcall;clear hcall
   cases hq:p d
   ·rw [hq] at HX HC;have HX':Hid (Zi p ds 0=Zi p (ds.drop (j+1)) (j+1)):=hid HX.out;clear HX hq;go_wp2_with (first | (with_reducible refine ZI rfl 89 _ rfl (ad.add (j*2)) rfl vs _ HG.out Tryz.underlying89 rfl HL.out ?_) | (go_at_fn g;refine HC.out.mono ?_;rintro e w2 ⟨rfl,hb⟩) | fail);have HB2:=bt HBw hb;go_roundw
    case rel=>exact⟨j+1,by omega,by go_num,HB2,HX'⟩
    case measure=>simp [intOf];omega
   ·rw [hq] at HX HC;have HX':Hid (Zi p ds 0=(j:Int)):=hid HX.out;clear HX hq;go_wp2_with (first | (with_reducible refine ZI rfl 89 _ rfl (ad.add (j*2)) rfl vs _ HG.out Tryz.underlying89 rfl HL.out ?_) | (go_at_fn g;refine HC.out.mono ?_;rintro e w2 ⟨rfl,hb⟩) | fail);go_ret;exact⟨by rw [HX'.out];rfl,HBw.out.trans (hb.mono HBw.out.size)⟩
  ·obtain rfl:j=ds.length:=by omega
   rw [List.drop_length] at HE;go_wp2;go_ret;exact⟨by rw [HE.out];rfl,HBw.out⟩
theorem RN (p:List Da→Bool)(g:Nat)(lb:Array Value)(ds:List (List Da))(A:Option Addr)(c:Nat)(w:World)(eg: ∀ args w,(callFunc g args).run Tryz.prog w= .ok (.enter g args) w)
  (hA:ZV w (· < w.heap.size) Zh ds A) (hn:ds.length≤1099511627776) (hp:Sq Tryz.prog g lb Zh ds p w):
  Calls Tryz.prog 31 #[.slice A ds.length c,.func (.func g) #[] lb] w fun e w'=>e= .returned (.bool (ds.any p))∧Below w.heap.size w w':=by
 have h:=Vk p g lb ds A c w eg hA hn hp;have HD:=hid (WZ p ds);clear hA hp;generalize Zi p ds 0=r at*;generalize ds.any p=b at*;go_enter Tryz.func31,Tryz.ntmps31
 go_wp2_with fail;refine h.mono ?_
 rintro e w2 ⟨rfl,hb⟩;go_wp2;go_ret;exact⟨by rw [←HD.out];rfl,hb⟩
theorem S9 (p:List Da→Bool)(g:Nat)(lb:Array Value)(ds:List (List Da))(A:Option Addr)(c:Nat)(w:World)(eg: ∀ args w,(callFunc g args).run Tryz.prog w= .ok (.enter g args) w)
  (hA:ZV w (· < w.heap.size) Zt ds A) (hn:ds.length≤1099511627776) (hp:Sq Tryz.prog g lb Zt ds p w):
  Calls Tryz.prog 92 #[.slice A ds.length c,.func (.func g) #[] lb] w fun e w'=>e= .returned (.int .i64 (Zi p ds 0))∧Below w.heap.size w w':=by
 have HA:=hid hA;have HP:=hid hp;have HI:=iN 73 5;clear hA hp;go_enter Tryz.func92,Tryz.ntmps92
 go_wp2;go_loopw [8] (fun i wr=> ∃ j:Nat,j≤ds.length∧i= .int .i64 j∧Hid (Below w.heap.size w wr)∧Hid (Zi p ds 0=Zi p (ds.drop j) j)) (fun i _=>ds.length - (intOf i).toNat)
 case atStart=>exact⟨0,Nat.zero_le _,rfl,hid br,hid (by rw [List.drop_zero])⟩
 case round=>
  obtain⟨j,hj,rfl,HBw,HE⟩:=hrel;by_cases hlt:j<ds.length
  ·obtain⟨ad,vs,rfl,hv,hr⟩:=(HA.out.below HBw.out).at_ hlt;have HX:Hid (Zi p ds 0=if p ds[j]=true then(j:Int) else Zi p (ds.drop (j+1)) (j+1)):=hid (HE.out.trans (Xx hlt));have hcall:=HP.out wr ds[j] vs HBw.out (List.getElem_mem hlt) hv;have HL:Hid ((Tryz.prog.info? 73).map (·.size)=some vs.length):=hid (by rw [hv.len.2];exact HI.out);generalize ds[j]=d at*;have HG:Hid (∀ i u,vs[i]?=some u→wr.cell? ((ad.add (j*5)).add i)=some u):=hid fun i u hu=>by rw [ZG];exact hr i u hu
   clear hv hr;have HC:=hid hcall;clear hcall
   cases hq:p d
   ·rw [hq] at HX HC;have HX':Hid (Zi p ds 0=Zi p (ds.drop (j+1)) (j+1)):=hid HX.out;clear HX hq;go_wp2_with (first | (with_reducible refine ZI rfl 73 _ rfl (ad.add (j*5)) rfl vs _ HG.out Tryz.underlying73 rfl HL.out ?_) | (go_at_fn g;refine HC.out.mono ?_;rintro e w2 ⟨rfl,hb⟩) | fail);have HB2:=bt HBw hb;go_roundw
    case rel=>exact⟨j+1,by omega,by go_num,HB2,HX'⟩
    case measure=>simp [intOf];omega
   ·rw [hq] at HX HC;have HX':Hid (Zi p ds 0=(j:Int)):=hid HX.out;clear HX hq;go_wp2_with (first | (with_reducible refine ZI rfl 73 _ rfl (ad.add (j*5)) rfl vs _ HG.out Tryz.underlying73 rfl HL.out ?_) | (go_at_fn g;refine HC.out.mono ?_;rintro e w2 ⟨rfl,hb⟩) | fail);go_ret;exact⟨by rw [HX'.out];rfl,HBw.out.trans (hb.mono HBw.out.size)⟩
  ·obtain rfl:j=ds.length:=by omega
   rw [List.drop_length] at HE;go_wp2;go_ret;exact⟨by rw [HE.out];rfl,HBw.out⟩
theorem Qz (p:List Da→Bool)(g:Nat)(lb:Array Value)(ds:List (List Da))(A:Option Addr)(c:Nat)(w:World)(eg: ∀ args w,(callFunc g args).run Tryz.prog w= .ok (.enter g args) w)
  (hA:ZV w (· < w.heap.size) Zt ds A) (hn:ds.length≤1099511627776) (hp:Sq Tryz.prog g lb Zt ds p w):
  Calls Tryz.prog 129 #[.slice A ds.length c,.func (.func g) #[] lb] w fun e w'=>e= .returned (.bool (ds.any p))∧Below w.heap.size w w':=by
 have h:=S9 p g lb ds A c w eg hA hn hp;have HD:=hid (WZ p ds);clear hA hp;generalize Zi p ds 0=r at*;generalize ds.any p=b at*;go_enter Tryz.func129,Tryz.ntmps129
 go_wp2_with fail;refine h.mono ?_
 rintro e w2 ⟨rfl,hb⟩;go_wp2;go_ret;exact⟨by rw [←HD.out];rfl,hb⟩
theorem NK (p:List Da→Bool)(g:Nat)(lb:Array Value)(ds:List (List Da))(A:Option Addr)(c:Nat)(w:World)(eg: ∀ args w,(callFunc g args).run Tryz.prog w= .ok (.enter g args) w)
  (hA:ZV w (· < w.heap.size) Zl ds A) (hn:ds.length≤1099511627776) (hp:Sq Tryz.prog g lb Zl ds p w):
  Calls Tryz.prog 112 #[.slice A ds.length c,.func (.func g) #[] lb] w fun e w'=>e= .returned (.int .i64 (Zi p ds 0))∧Below w.heap.size w w':=by
 have HA:=hid hA;have HP:=hid hp;have HI:=iN 119 3;clear hA hp;go_enter Tryz.func112,Tryz.ntmps112
 go_wp2;go_loopw [8] (fun i wr=> ∃ j:Nat,j≤ds.length∧i= .int .i64 j∧Hid (Below w.heap.size w wr)∧Hid (Zi p ds 0=Zi p (ds.drop j) j)) (fun i _=>ds.length - (intOf i).toNat)
 case atStart=>exact⟨0,Nat.zero_le _,rfl,hid br,hid (by rw [List.drop_zero])⟩
 case round=>
  obtain⟨j,hj,rfl,HBw,HE⟩:=hrel;by_cases hlt:j<ds.length
  ·obtain⟨ad,vs,rfl,hv,hr⟩:=(HA.out.below HBw.out).at_ hlt;have HX:Hid (Zi p ds 0=if p ds[j]=true then(j:Int) else Zi p (ds.drop (j+1)) (j+1)):=hid (HE.out.trans (Xx hlt));have hcall:=HP.out wr ds[j] vs HBw.out (List.getElem_mem hlt) hv;have HL:Hid ((Tryz.prog.info? 119).map (·.size)=some vs.length):=hid (by rw [hv.len.2];exact HI.out);generalize ds[j]=d at*;have HG:Hid (∀ i u,vs[i]?=some u→wr.cell? ((ad.add (j*3)).add i)=some u):=hid fun i u hu=>by rw [ZG];exact hr i u hu
   clear hv hr;have HC:=hid hcall;clear hcall
   cases hq:p d
   ·rw [hq] at HX HC;have HX':Hid (Zi p ds 0=Zi p (ds.drop (j+1)) (j+1)):=hid HX.out;clear HX hq;go_wp2_with (first | (with_reducible refine ZI rfl 119 _ rfl (ad.add (j*3)) rfl vs _ HG.out Tryz.underlying119 rfl HL.out ?_) | (go_at_fn g;refine HC.out.mono ?_;rintro e w2 ⟨rfl,hb⟩) | fail);have HB2:=bt HBw hb;go_roundw
    case rel=>exact⟨j+1,by omega,by go_num,HB2,HX'⟩
    case measure=>simp [intOf];omega
   ·rw [hq] at HX HC;have HX':Hid (Zi p ds 0=(j:Int)):=hid HX.out;clear HX hq;go_wp2_with (first | (with_reducible refine ZI rfl 119 _ rfl (ad.add (j*3)) rfl vs _ HG.out Tryz.underlying119 rfl HL.out ?_) | (go_at_fn g;refine HC.out.mono ?_;rintro e w2 ⟨rfl,hb⟩) | fail);go_ret;exact⟨by rw [HX'.out];rfl,HBw.out.trans (hb.mono HBw.out.size)⟩
  ·obtain rfl:j=ds.length:=by omega
   rw [List.drop_length] at HE;go_wp2;go_ret;exact⟨by rw [HE.out];rfl,HBw.out⟩
theorem OG (p:List Da→Bool)(g:Nat)(lb:Array Value)(ds:List (List Da))(A:Option Addr)(c:Nat)(w:World)(eg: ∀ args w,(callFunc g args).run Tryz.prog w= .ok (.enter g args) w)
  (hA:ZV w (· < w.heap.size) Yx ds A) (hn:ds.length≤1099511627776) (hp:Sq Tryz.prog g lb Yx ds p w):
  Calls Tryz.prog 261 #[.slice A ds.length c,.func (.func g) #[] lb] w fun e w'=>e= .returned (.int .i64 (Zi p ds 0))∧Below w.heap.size w w':=by
 have HA:=hid hA;have HP:=hid hp;have HI:=iN 40 8;clear hA hp;go_enter Tryz.func261,Tryz.ntmps261
 go_wp2;go_loopw [8] (fun i wr=> ∃ j:Nat,j≤ds.length∧i= .int .i64 j∧Hid (Below w.heap.size w wr)∧Hid (Zi p ds 0=Zi p (ds.drop j) j)) (fun i _=>ds.length - (intOf i).toNat)
 case atStart=>exact⟨0,Nat.zero_le _,rfl,hid br,hid (by rw [List.drop_zero])⟩
 case round=>
  obtain⟨j,hj,rfl,HBw,HE⟩:=hrel;by_cases hlt:j<ds.length
  ·obtain⟨ad,vs,rfl,hv,hr⟩:=(HA.out.below HBw.out).at_ hlt;have HX:Hid (Zi p ds 0=if p ds[j]=true then(j:Int) else Zi p (ds.drop (j+1)) (j+1)):=hid (HE.out.trans (Xx hlt));have hcall:=HP.out wr ds[j] vs HBw.out (List.getElem_mem hlt) hv;have HL:Hid ((Tryz.prog.info? 40).map (·.size)=some vs.length):=hid (by rw [hv.len.2];exact HI.out);generalize ds[j]=d at*;have HG:Hid (∀ i u,vs[i]?=some u→wr.cell? ((ad.add (j*8)).add i)=some u):=hid fun i u hu=>by rw [ZG];exact hr i u hu
   clear hv hr;have HC:=hid hcall;clear hcall
   cases hq:p d
   ·rw [hq] at HX HC;have HX':Hid (Zi p ds 0=Zi p (ds.drop (j+1)) (j+1)):=hid HX.out;clear HX hq;go_wp2_with (first | (with_reducible refine ZI rfl 40 _ rfl (ad.add (j*8)) rfl vs _ HG.out Tryz.underlying40 rfl HL.out ?_) | (go_at_fn g;refine HC.out.mono ?_;rintro e w2 ⟨rfl,hb⟩) | fail);have HB2:=bt HBw hb;go_roundw
    case rel=>exact⟨j+1,by omega,by go_num,HB2,HX'⟩
    case measure=>simp [intOf];omega
   ·rw [hq] at HX HC;have HX':Hid (Zi p ds 0=(j:Int)):=hid HX.out;clear HX hq;go_wp2_with (first | (with_reducible refine ZI rfl 40 _ rfl (ad.add (j*8)) rfl vs _ HG.out Tryz.underlying40 rfl HL.out ?_) | (go_at_fn g;refine HC.out.mono ?_;rintro e w2 ⟨rfl,hb⟩) | fail);go_ret;exact⟨by rw [HX'.out];rfl,HBw.out.trans (hb.mono HBw.out.size)⟩
  ·obtain rfl:j=ds.length:=by omega
   rw [List.drop_length] at HE;go_wp2;go_ret;exact⟨by rw [HE.out];rfl,HBw.out⟩
theorem LB (p:List Da→Bool)(g:Nat)(lb:Array Value)(ds:List (List Da))(A:Option Addr)(c:Nat)(w:World)(eg: ∀ args w,(callFunc g args).run Tryz.prog w= .ok (.enter g args) w)
  (hA:ZV w (· < w.heap.size) Yx ds A) (hn:ds.length≤1099511627776) (hp:Sq Tryz.prog g lb Yx ds p w):
  Calls Tryz.prog 206 #[.slice A ds.length c,.func (.func g) #[] lb] w fun e w'=>e= .returned (.bool (ds.any p))∧Below w.heap.size w w':=by
 have h:=OG p g lb ds A c w eg hA hn hp;have HD:=hid (WZ p ds);clear hA hp;generalize Zi p ds 0=r at*;generalize ds.any p=b at*;go_enter Tryz.func206,Tryz.ntmps206
 go_wp2_with fail;refine h.mono ?_
 rintro e w2 ⟨rfl,hb⟩;go_wp2;go_ret;exact⟨by rw [←HD.out];rfl,hb⟩
theorem NJ (p:List Da→Bool)(g:Nat)(lb:Array Value)(ds:List (List Da))(A:Option Addr)(c:Nat)(w:World)(eg: ∀ args w,(callFunc g args).run Tryz.prog w= .ok (.enter g args) w)
  (hA:ZV w (· < w.heap.size) Y5 ds A) (hn:ds.length≤1099511627776) (hp:Sq Tryz.prog g lb Y5 ds p w):
  Calls Tryz.prog 250 #[.slice A ds.length c,.func (.func g) #[] lb] w fun e w'=>e= .returned (.int .i64 (Zi p ds 0))∧Below w.heap.size w w':=by
 have HA:=hid hA;have HP:=hid hp;have HI:=iN 147 2;clear hA hp;go_enter Tryz.func250,Tryz.ntmps250
 go_wp2;go_loopw [8] (fun i wr=> ∃ j:Nat,j≤ds.length∧i= .int .i64 j∧Hid (Below w.heap.size w wr)∧Hid (Zi p ds 0=Zi p (ds.drop j) j)) (fun i _=>ds.length - (intOf i).toNat)
 case atStart=>exact⟨0,Nat.zero_le _,rfl,hid br,hid (by rw [List.drop_zero])⟩
 case round=>
  obtain⟨j,hj,rfl,HBw,HE⟩:=hrel;by_cases hlt:j<ds.length
  ·obtain⟨ad,vs,rfl,hv,hr⟩:=(HA.out.below HBw.out).at_ hlt;have HX:Hid (Zi p ds 0=if p ds[j]=true then(j:Int) else Zi p (ds.drop (j+1)) (j+1)):=hid (HE.out.trans (Xx hlt));have hcall:=HP.out wr ds[j] vs HBw.out (List.getElem_mem hlt) hv;have HL:Hid ((Tryz.prog.info? 147).map (·.size)=some vs.length):=hid (by rw [hv.len.2];exact HI.out);generalize ds[j]=d at*;have HG:Hid (∀ i u,vs[i]?=some u→wr.cell? ((ad.add (j*2)).add i)=some u):=hid fun i u hu=>by rw [ZG];exact hr i u hu
   clear hv hr;have HC:=hid hcall;clear hcall
   cases hq:p d
   ·rw [hq] at HX HC;have HX':Hid (Zi p ds 0=Zi p (ds.drop (j+1)) (j+1)):=hid HX.out;clear HX hq;go_wp2_with (first | (with_reducible refine ZI rfl 147 _ rfl (ad.add (j*2)) rfl vs _ HG.out Tryz.underlying147 rfl HL.out ?_) | (go_at_fn g;refine HC.out.mono ?_;rintro e w2 ⟨rfl,hb⟩) | fail);have HB2:=bt HBw hb;go_roundw
    case rel=>exact⟨j+1,by omega,by go_num,HB2,HX'⟩
    case measure=>simp [intOf];omega
   ·rw [hq] at HX HC;have HX':Hid (Zi p ds 0=(j:Int)):=hid HX.out;clear HX hq;go_wp2_with (first | (with_reducible refine ZI rfl 147 _ rfl (ad.add (j*2)) rfl vs _ HG.out Tryz.underlying147 rfl HL.out ?_) | (go_at_fn g;refine HC.out.mono ?_;rintro e w2 ⟨rfl,hb⟩) | fail);go_ret;exact⟨by rw [HX'.out];rfl,HBw.out.trans (hb.mono HBw.out.size)⟩
  ·obtain rfl:j=ds.length:=by omega
   rw [List.drop_length] at HE;go_wp2;go_ret;exact⟨by rw [HE.out];rfl,HBw.out⟩
theorem NP (p:List Da→Bool)(g:Nat)(lb:Array Value)(ds:List (List Da))(A:Option Addr)(c:Nat)(w:World)(eg: ∀ args w,(callFunc g args).run Tryz.prog w= .ok (.enter g args) w)
  (hA:ZV w (· < w.heap.size) Y5 ds A) (hn:ds.length≤1099511627776) (hp:Sq Tryz.prog g lb Y5 ds p w):
  Calls Tryz.prog 181 #[.slice A ds.length c,.func (.func g) #[] lb] w fun e w'=>e= .returned (.bool (ds.any p))∧Below w.heap.size w w':=by
 have h:=NJ p g lb ds A c w eg hA hn hp;have HD:=hid (WZ p ds);clear hA hp;generalize Zi p ds 0=r at*;generalize ds.any p=b at*;go_enter Tryz.func181,Tryz.ntmps181
 go_wp2_with fail;refine h.mono ?_
 rintro e w2 ⟨rfl,hb⟩;go_wp2;go_ret;exact⟨by rw [←HD.out];rfl,hb⟩
theorem Mq (p:List Da→Bool)(g:Nat)(lb:Array Value)(ds:List (List Da))(A:Option Addr)(c:Nat)(w:World)(eg: ∀ args w,(callFunc g args).run Tryz.prog w= .ok (.enter g args) w)
  (hA:ZV w (· < w.heap.size) Ys ds A) (hn:ds.length≤1099511627776) (hp:Sq Tryz.prog g lb Ys ds p w):
  Calls Tryz.prog 156 #[.slice A ds.length c,.func (.func g) #[] lb] w fun e w'=>e= .returned (.int .i64 (Zi p ds 0))∧Below w.heap.size w w':=by
 have HA:=hid hA;have HP:=hid hp;have HI:=iN 53 6;clear hA hp;go_enter Tryz.func156,Tryz.ntmps156
 go_wp2;go_loopw [8] (fun i wr=> ∃ j:Nat,j≤ds.length∧i= .int .i64 j∧Hid (Below w.heap.size w wr)∧Hid (Zi p ds 0=Zi p (ds.drop j) j)) (fun i _=>ds.length - (intOf i).toNat)
 case atStart=>exact⟨0,Nat.zero_le _,rfl,hid br,hid (by rw [List.drop_zero])⟩
 case round=>
  obtain⟨j,hj,rfl,HBw,HE⟩:=hrel;by_cases hlt:j<ds.length
  ·obtain⟨ad,vs,rfl,hv,hr⟩:=(HA.out.below HBw.out).at_ hlt;have HX:Hid (Zi p ds 0=if p ds[j]=true then(j:Int) else Zi p (ds.drop (j+1)) (j+1)):=hid (HE.out.trans (Xx hlt));have hcall:=HP.out wr ds[j] vs HBw.out (List.getElem_mem hlt) hv;have HL:Hid ((Tryz.prog.info? 53).map (·.size)=some vs.length):=hid (by rw [hv.len.2];exact HI.out);generalize ds[j]=d at*;have HG:Hid (∀ i u,vs[i]?=some u→wr.cell? ((ad.add (j*6)).add i)=some u):=hid fun i u hu=>by rw [ZG];exact hr i u hu
   clear hv hr;have HC:=hid hcall;clear hcall
   cases hq:p d
   ·rw [hq] at HX HC;have HX':Hid (Zi p ds 0=Zi p (ds.drop (j+1)) (j+1)):=hid HX.out;clear HX hq;go_wp2_with (first | (with_reducible refine ZI rfl 53 _ rfl (ad.add (j*6)) rfl vs _ HG.out Tryz.underlying53 rfl HL.out ?_) | (go_at_fn g;refine HC.out.mono ?_;rintro e w2 ⟨rfl,hb⟩) | fail);have HB2:=bt HBw hb;go_roundw
    case rel=>exact⟨j+1,by omega,by go_num,HB2,HX'⟩
    case measure=>simp [intOf];omega
   ·rw [hq] at HX HC;have HX':Hid (Zi p ds 0=(j:Int)):=hid HX.out;clear HX hq;go_wp2_with (first | (with_reducible refine ZI rfl 53 _ rfl (ad.add (j*6)) rfl vs _ HG.out Tryz.underlying53 rfl HL.out ?_) | (go_at_fn g;refine HC.out.mono ?_;rintro e w2 ⟨rfl,hb⟩) | fail);go_ret;exact⟨by rw [HX'.out];rfl,HBw.out.trans (hb.mono HBw.out.size)⟩
  ·obtain rfl:j=ds.length:=by omega
   rw [List.drop_length] at HE;go_wp2;go_ret;exact⟨by rw [HE.out];rfl,HBw.out⟩
theorem QA (p:List Da→Bool)(g:Nat)(lb:Array Value)(ds:List (List Da))(A:Option Addr)(c:Nat)(w:World)(eg: ∀ args w,(callFunc g args).run Tryz.prog w= .ok (.enter g args) w)
  (hA:ZV w (· < w.heap.size) Ys ds A) (hn:ds.length≤1099511627776) (hp:Sq Tryz.prog g lb Ys ds p w):
  Calls Tryz.prog 101 #[.slice A ds.length c,.func (.func g) #[] lb] w fun e w'=>e= .returned (.bool (ds.any p))∧Below w.heap.size w w':=by
 have h:=Mq p g lb ds A c w eg hA hn hp;have HD:=hid (WZ p ds);clear hA hp;generalize Zi p ds 0=r at*;generalize ds.any p=b at*;go_enter Tryz.func101,Tryz.ntmps101
 go_wp2_with fail;refine h.mono ?_
 rintro e w2 ⟨rfl,hb⟩;go_wp2;go_ret;exact⟨by rw [←HD.out];rfl,hb⟩
theorem LM (a b:List UInt8)(w:World):
  Calls Tryz.prog 157 #[.string (Z9 a),.string (Z9 b)] w fun e w'=>e= .returned (.int .i64 (Y4 a b))∧w'=w:=by
 go_enter Tryz.func157,Tryz.ntmps157
 go_wp2;rw [run_callFunc_extern Tryz.func234 (by kernel_rfl) (by kernel_rfl) (by kernel_rfl) (e:=Extern.BytealgCompare.compare) (by kernel_rfl),Lib.run_compareString];simp only [Result.andThen];rw [Oper.upon_value];go_wp2;go_ret;exact⟨rfl,rfl⟩
theorem XP (a b:List UInt8)(w:World):
  Calls Tryz.prog 107 #[.string (Z9 a),.string (Z9 b)] w fun e w'=>e= .returned (.int .i64 (Y4 a b))∧w'=w:=by
 have h:=LM a b w;generalize Y4 a b=r at h ⊢;go_enter Tryz.func107,Tryz.ntmps107
 go_wp2_with fail;refine h.mono ?_
 rintro e w' ⟨rfl,rfl⟩;go_wp2;go_ret;exact⟨rfl,rfl⟩
theorem Lh (x y:Int)(w:World):
  Calls Tryz.prog 150 #[.int .i64 x,.int .i64 y] w fun e w'=>e= .returned (.int .i64 (Lib.compareInt x y))∧w'=w:=by
 have hnan: ∀ (z:Int) (W:World),Calls Tryz.prog 227 #[.int .i64 z] W fun e w'=>e= .returned (.bool false)∧w'=W:=fun z W=>by
  go_enter Tryz.func227,Tryz.ntmps227
  go_wp2;go_ret;exact⟨by simp,rfl⟩
 unfold Lib.compareInt;by_cases h1:x<y
 ·go_enter Tryz.func150,Tryz.ntmps150
  go_wp2_with (go_at_call 227;refine(hnan _ _).mono ?_;rintro e w' ⟨rfl,rfl⟩);go_ret;exact⟨by simp [h1],rfl⟩
 ·by_cases h2:y<x
  ·go_enter Tryz.func150,Tryz.ntmps150
   go_wp2_with (go_at_call 227;refine(hnan _ _).mono ?_;rintro e w' ⟨rfl,rfl⟩);go_ret;exact⟨by simp [h1,h2],rfl⟩
  ·have h3: ¬ x > y:=h2;go_enter Tryz.func150,Tryz.ntmps150
   go_wp2_with (go_at_call 227;refine(hnan _ _).mono ?_;rintro e w' ⟨rfl,rfl⟩);go_ret;exact⟨by simp [h1,h2],rfl⟩
def Pm:List Int→Int
 | []=>0
 | n ::l=>QP n (Pm l)
theorem ND (l:List Int)(g c:Nat)(w:World)(hB:ZP w g 3 (l.map fun n=> .int .i64 n))(hn:l.length≤1099511627776):
  Calls Tryz.prog 149 #[.slice (some ⟨g,0,none⟩) l.length c] w fun e w'=>e= .returned (.int .i64 (Pm l))∧w'=w:=by
 have HB:=hid hB;clear hB;go_enter Tryz.func149,Tryz.ntmps149
 go_wp2;go_loopw [8] (fun i wr=> ∃ j:Nat,j≤l.length∧i= .int .i64 j∧Hid (wr=w)∧Hid (Pm l=Pm (l.drop j))) (fun i _=>l.length - (intOf i).toNat)
 case atStart=>exact⟨0,Nat.zero_le _,rfl,hid rfl,hid (by rw [List.drop_zero])⟩
 case round=>
  obtain⟨j,hj,rfl,HW,HE⟩:=hrel;by_cases hlt:j<l.length
  ·have HX:Hid (Pm l=QP l[j] (Pm (l.drop (j+1)))):=hid (by rw [HE.out,List.drop_eq_getElem_cons hlt];rfl);have a0:wr.cell? ⟨g,j,none⟩=some (.int .i64 l[j]):=by
    rw [HW.out,HB.out.cell];simp [hlt]
   generalize l[j]=d at*;by_cases hd:d=0
   ·subst hd;have HX':Hid (Pm l=Pm (l.drop (j+1))):=hid HX.out;go_wp2;go_roundw
    case rel=>exact⟨j+1,by omega,by go_num,HW,HX'⟩
    case measure=>simp [intOf];omega
   ·have HX':Hid (Pm l=d):=hid (by rw [HX.out];simp [QP,hd]);have hd':(d == 0)=false:=by simpa using hd
    go_wp2;go_ret;exact⟨by rw [HX'.out];rfl,HW.out⟩
  ·obtain rfl:j=l.length:=by omega
   rw [List.drop_length] at HE;go_wp2;go_ret;exact⟨by rw [HE.out];rfl,HW.out⟩
theorem Np (a b:Sc)(w:World):
  Calls Tryz.prog 106 #[.agg (a.cs).toArray,.agg (b.cs).toArray] w fun e w'=>e= .returned (.int .i64 (WO a b))∧Below w.heap.size w w':=by
 unfold WO Sc.cs;have h:=fun W=>XP a.name b.name W
 generalize Y4 a.name b.name=r at h ⊢;go_enter Tryz.func106,Tryz.ntmps106
 go_wp2_with fail;refine(h _).mono ?_
 rintro e w' ⟨rfl,rfl⟩;go_wp2;go_ret;exact⟨rfl,(br.alloc lr _).alloc (by simp) _⟩
theorem NB (a b:Ru)(A:Option Addr)(n:Nat)(B:Option Addr)(m:Nat)(w:World):
  Calls Tryz.prog 164 #[.agg (a.cs A n).toArray,.agg (b.cs B m).toArray] w fun e w'=>e= .returned (.int .i64 (WQ a b))∧Below w.heap.size w w':=by
 unfold WQ Ru.cs;have h:=fun W=>XP a.name b.name W
 generalize Y4 a.name b.name=r at h ⊢;go_enter Tryz.func164,Tryz.ntmps164
 go_wp2_with fail;refine(h _).mono ?_
 rintro e w' ⟨rfl,rfl⟩;go_wp2;go_ret;exact⟨rfl,(br.alloc lr _).alloc (by simp) _⟩
end Go.Proofs.YtnhmoibjlakhjaaGreat
