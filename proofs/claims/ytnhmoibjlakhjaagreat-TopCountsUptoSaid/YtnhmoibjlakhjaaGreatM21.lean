/- Lemmas of the proof. No condition but each theorem's own. -/
import Derived.Test.YtnhmoibjlakhjaaGreatM20
import Derived.Test.YtnhmoibjlakhjaaGreatM03
import Derived.Test.YtnhmoibjlakhjaaGreatM10
import Derived.Test.YtnhmoibjlakhjaaGreatM18
set_option linter.unusedVariables false
set_option linter.unusedSimpArgs false
namespace Go.Proofs.YtnhmoibjlakhjaaGreat
open Lib (hid)
set_option maxRecDepth 100000
set_option maxHeartbeats 16000000
open Go.RowKit
structure O3 (w:World) (o:Ob) (A0 A1:Option Addr):Prop where
 sc:ZV w (· < w.heap.size) Zm (o.Z4.map Sc.da) A0
 tb:ZV w (· < w.heap.size) Zv (o.Z7.map Tb.da) A1
theorem O3.later {w w':World}{o:Ob}{A0 A1:Option Addr}(h:O3 w o A0 A1)(hb:Below w.heap.size w w'):O3 w' o A0 A1:=⟨h.sc.later hb,h.tb.later hb⟩
theorem WE.r {w:World}{base:Nat}{o:Ob}{A0:Option Addr}{k0:Nat}{A1:Option Addr}{k1:Nat}{ts:List Za}{b:Nat→Nat}(h:WE w base o A0 k0 A1 k1 ts b):O3 w o A0 A1:=⟨h.sc.Oo,h.tb.Oo⟩
def OT:List TypeId:= [89,73,119,40,9]
structure PM (w:World) (o:Ob) (A0 A1:Option Addr):Prop where
 sc:ZV w (XA w OT) Zm (o.Z4.map Sc.da) A0
 tb:ZV w (XA w OT) Zv (o.Z7.map Tb.da) A1
theorem PM.r {w:World}{o:Ob}{A0 A1:Option Addr}(h:PM w o A0 A1):O3 w o A0 A1:=⟨h.sc.Y6 (fun _ ⟨_,_,hp⟩=>hp.lt) (fun _ _=>rfl),h.tb.Y6 (fun _ ⟨_,_,hp⟩=>hp.lt) (fun _ _=>rfl)⟩
theorem PM.keeps {us:List TypeId}{w w':World}{o:Ob}{A0 A1:Option Addr}(h:PM w o A0 A1)(hk:ZS us w w')(hd: ∀ t,t∈OT→t∉us):PM w' o A0 A1:=⟨ZI h.sc hk hd,ZI h.tb hk hd⟩
theorem Nw.Ti {w:World}{base:Nat}{ts us:List TypeId}{k:Nat}(h:Nw w base ts k)(hs: ∀ t,t∈ts→t∈us):XA w us k:=by
 obtain⟨_,t,ht,cs,h⟩:=h;exact⟨t,hs t ht,cs,(0,0),h⟩
theorem WE.t {w:World}{base:Nat}{o:Ob}{A0:Option Addr}{k0:Nat}{A1:Option Addr}{k1:Nat}{ts:List Za}{b:Nat→Nat}(h:WE w base o A0 k0 A1 k1 ts b):PM w o A0 A1:=
 ⟨h.sc.Y6 (fun k hk=>hk.Ti (by simp [OT])) (fun _ _=>rfl),h.tb.Y6 (fun k hk=>hk.Ti (by simp [OT])) (fun _ _=>rfl)⟩
structure Ze (B:Nat) (x:Option Nat) (w w':World):Prop where
 os:w'.os=w.os
 tape:w'.tape=w.tape
 output:w'.output=w.output
 size:w.heap.size≤w'.heap.size
 block: ∀ k,k<B→x≠some k→w'.heap[k]?=w.heap[k]?
theorem _root_.Go.RowKit.Below.x {B:Nat}{w w':World}(h:Below B w w')(x:Option Nat):Ze B x w w':=⟨h.os,h.tape,h.output,h.size,fun k hk _=>h.block k hk⟩
theorem Ze.low {B fr:Nat}{x:Option Nat}{w w':World}(h:Ze B x w w')(h1:fr≤B)(h2: ∀ c,x=some c→fr≤c):Below fr w w':=⟨h.os,h.tape,h.output,h.size,fun k hk=>h.block k (by omega) fun e=>by have:=h2 k e;omega⟩
theorem Ze.pre {B:Nat}{x:Option Nat}{w w1 w':World}(hb:Below B w w1)(h:Ze B x w1 w'):Ze B x w w':=⟨h.os.trans hb.os,h.tape.trans hb.tape,h.output.trans hb.output,Nat.le_trans hb.size h.size,fun k hk hx=>(h.block k hk hx).trans (hb.block k hk)⟩
theorem Ze.post {B:Nat}{x:Option Nat}{w w1 w':World}(h:Ze B x w w1)(hb:Below B w1 w'):Ze B x w w':=⟨hb.os.trans h.os,hb.tape.trans h.tape,hb.output.trans h.output,Nat.le_trans h.size hb.size,fun k hk hx=>(hb.block k hk).trans (h.block k hk hx)⟩
theorem Ze.mono {B B':Nat}{x:Option Nat}{w w':World}(h:Ze B x w w')(hB:B'≤B):Ze B' x w w':=⟨h.os,h.tape,h.output,h.size,fun k hk hx=>h.block k (by omega) hx⟩
theorem Ze.Ym {B g:Nat}{x:Option Nat}{w w':World}{t:TypeId}{cs:List Value}(h:Ze B x w w')(hB:ZP w g t cs)(hg:g<B)(hx:x≠some g):ZP w' g t cs:=(h.block g hg hx).trans hB
def UX (x:Option Nat)(w:World)(base p:Nat)(R:Int→Ob→Prop)(e:Ending)(w':World):Prop:=
 ∃ er o' C0 m0 C1 m1,e= .returned (.int .i64 er)∧R er o'∧ZP w' p 26 [.slice C0 o'.Z4.length m0,.slice C1 o'.Z7.length m1]∧PM w' o' C0 C1∧Ze base x w w'
def QB (x:Option Nat)(g:Nat)(cb:Array Value)(o:Ob)(w0:World)(R:Int→Ob→Prop):Prop:=
 ∀ (w:World) (base p:Nat) (B0:Option Addr) (l0:Nat) (B1:Option Addr) (l1:Nat) (ts:List Za) (b:Nat→Nat),w0.heap.size≤base→Below w0.heap.size w0 w→WE w base o B0 l0 B1 l1 ts b→(∀ j,j≤ts.length→b j≤w.heap.size)→ZP w p 26 [.slice B0 o.Z4.length l0,.slice B1 o.Z7.length l1]→base≤p→YR o=true→
  Calls Tryz.prog g (#[.pointer (some ⟨p,0,none⟩)] ++cb) w (UX x w base p R)
def Pe (o:Ob)(R:Int→Ob→Prop)(er:Int)(o':Ob):Prop:=
 if YR o=true then(∃ o'',R er o''∧o'=if er=0 then o'' else⟨[],[]⟩) else er=63∧o'=⟨[],[]⟩
theorem WE.IX {w:World}{base:Nat}{o:Ob}{A0:Option Addr}{k0:Nat}{A1:Option Addr}{k1:Nat}{ts:List Za}{b:Nat→Nat}(h:WE w base o A0 k0 A1 k1 ts b): ∃ b',WE w base o A0 k0 A1 k1 ts b'∧ ∀ j,j≤ts.length→b' j≤max base w.heap.size:=by
 refine⟨fun j=>if b j≤max base w.heap.size then b j else max base w.heap.size,⟨h.data,h.Z4,h.Z7,?_,fun j hj=> ?_⟩,fun j hj=> ?_⟩
 ·have:=h.low;show base≤if b 0≤max base w.heap.size then b 0 else max base w.heap.size
  split <;> omega
 ·obtain⟨h1,h2⟩:=h.tab j hj;refine⟨by show (if b j≤max base w.heap.size then b j else max base w.heap.size)≤if b (j+1)≤max base w.heap.size then b (j+1) else max base w.heap.size;split <;> split <;> omega,?_⟩
  obtain⟨hc,MH,⟨rs,hm,hr,ha⟩,Qq⟩:=h2;have hlo:(if b j≤max base w.heap.size then b j else max base w.heap.size)≤b j:=by split <;> omega
  have up: ∀ g,g<b (j+1)→g<w.heap.size→g< (if b (j+1)≤max base w.heap.size then b (j+1) else max base w.heap.size):=fun g h3 h4=>by split <;> omega
  exact⟨hc.Yl hlo,fun g hg=>up g (MH g hg) (XQ hc hg),⟨rs,hm,hr.Yl hlo,fun r hr'=>⟨(ha r hr').1.Y6 (fun k hk'=>⟨hk'.1.mono hlo (fun _ h=>h),up k hk'.2 hk'.1.lt⟩) (fun _ _=>rfl),(ha r hr').2⟩⟩,fun g hg=>up g (Qq g hg) (XQ hr hg)⟩
 ·show (if b j≤max base w.heap.size then b j else max base w.heap.size)≤max base w.heap.size
  split <;> omega
theorem WB (x:Option Nat)(g:Nat)(cb:Array Value)(R:Int→Ob→Prop)(o:Ob)(A0:Option Addr)(k0:Nat)(A1:Option Addr)(k1:Nat)(w:World)(eg: ∀ args w,(callFunc g args).run Tryz.prog w= .ok (.enter g args) w)(hO:O3 w o A0 A1)(ho:o.Zs 1099511627776)(hcl:QB x g cb o w R)(hx: ∀ c,x=some c→c<w.heap.size):
  Calls Tryz.prog 172 #[.agg #[.slice A0 o.Z4.length k0,.slice A1 o.Z7.length k1],.func (.func g) #[] cb] w fun e w'=> ∃ er o' C0 m0 C1 m1,e= .returned (.tuple #[.agg #[.slice C0 o'.Z4.length m0,.slice C1 o'.Z7.length m1],.int .i64 er])∧Pe o R er o'∧PM w' o' C0 C1∧Ze w.heap.size x w w':=by
 have HOb:=hid hO;have HO:=hid ho;have HCl:=hid hcl;have HI:=iN 26 2;have HE0:Hid (RV o=if YR o=true then 0 else 63):=hid rfl;have HCh:Hid (∀ er o',Pe o R er o'=if YR o=true then(∃ o'',R er o''∧o'=if er=0 then o'' else⟨[],[]⟩) else er=63∧o'=⟨[],[]⟩):=hid fun _ _=>rfl
 clear hO ho hcl;go_enter Tryz.func172,Tryz.ntmps172
 go_wp2_with fail;refine Zj _ fun W hW=> ?_
 have HB1:=bQ hW;have P1:=nD hW;have Q1:=nF hW;clear hW;have h1:=HOb.out.later HB1.out;refine(UE o A0 k0 A1 k1 W h1.sc h1.tb HO.out).mono ?_
 rintro e W2 ⟨rfl,hb⟩;have HB2:=bt HB1 hb;have P2:=bl P1 hb;have Q2:=bl Q1 hb;clear hb HB1 P1 Q1 h1;generalize RV o=eo at*
 cases hc:YR o
 ·rw [hc] at HCh HE0;obtain rfl:eo=63:=HE0.out;go_wp2_with (first | ((refine sO Q2 HI ?_);intro wS HS) | fail);refine bodyPost_ret (rt (hid HS.out.Ym) Tryz.underlying26 HI) rfl ?_
  exact⟨63,⟨[],[]⟩,none,0,none,0,rfl,by rw [HCh.out];exact⟨rfl,rfl⟩,⟨ZV.nil,ZV.nil⟩,(HS.out.below HB2.out (by omega)).x x⟩
 have HCk:=hid hc;rw [hc] at HCh HE0;obtain rfl:eo=0:=HE0.out;have p0:=ce P2 0;have p1:=ce P2 1;go_wp2_with fail;have h1:=HOb.out.later HB2.out;refine(JW o A0 k0 A1 k1 W2 h1.sc h1.tb HO.out).mono ?_
 rintro e W3 ⟨B0,l0,B1,l1,ts,b,rfl,hin,hb⟩;have HB3:=bt HB2 hb;have Q3:=bl Q2 hb;have hz3:=hb.size;have hz2:=HB2.out.size;have hq2:=Q2.out.lt;obtain⟨b',hin',hbd⟩:=hin.IX;have HIn:=hid hin';have HBd:=hid hbd;clear hb HB2 P2 Q2 p0 p1 h1 hin hin' hbd;go_wp2_with fail;refine Zj _ fun W4 hW=> ?_
 have hb4:Below W3.heap.size W3 W4:=by rw [hW];exact br.alloc lr _
 have HB4:=bt HB3 hb4;have R4:=nC hW;have Q4:=bl Q3 hb4;clear hW;refine(HCl.out W4 W2.heap.size W3.heap.size B0 l0 B1 l1 ts b' (by omega) HB4.out (HIn.out.below hb4) (fun j hj=>by have:=HBd.out j hj;have:=hb4.size;omega) R4.out (by omega) HCk.out).mono ?_
 rintro e W5 ⟨er,o',C0,m0,C1,m1,rfl,hR,hR5,hOb,hb⟩;have HB5:=hid (Ze.pre HB4.out (hb.mono (by omega)));have Q5:=hid (hb.Ym Q4.out (by omega) fun e=>by have:=hx _ e;omega)
 have R5:=hid hR5;have HRr:=hid hR;have HOb5:=hid hOb;clear hb hb4 HB3 HB4 R4 Q4 hR hR5 hOb HIn HBd Q3;by_cases he:er=0
 ·subst he;go_wp2_with (first
   |(refine lO R5 HI Tryz.underlying26 ?_)
   |((refine sO Q5 HI ?_);intro wS HS) | fail)
  refine bodyPost_ret (rt (hid HS.out.Ym) Tryz.underlying26 HI) rfl ?_
  exact⟨0,o',C0,m0,C1,m1,rfl,by rw [HCh.out];exact⟨o',HRr.out,rfl⟩,HOb5.out.keeps HS.out.keeps (by decide),HB5.out.post (HS.out.SY.mono (by omega))⟩
 ·have he1:(er == 0)=false:=by simpa using he
  have he2:(er != 0)=true:=by simp [he]
  go_wp2_with (first | ((refine sO Q5 HI ?_);intro wS HS) | fail);refine bodyPost_ret (rt (hid HS.out.Ym) Tryz.underlying26 HI) rfl ?_
  exact⟨er,⟨[],[]⟩,none,0,none,0,rfl,by rw [HCh.out];exact⟨o',HRr.out,by rw [if_neg he]⟩,⟨ZV.nil,ZV.nil⟩,HB5.out.post (HS.out.SY.mono (by omega))⟩
def WS (x:Option Nat)(w:World)(base p gt:Nat)(B0:Option Addr)(l0 l1:Nat)(o:Ob)(R:Int→Ob→Prop)(e:Ending)(w':World):Prop:=
 ∃ er o',e= .returned (.int .i64 er)∧R er o'∧o'.Z4.length=o.Z4.length∧o'.Z7.length=o.Z7.length∧ZP w' p 26 [.slice B0 o.Z4.length l0,.slice (some ⟨gt,0,none⟩) o.Z7.length l1]∧PM w' o' B0 (some ⟨gt,0,none⟩)∧Ze base x w w'
def Su (x:Option Nat)(g:Nat)(cb:Array Value)(o:Ob)(w0:World)(s n:List UInt8)(R:Nat→Int→Ob→Prop):Prop:=
 ∀ (w:World) (base p gt i:Nat) (B0:Option Addr) (l0 l1:Nat) (ts:List Za) (b:Nat→Nat),w0.heap.size≤base→Below w0.heap.size w0 w→WE w base o B0 l0 (some ⟨gt,0,none⟩) l1 ts b→(∀ j,j≤ts.length→b j≤w.heap.size)→ZP w p 26 [.slice B0 o.Z4.length l0,.slice (some ⟨gt,0,none⟩) o.Z7.length l1]→base≤p→YR o=true→Xr o s n=some i→(hi:i<o.Z7.length)→
  Calls Tryz.prog g (#[.agg #[.slice B0 o.Z4.length l0,.slice (some ⟨gt,0,none⟩) o.Z7.length l1],.pointer (some ⟨gt,i*5,none⟩)] ++cb) w (WS x w base p gt B0 l0 l1 o (R i))
def RT (o:Ob)(s n:List UInt8)(R:Nat→Int→Ob→Prop)(er:Int)(o':Ob):Prop:=(Xr o s n=none∧er=61)∨ ∃ i,Xr o s n=some i∧R i er o'
theorem M4 (x:Option Nat)(g:Nat)(cb:Array Value)(R:Nat→Int→Ob→Prop)(o:Ob)(s n:List UInt8)(c1 c2 c3:Nat)(w0 w00:World)(eg: ∀ args w,(callFunc g args).run Tryz.prog w= .ok (.enter g args) w)(ho:o.Zs 1099511627776)(h1:ZP w0 c1 9 [.string (Z9 s)])(h2:ZP w0 c2 9 [.string (Z9 n)])(h3:ZP w0 c3 234 [.func (.func g) #[] cb])
  (h00:Below w00.heap.size w00 w0) (hcl:Su x g cb o w00 s n R) (hx: ∀ c,x=some c→c<w00.heap.size) (hc3:w00.heap.size≤c3):QB x 247 #[.pointer (some ⟨c1,0,none⟩),.pointer (some ⟨c2,0,none⟩),.pointer (some ⟨c3,0,none⟩)] o w0 (RT o s n R):=by
 intro w base p B0 l0 B1 l1 ts b hbase hw0 hin hbd hp hpb hck;have HO:=hid ho;have htl:=ho.2.1;have H1:=hid (h1.below hw0 h1.lt);have H2:=hid (h2.below hw0 h2.lt);have H3:=hid (h3.below hw0 h3.lt);have hl1:=h1.lt;have hl2:=h2.lt;have hl3:=h3.lt;have HCl:=hid hcl;have HW0:=hid hw0;have H00:=hid h00;have HIn:=hid hin;have HBd:=hid hbd;have HP:=hid hp;have HCk:=hid hck;have hpl:=hp.lt;have hwz:=hw0.size;have hbz:base≤w.heap.size:=by
  have:=hin.low;have:=hbd 0 (Nat.zero_le _);omega
 clear ho h1 h2 h3 hcl hw0 hin hbd hp hck h00;have a0:=ce HP 0;have a1:=ce HP 1;have a2:=ce H1 0;have a3:=ce H2 0;have hW0:Below w.heap.size w w.drew:=br.drew;have hkeep:Hid (∀ w1 w2,(fun w'=>Below w.heap.size w w'∧w'.cell? ⟨p,0,none⟩=some (.slice B0 o.Z4.length l0)∧w'.cell? ⟨p,1,none⟩=some (.slice B1 o.Z7.length l1)∧w'.cell? ⟨c1,0,none⟩=some (.string (Z9 s))∧w'.cell? ⟨c2,0,none⟩=some (.string (Z9 n))) w1→Below w1.heap.size w1 w2→(fun w'=>Below w.heap.size w w'∧w'.cell? ⟨p,0,none⟩=some (.slice B0 o.Z4.length l0)∧w'.cell? ⟨p,1,none⟩=some (.slice B1 o.Z7.length l1)∧w'.cell? ⟨c1,0,none⟩=some (.string (Z9 s))∧w'.cell? ⟨c2,0,none⟩=some (.string (Z9 n))) w2):=hid (by
  intro w1 w2 ⟨h1,_⟩ h2;have h3:Below w.heap.size w w2:=h1.trans (h2.mono h1.size);exact⟨h3,ct a0 h3 hpl,ct a1 h3 hpl,(h3.cell (p:=⟨c1,0,none⟩) (by show c1<_;omega)).trans a2,(h3.cell (p:=⟨c2,0,none⟩) (by show c2<_;omega)).trans a3⟩)
 have HWh:Hid (∀ W,Below w.heap.size w W→Calls Tryz.prog 57 #[.agg #[.slice B0 o.Z4.length l0,.slice B1 o.Z7.length l1],.string (Z9 s),.string (Z9 n)] W fun e w'=>e= .returned (.tuple #[.int .i64 (Xe (Xr o s n)),.bool (Xr o s n).isSome])∧Below W.heap.size W w'):=hid (by
  intro W hW;have cW:=Vm (o.Z4.map Sc.da) (o.Z7.map Tb.da) B0 l0 B1 l1 s n W (HIn.out.r.tb.later hW) (by simpa using htl);rwa [List.length_map,List.length_map,Vn,UI] at cW)
 have HTa:Hid (∀ er o',RT o s n R er o'=((Xr o s n=none∧er=61)∨ ∃ i,Xr o s n=some i∧R i er o')):=hid fun _ _=>rfl
 have HFd:Hid (∀ i,Xr o s n=some i→i<o.Z7.length):=hid fun i h=>(WZ (show o.Z7.findIdx? (fun x=>x.Z8 == s && x.name == n)=some i from h)).1
 have HTi:=hid (show ∀ i,Xr o s n=some i→Xr o s n=some i from fun _ h=>h);generalize hta:Xr o s n=ta at*;have HTe:=hid hta;clear hta;go_enter Tryz.func247,Tryz.ntmps247
 go_wp2_with fail;go_region_held_law (fun w'=>Below w.heap.size w w'∧w'.cell? ⟨p,0,none⟩=some (.slice B0 o.Z4.length l0)∧w'.cell? ⟨p,1,none⟩=some (.slice B1 o.Z7.length l1)∧w'.cell? ⟨c1,0,none⟩=some (.string (Z9 s))∧w'.cell? ⟨c2,0,none⟩=some (.string (Z9 n)))
  (first | exact hkeep.out _ _ (by assumption) (by assumption) | exact⟨hW0,a0,a1,a2,a3⟩)
  (first | (go_at_call 57;refine(HWh.out _ (by first | exact hW0 | assumption)).mono ?_;rintro e w' ⟨rfl,hb⟩))
 rename_i hS;have HBw:=hid hS.1;have b0:=hS.2.1;have b1:=hS.2.2.1;clear hS hkeep a0 a1 a2 a3
 cases ta with
 | none=>
  go_wp2;go_ret;exact⟨61,o,B0,l0,B1,l1,rfl,by rw [HTa.out];exact Or.inl ⟨by simp,rfl⟩,HP.out.below HBw.out hpl,HIn.out.t.keeps (ZS.Zr (ts:= []) HBw.out lr) (by simp),(HBw.out.mono hbz).x x⟩
 | some i=>
  have hi:=HFd.out i rfl;obtain⟨gt,rfl⟩: ∃ gt,B1=some ⟨gt,0,none⟩:=by
   obtain⟨gt,cap,hv,_,_⟩:=HIn.out.Z7.form (by omega);exact⟨gt,by injection hv⟩
  have c3':=cd (H3.out.below HBw.out (by omega)) 0;rw [show Xe (some i)=(i:Int) from rfl];have hi1:(0:Int)≤(i:Int):=by omega
  have hi2:(i:Int)< (o.Z7.length:Int):=by omega
  have hW1:Below w'.heap.size w' w'.drew:=br.drew;go_wp2_with fail;refine wp_region_held_drew (S:=fun w'=>w'.cell? ⟨p,0,none⟩=some (.slice B0 o.Z4.length l0)∧w'.cell? ⟨p,1,none⟩=some (.slice (some ⟨gt,0,none⟩) o.Z7.length l1)∧w'.cell? ⟨c3,0,none⟩=some (.func (.func g) #[] cb)) (by kernel_rfl) ⟨b0,b1,c3'⟩ (fun HD=> ?_)
  (try simp only [pp]);refine tk 0 19 HD ?_;refine tk 1 20 HD ?_;refine tk 2 21 HD ?_;refine tk 3 22 HD ?_;refine tk 4 23 HD ?_;refine tk 5 24 HD ?_;refine tk 6 25 HD ?_;refine tk 7 26 HD ?_;refine tk 8 27 HD ?_;refine tk 9 28 HD ?_;refine on 10 29 fun K hK=> ?_
  go_simp;go_at_fn g
  have hB2:Below w.heap.size w w'.drew:=HBw.out.trans (hW1.mono HBw.out.size);refine(HCl.out w'.drew base p gt i B0 l0 l1 ts b (by have:=H00.out.size;omega) (H00.out.trans ((HW0.out.trans (hB2.mono hwz)).mono H00.out.size)) (HIn.out.below hB2) (fun j hj=>Nat.le_trans (HBd.out j hj) hB2.size) (HP.out.below hB2 hpl) hpb HCk.out HTe.out hi).mono ?_
  rintro e W5 ⟨er,o',rfl,hR,hl1',hl2',hP5,hOb,hb⟩;have HF:Hid (UX x w base p (RT o s n R) (.returned (.int .i64 er)) W5):=hid ⟨er,o',B0,l0,some ⟨gt,0,none⟩,l1,rfl,by rw [HTa.out];exact Or.inr ⟨i,by simp,hR⟩,by rw [hl1',hl2'];exact hP5,hOb,Ze.pre ((HBw.out.mono hbz).trans (hW1.mono (Nat.le_trans hbz HBw.out.size))) hb⟩;refine hK _ _ ⟨hP5.cell 0,hP5.cell 1,?_⟩ (fun HD=> ?_)
  ·exact(World.cell?_of_block (hb.block c3 (by omega) (fun e=>by have:=hx _ e;omega))).trans c3'
  clear hK K;(try simp only [pp])
  refine tk 11 5 HD ?_;refine wpAnyH_done (by kernel_rfl) ?_ _
  go_wp2;go_ret;exact HF.out
theorem Vp (x:Option Nat)(g:Nat)(cb:Array Value)(R:Nat→Int→Ob→Prop)(o:Ob)(s n:List UInt8)(A0:Option Addr)(k0:Nat)(A1:Option Addr)(k1:Nat)(w:World)(eg: ∀ args w,(callFunc g args).run Tryz.prog w= .ok (.enter g args) w)(hO:O3 w o A0 A1)(ho:o.Zs 1099511627776)(hcl:Su x g cb o w s n R)(hx: ∀ c,x=some c→c<w.heap.size):
  Calls Tryz.prog 176 #[.agg #[.slice A0 o.Z4.length k0,.slice A1 o.Z7.length k1],.string (Z9 s),.string (Z9 n),.func (.func g) #[] cb] w fun e w'=> ∃ er o' C0 m0 C1 m1,e= .returned (.tuple #[.agg #[.slice C0 o'.Z4.length m0,.slice C1 o'.Z7.length m1],.int .i64 er])∧Pe o (RT o s n R) er o'∧PM w' o' C0 C1∧Ze w.heap.size x w w':=by
 have HOb:=hid hO;have HO:=hid ho;have HCl:=hid hcl;have HI:=iN 26 2;have HEn:=hid eg;clear hO ho hcl eg;go_enter Tryz.func176,Tryz.ntmps176
 go_wp2_with fail;refine Zj _ fun W hW=> ?_
 have HB1:Hid (Below w.heap.size w W):=hid (by rw [hW];exact((((br.alloc lr _).alloc (by simp) _).alloc (by simp;omega) _).alloc (by simp;omega) _).alloc (by simp;omega) _);have hq:ZP W (w.heap.size+1+1+1+1) 26 [.slice none 0 0,.slice none 0 0]∧ZP W (w.heap.size+1) 9 [.string (Z9 s)]∧ZP W (w.heap.size+1+1) 9 [.string (Z9 n)]∧ZP W (w.heap.size+1+1+1) 234 [.func (.func g) #[] cb]:=by
  rw [hW];refine⟨?_,?_,?_,?_⟩
  ·simpa using ZP.new ((((w.alloc (.cells #[.slice A0 o.Z4.length k0,.slice A1 o.Z7.length k1] 26)).alloc (.cells #[.string (Z9 s)] 9)).alloc (.cells #[.string (Z9 n)] 9)).alloc (.cells #[.func (.func g) #[] cb] 234)) 26 [.slice none 0 0,.slice none 0 0]
  ·exact((ZP.alloc (by simpa using ZP.new (w.alloc (.cells #[.slice A0 o.Z4.length k0,.slice A1 o.Z7.length k1] 26)) 9 [.string (Z9 s)]) _).alloc _).alloc _
  ·exact(ZP.alloc (by simpa using ZP.new ((w.alloc (.cells #[.slice A0 o.Z4.length k0,.slice A1 o.Z7.length k1] 26)).alloc (.cells #[.string (Z9 s)] 9)) 9 [.string (Z9 n)]) _).alloc _
  ·exact ZP.alloc (by simpa using ZP.new (((w.alloc (.cells #[.slice A0 o.Z4.length k0,.slice A1 o.Z7.length k1] 26)).alloc (.cells #[.string (Z9 s)] 9)).alloc (.cells #[.string (Z9 n)] 9)) 234 [.func (.func g) #[] cb]) _
 obtain⟨q0,q1,q2,q3⟩:=hq;have Q0:=hid q0;have hql:=q0.lt;clear hW;have hWz:=HB1.out.size;refine(WB x 247 _ (RT o s n R) o A0 k0 A1 k1 W (enters_of Tryz.func247 (by kernel_rfl) rfl) (HOb.out.later HB1.out) HO.out (M4 x g cb R o s n _ _ _ W w HEn.out HO.out q1 q2 q3 HB1.out HCl.out hx (by omega)) (fun c hc=>by have:=hx c hc;omega)).mono ?_
 rintro e W2 ⟨er,o',C0,m0,C1,m1,rfl,hR,hOb,hb⟩;have HB2:=hid (Ze.pre HB1.out (hb.mono hWz));have Q2:=hid (hb.Ym Q0.out Q0.out.lt fun e=>by have:=hx _ e;omega)
 have HR:=hid hR;have HOb2:=hid hOb;clear hb hR hOb HB1 Q0 q0 q1 q2 q3;go_wp2_with (first | ((refine sO Q2 HI ?_);intro wS HS) | fail);refine bodyPost_ret (rt (hid HS.out.Ym) Tryz.underlying26 HI) rfl ?_
 exact⟨er,o',C0,m0,C1,m1,rfl,HR.out,HOb2.out.keeps HS.out.keeps (by decide),HB2.out.post (HS.out.SY.mono (by omega))⟩
end Go.Proofs.YtnhmoibjlakhjaaGreat
