/- Lemmas of the proof. No condition but each theorem's own. -/
import Derived.Test.YtnhmoibjlakhjaaGreatR32
import Derived.Test.YtnhmoibjlakhjaaGreatR33
import Derived.Test.YtnhmoibjlakhjaaGreatR18
import Derived.Test.YtnhmoibjlakhjaaGreatR03
import Derived.Test.YtnhmoibjlakhjaaGreatR10
import Derived.Test.YtnhmoibjlakhjaaGreatR20
import Derived.Recover
import Derived.Defers
set_option linter.unusedVariables false
set_option linter.unusedSimpArgs false
namespace Go.Proofs.YtnhmoibjlakhjaaGreat
open Lib (hid)
set_option maxRecDepth 100000
set_option maxHeartbeats 16000000
open Go.RowKit
theorem Zk {P:Program}{w:World}{ops:Array Oper}{o:Oper}{a:Act}{K:Act→World→Prop}{Q:Exit→Act→World→Prop}{E':Prop}(hgd:o.guard=none)(ty:TypeId)(x y:Operand)(ho:o.op= .store ty x y)
  (b:Nat) (cs:List Value) (hx:a.eval x= .pointer (some ⟨b,0,none⟩)) (hy:a.eval y= .agg cs.toArray) {t:TypeId} {cs0:List Value} (hB:Hid (ZP w b t cs0)) {n:Nat} (hn0:cs0.length=n) (hn:cs.length=n)
  (hi:Hid ((P.info? ty).map (·.size)=some n)) (h1: ∀ v∈cs,v.oneCell'=true)
  (h: ∀ w',Hid (Vo w w' b t cs)→K (a.put o.dst undef) w'):if Region.wanted o (yielded ops a.tmps)=true then Oper.wp P o a w K Q else E':=by
 have hw:Region.wanted o (yielded ops a.tmps)=true:=by simp [Region.wanted,hgd]
 rw [if_pos hw];refine wp_store_mid ty x y ho b 0 cs.toArray hx hy (hB.out.there 0 _ (by simp [hn0,hn])) (by rw [List.size_toArray,hn];exact hi.out) (all_oneCell_toArray h1) (h _ (hid ?_));exact⟨hB.out.Qi _ (by rw [hn0,hn]),fun k hk=>Zb w b hk 0 _,Y8 w b 0 _,hB.out.Xr,ZJ lr 0 _⟩
structure TU (w:World) (base:Nat) (r:Ro) (A0:Option Addr) (k0:Nat) (A1:Option Addr) (k1:Nat):Prop where
 nm:w.ownsRow base 9 1 (.slice A0 r.ZW.length k0) r.ZW.length (r.ZW.flatMap YS)
 mb:w.ownsRow base 147 2 (.slice A1 r.Z2.length k1) r.Z2.length (r.Z2.flatMap Mb.cs)
theorem TU.keeps {us:List TypeId}{w w':World}{base:Nat}{r:Ro}{A0:Option Addr}{k0:Nat}{A1:Option Addr}{k1:Nat}(h:TU w base r A0 k0 A1 k1)(hk:ZR us w w')(h1:9∉us)(h2:147∉us):TU w' base r A0 k0 A1 k1:=⟨h.nm.keeps hk h1,h.mb.keeps hk h2⟩
theorem TU.below {w w':World}{base:Nat}{r:Ro}{A0:Option Addr}{k0:Nat}{A1:Option Addr}{k1:Nat}(h:TU w base r A0 k0 A1 k1)(hb:Below w.heap.size w w'):TU w' base r A0 k0 A1 k1:=⟨h.nm.Zw hb,h.mb.Zw hb⟩
structure KO (w:World) (r:Ro) (A0 A1:Option Addr):Prop where
 nm:ZV w (Xn w CG) [.Z9] (YU r.ZW) A0
 mb:ZV w (Xn w CG) Y5 (r.Z2.map Mb.da) A1
theorem TU.t {w:World}{base:Nat}{r:Ro}{A0:Option Addr}{k0:Nat}{A1:Option Addr}{k1:Nat}(h:TU w base r A0 k0 A1 k1):KO w r A0 A1:=⟨VN (us:=CG) h.nm,Sv (us:=CG) h.mb⟩
theorem KO.keeps {us:List TypeId}{w w':World}{r:Ro}{A0 A1:Option Addr}(h:KO w r A0 A1)(hk:ZR us w w')(hd: ∀ t,t∈CG→t∉us):KO w' r A0 A1:=⟨ZB h.nm hk hd,ZB h.mb hk hd⟩
def IZ (base p:Nat)(w:World)(e:Ending)(w':World):Prop:=
 ∃ (er:Int) (r':Ro) (B0:Option Addr) (l0:Nat) (B1:Option Addr) (l1:Nat),e= .returned (.int .i64 er)∧ZP w' p 30 [.slice B0 r'.ZW.length l0,.slice B1 r'.Z2.length l1]∧TU w' base r' B0 l0 B1 l1∧Below base w w'∧r'.Zv 512
def LT (g:Nat)(cb:Array Value)(r:Ro)(w0:World):Prop:=
 ∀ (w:World) (base p:Nat) (A0:Option Addr) (k0:Nat) (A1:Option Addr) (k1:Nat),w0.heap.size≤base→base≤w.heap.size→Below w0.heap.size w0 w→TU w base r A0 k0 A1 k1→ZP w p 30 [.slice A0 r.ZW.length k0,.slice A1 r.Z2.length k1]→base≤p→Yu r=true→
  Calls Tryz.prog g (#[.pointer (some ⟨p,0,none⟩)] ++cb) w (IZ base p w)
def ME (w:World)(e:Ending)(w':World):Prop:=
 ∃ (er:Int) (r':Ro) (B0:Option Addr) (l0:Nat) (B1:Option Addr) (l1:Nat),e= .returned (.tuple #[.agg #[.slice B0 r'.ZW.length l0,.slice B1 r'.Z2.length l1],.int .i64 er])∧KO w' r' B0 B1∧Below w.heap.size w w'∧r'.Zv 512
theorem IT {F T:Nat→Option Addr→Nat→Option Addr→Nat→World→Prop}{G:Prop}(h:(∀ p A c B d w,F p A c B d w→T p A c B d w)→G)(k: ∀ p A c B d w,F p A c B d w→T p A c B d w):G:=h k
theorem KO.none_ (w:World):KO w ⟨[],[]⟩ none none:=⟨ZV.nil,ZV.nil⟩
theorem Ro.Oh:(⟨[],[]⟩:Ro).Zv 512:=⟨by simp,by simp,by simp,by simp⟩
theorem Wn (g:Nat)(cb:Array Value)(r:Ro)(A0:Option Addr)(k0:Nat)(A1:Option Addr)(k1:Nat)(w:World)(eg: ∀ args w,(callFunc g args).run Tryz.prog w= .ok (.enter g args) w)(hN:ZV w (· < w.heap.size) [.Z9] (YU r.ZW) A0)(hM:ZV w (· < w.heap.size) Y5 (r.Z2.map Mb.da) A1)(ht:r.Zv 1099511627776)(hcl:LT g cb r w):
  Calls Tryz.prog 178 #[.agg #[.slice A0 r.ZW.length k0,.slice A1 r.Z2.length k1],.func (.func g) #[] cb] w (ME w):=by
 have HNm:=hid hN;have HMb:=hid hM;have HT:=hid ht;have HCl:=hid hcl;have hnl:=ht.1;have hml:=ht.2.1;have HI2:=iN 30 2;have HE1:Hid (U3 r=if Yu r then 0 else 1):=hid rfl;clear hN hM ht hcl;go_enter Tryz.func178,Tryz.ntmps178
 go_wp2_with fail;refine Zm _ fun Wa hW=> ?_
 have HBa:=bQ hW;have Pa:=nD hW;have Qa:=nF hW;clear hW;refine(Ry r A0 k0 A1 k1 Wa (HNm.out.later HBa.out) (HMb.out.later HBa.out) HT.out).mono ?_
 rintro e W0 ⟨rfl,hb⟩;have HBw:=bt HBa hb;have P0:=bl Pa hb;have Q0:=bl Qa hb;clear hb HBa Pa Qa
 cases hr:Yu r
 ·rw [hr] at HE1;rw [show U3 r=1 from HE1.out];clear hr;go_wp2_with (first | ((refine sO Q0 HI2 ?_);intro wS HS) | fail);refine bodyPost_ret (rt (hid HS.out.X8) Tryz.underlying30 HI2) rfl ?_
  exact⟨1,⟨[],[]⟩,none,0,none,0,rfl,KO.none_ _,HS.out.below HBw.out (by omega),Ro.Oh⟩
 ·rw [hr] at HE1;rw [show U3 r=0 from HE1.out];have HRr:=hid hr;clear hr;go_wp2_with fail;have HB:Hid (Below W0.heap.size W0 W0.drew):=hid br.drew;refine' IT (F:=fun p B0 l0 B1 l1 V=>Hid (ZP V p 30 [.slice B0 r.ZW.length l0,.slice B1 r.Z2.length l1])∧Hid (V.ownsRow W0.heap.size 9 1 (.slice B0 r.ZW.length l0) r.ZW.length (r.ZW.flatMap YS))∧Hid (V.ownsRow W0.heap.size 147 2 (.slice B1 r.Z2.length l1) r.Z2.length (r.Z2.flatMap Mb.cs))∧Hid (Below W0.heap.size W0 V)∧Hid (W0.heap.size≤p)) (fun key=>_) _
  rotate_left
  ·refine wp_region_held_drew (S:=fun w'=>Below W0.heap.size W0 w'∧w'.cell? ⟨w.heap.size,0,none⟩=some (.slice A0 r.ZW.length k0)∧w'.cell? ⟨w.heap.size,1,none⟩=some (.slice A1 r.Z2.length k1)) (by kernel_rfl) ⟨HB.out,((HB.out).cell (p:=⟨w.heap.size,0,none⟩) P0.out.lt).trans (P0.out.cell 0),((HB.out).cell (p:=⟨w.heap.size,1,none⟩) P0.out.lt).trans (P0.out.cell 1)⟩ (fun HD=> ?_)
   (try simp only [pp]);refine tk 0 15 HD ?_;refine tk 1 16 HD ?_;refine tk 3 18 HD ?_;refine tk 4 19 HD ?_;refine wpAnyH_ready (rs:= [2,7]) (by kernel_rfl) (by simp) ?_
   refine AllReadyH.cons (o:=⟨some 17,_,_,_,_,_⟩) rfl (fun K hK=> ?_) (AllReadyH.cons (o:=⟨some 7,_,_,_,_,_⟩) rfl (fun K hK=> ?_) AllReadyH.nil)
   ·go_simp;have hbs:=HB.out.size;refine(XG A0 k0 r.ZW W0.drew (X9 (HNm.out.later (HBw.out.trans (HB.out.mono HBw.out.size)))) hnl).mono ?_
    rintro e V1 ⟨B0,l0,rfl,ho,hb⟩;replace HB:=hid (HB.out.trans (hb.mono HB.out.size));have HN:=hid (ho.Yn (show W0.heap.size≤W0.drew.heap.size from hbs));clear ho hb;refine hK.out _ _ ⟨HB.out,((HB.out).cell (p:=⟨w.heap.size,0,none⟩) P0.out.lt).trans (P0.out.cell 0),((HB.out).cell (p:=⟨w.heap.size,1,none⟩) P0.out.lt).trans (P0.out.cell 1)⟩ (fun HD=> ?_);clear hK K;(try simp only [pp])
    refine wpAnyH_ready (rs:= [5,7]) (by kernel_rfl) (by simp) ?_
    refine AllReadyH.cons (o:=⟨some 20,_,_,_,_,_⟩) rfl (fun K hK=> ?_) (AllReadyH.cons (o:=⟨some 7,_,_,_,_,_⟩) rfl (fun K hK=> ?_) AllReadyH.nil)
    ·go_simp;have hbs:=HB.out.size;refine(Xy A1 k1 r.Z2 V1 (Mb.Yj (HMb.out.later (HBw.out.trans (HB.out.mono HBw.out.size)))) hml).mono ?_
     rintro e V2 ⟨B1,l1,rfl,ho,hb⟩;replace HN:=hid (HN.out.Zw hb);replace HB:=hid (HB.out.trans (hb.mono HB.out.size));have HM:=hid (ho.Yn (show W0.heap.size≤V1.heap.size from hbs));clear ho hb;refine hK.out _ _ ⟨HB.out,((HB.out).cell (p:=⟨w.heap.size,0,none⟩) P0.out.lt).trans (P0.out.cell 0),((HB.out).cell (p:=⟨w.heap.size,1,none⟩) P0.out.lt).trans (P0.out.cell 1)⟩ (fun HD=> ?_);clear hK K;(try simp only [pp])
     refine tk 6 21 HD ?_;refine on 7 7 fun K hK=> ?_
     go_simp;have hb:Below V2.heap.size V2 (V2.alloc (.cells #[.slice none 0 0,.slice none 0 0] 30)):=br.alloc lr _;have HG:Hid (ZP (V2.alloc (.cells #[.slice none 0 0,.slice none 0 0] 30)) V2.heap.size 30 [.slice none 0 0,.slice none 0 0]):=hid (ZP.new V2 _ _);have HGZ:Hid (W0.heap.size≤V2.heap.size):=hid HB.out.size;replace HN:=hid (HN.out.Zw hb);replace HM:=hid (HM.out.Zw hb);replace HB:=hid (HB.out.trans (hb.mono HB.out.size));clear hb;generalize V2.alloc (.cells #[.slice none 0 0,.slice none 0 0] 30)=V3 at*;generalize V2.heap.size=p at*;refine hK.out _ _ ⟨HB.out,((HB.out).cell (p:=⟨w.heap.size,0,none⟩) P0.out.lt).trans (P0.out.cell 0),((HB.out).cell (p:=⟨w.heap.size,1,none⟩) P0.out.lt).trans (P0.out.cell 1)⟩ (fun HD=> ?_);clear hK K;(try simp only [pp])
     refine Rc 8 fun K hK=> ?_
     refine Zk rfl 30 _ _ rfl p [.slice B0 r.ZW.length l0,.slice B1 r.Z2.length l1] rfl rfl HG (by simp) (by simp) HI2 (by simp [Value.oneCell']) ?_
     intro w9 U;have HB9:Hid (Below W0.heap.size W0 w9):=hid (U.out.below HB.out HGZ.out);have HN9:=hid (HN.out.keeps U.out.keeps (by decide));have HM9:=hid (HM.out.keeps U.out.keeps (by decide));refine hK.out _ _ ⟨HB9.out,((HB9.out).cell (p:=⟨w.heap.size,0,none⟩) P0.out.lt).trans (P0.out.cell 0),((HB9.out).cell (p:=⟨w.heap.size,1,none⟩) P0.out.lt).trans (P0.out.cell 1)⟩ (fun HD=> ?_);clear hK K;(try simp only [pp])
     refine wpAnyH_done (by kernel_rfl) ?_ _
     exact key p B0 l0 B1 l1 w9 ⟨hid U.out.X8,HN9,HM9,HB9,HGZ⟩
    ·go_simp;have hb:Below V1.heap.size V1 (V1.alloc (.cells #[.slice none 0 0,.slice none 0 0] 30)):=br.alloc lr _;have HG:Hid (ZP (V1.alloc (.cells #[.slice none 0 0,.slice none 0 0] 30)) V1.heap.size 30 [.slice none 0 0,.slice none 0 0]):=hid (ZP.new V1 _ _);have HGZ:Hid (W0.heap.size≤V1.heap.size):=hid HB.out.size;replace HN:=hid (HN.out.Zw hb);replace HB:=hid (HB.out.trans (hb.mono HB.out.size));clear hb;generalize V1.alloc (.cells #[.slice none 0 0,.slice none 0 0] 30)=V4 at*;generalize V1.heap.size=p at*;refine hK.out _ _ ⟨HB.out,((HB.out).cell (p:=⟨w.heap.size,0,none⟩) P0.out.lt).trans (P0.out.cell 0),((HB.out).cell (p:=⟨w.heap.size,1,none⟩) P0.out.lt).trans (P0.out.cell 1)⟩ (fun HD=> ?_);clear hK K;(try simp only [pp])
     refine on 5 20 fun K hK=> ?_
     go_simp;have hbs:=HB.out.size;refine(Xy A1 k1 r.Z2 V4 (Mb.Yj (HMb.out.later (HBw.out.trans (HB.out.mono HBw.out.size)))) hml).mono ?_
     rintro e V5 ⟨B1,l1,rfl,ho,hb⟩;replace HN:=hid (HN.out.Zw hb);replace HG:=bl HG hb;replace HB:=hid (HB.out.trans (hb.mono HB.out.size));have HM:=hid (ho.Yn (show W0.heap.size≤V4.heap.size from hbs));clear ho hb;refine hK.out _ _ ⟨HB.out,((HB.out).cell (p:=⟨w.heap.size,0,none⟩) P0.out.lt).trans (P0.out.cell 0),((HB.out).cell (p:=⟨w.heap.size,1,none⟩) P0.out.lt).trans (P0.out.cell 1)⟩ (fun HD=> ?_);clear hK K;(try simp only [pp])
     refine tk 6 21 HD ?_;refine Rc 8 fun K hK=> ?_
     refine Zk rfl 30 _ _ rfl p [.slice B0 r.ZW.length l0,.slice B1 r.Z2.length l1] rfl rfl HG (by simp) (by simp) HI2 (by simp [Value.oneCell']) ?_
     intro w9 U;have HB9:Hid (Below W0.heap.size W0 w9):=hid (U.out.below HB.out HGZ.out);have HN9:=hid (HN.out.keeps U.out.keeps (by decide));have HM9:=hid (HM.out.keeps U.out.keeps (by decide));refine hK.out _ _ ⟨HB9.out,((HB9.out).cell (p:=⟨w.heap.size,0,none⟩) P0.out.lt).trans (P0.out.cell 0),((HB9.out).cell (p:=⟨w.heap.size,1,none⟩) P0.out.lt).trans (P0.out.cell 1)⟩ (fun HD=> ?_);clear hK K;(try simp only [pp])
     refine wpAnyH_done (by kernel_rfl) ?_ _
     exact key p B0 l0 B1 l1 w9 ⟨hid U.out.X8,HN9,HM9,HB9,HGZ⟩
   ·go_simp;have hb:Below W0.heap.size W0 (W0.alloc (.cells #[.slice none 0 0,.slice none 0 0] 30)).drew:=(br.alloc lr _).drew;have HG:Hid (ZP (W0.alloc (.cells #[.slice none 0 0,.slice none 0 0] 30)).drew W0.heap.size 30 [.slice none 0 0,.slice none 0 0]):=hid (ZP.new W0 _ _);have HGZ:Hid (W0.heap.size≤W0.heap.size):=hid lr;replace HB:=hid hb;clear hb;generalize hV:(W0.alloc (.cells #[.slice none 0 0,.slice none 0 0] 30)).drew=V6 at*;clear hV;obtain⟨p,hp⟩: ∃ p,p=W0.heap.size:=⟨_,rfl⟩
    have HG':Hid (ZP V6 p 30 [.slice none 0 0,.slice none 0 0]):=hid (by rw [hp];exact HG.out);have HGZ':Hid (W0.heap.size≤p):=hid (by rw [hp];exact Nat.le_refl _);rw [←hp];clear HG HGZ hp;have HG:=HG';have HGZ:=HGZ';clear HG' HGZ';refine hK.out _ _ ⟨HB.out,((HB.out).cell (p:=⟨w.heap.size,0,none⟩) P0.out.lt).trans (P0.out.cell 0),((HB.out).cell (p:=⟨w.heap.size,1,none⟩) P0.out.lt).trans (P0.out.cell 1)⟩ (fun HD=> ?_);clear hK K;(try simp only [pp])
    refine on 2 17 fun K hK=> ?_
    go_simp;have hbs:=HB.out.size;refine(XG A0 k0 r.ZW V6 (X9 (HNm.out.later (HBw.out.trans (HB.out.mono HBw.out.size)))) hnl).mono ?_
    rintro e V7 ⟨B0,l0,rfl,ho,hb⟩;replace HG:=bl HG hb;replace HB:=hid (HB.out.trans (hb.mono HB.out.size));have HN:=hid (ho.Yn (show W0.heap.size≤V6.heap.size from hbs));clear ho hb;refine hK.out _ _ ⟨HB.out,((HB.out).cell (p:=⟨w.heap.size,0,none⟩) P0.out.lt).trans (P0.out.cell 0),((HB.out).cell (p:=⟨w.heap.size,1,none⟩) P0.out.lt).trans (P0.out.cell 1)⟩ (fun HD=> ?_);clear hK K;(try simp only [pp])
    refine on 5 20 fun K hK=> ?_
    go_simp;have hbs:=HB.out.size;refine(Xy A1 k1 r.Z2 V7 (Mb.Yj (HMb.out.later (HBw.out.trans (HB.out.mono HBw.out.size)))) hml).mono ?_
    rintro e V8 ⟨B1,l1,rfl,ho,hb⟩;replace HN:=hid (HN.out.Zw hb);replace HG:=bl HG hb;replace HB:=hid (HB.out.trans (hb.mono HB.out.size));have HM:=hid (ho.Yn (show W0.heap.size≤V7.heap.size from hbs));clear ho hb;refine hK.out _ _ ⟨HB.out,((HB.out).cell (p:=⟨w.heap.size,0,none⟩) P0.out.lt).trans (P0.out.cell 0),((HB.out).cell (p:=⟨w.heap.size,1,none⟩) P0.out.lt).trans (P0.out.cell 1)⟩ (fun HD=> ?_);clear hK K;(try simp only [pp])
    refine tk 6 21 HD ?_;refine Rc 8 fun K hK=> ?_
    refine Zk rfl 30 _ _ rfl p [.slice B0 r.ZW.length l0,.slice B1 r.Z2.length l1] rfl rfl HG (by simp) (by simp) HI2 (by simp [Value.oneCell']) ?_
    intro w9 U;have HB9:Hid (Below W0.heap.size W0 w9):=hid (U.out.below HB.out HGZ.out);have HN9:=hid (HN.out.keeps U.out.keeps (by decide));have HM9:=hid (HM.out.keeps U.out.keeps (by decide));refine hK.out _ _ ⟨HB9.out,((HB9.out).cell (p:=⟨w.heap.size,0,none⟩) P0.out.lt).trans (P0.out.cell 0),((HB9.out).cell (p:=⟨w.heap.size,1,none⟩) P0.out.lt).trans (P0.out.cell 1)⟩ (fun HD=> ?_);clear hK K;(try simp only [pp])
    refine wpAnyH_done (by kernel_rfl) ?_ _
    exact key p B0 l0 B1 l1 w9 ⟨hid U.out.X8,HN9,HM9,HB9,HGZ⟩
  ·rintro p B0 l0 B1 l1 V ⟨HP,HN,HM,HBV,HPz⟩;clear HB;go_wp2_with fail;have QV:=bl Q0 HBV.out;refine(HCl.out V W0.heap.size p B0 l0 B1 l1 HBw.out.size HBV.out.size (HBw.out.trans (HBV.out.mono HBw.out.size)) ⟨HN.out,HM.out⟩ HP.out HPz.out HRr.out).mono ?_
   rintro e V2 ⟨er,r',C0,m0,C1,m1,rfl,hp,hro,hb,htm⟩;have hql:=Q0.out.lt;have HB2:=hid (HBw.out.trans ((HBV.out.trans hb).mono HBw.out.size));have Q2:=hid (QV.out.below hb hql);have P2:=hid hp;have HR2:=hid hro;have HTm:=hid htm;clear hp hro hb htm HP HN HM HBV QV;by_cases h0:er=0
   ·subst h0;have e0:=ce P2 0;have e1:=ce P2 1;go_wp2_with (first | ((refine sO Q2 HI2 ?_);intro wS HS) | fail);refine bodyPost_ret (rt (hid HS.out.X8) Tryz.underlying30 HI2) rfl ?_
    exact⟨0,r',C0,m0,C1,m1,rfl,HR2.out.t.keeps HS.out.keeps (by decide),HS.out.below HB2.out (by omega),HTm.out⟩
   ·have h1:(er == 0)=false:=by simpa using h0
    go_wp2_with (first | ((refine sO Q2 HI2 ?_);intro wS HS) | fail);refine bodyPost_ret (rt (hid HS.out.X8) Tryz.underlying30 HI2) rfl ?_
    exact⟨er,⟨[],[]⟩,none,0,none,0,rfl,KO.none_ _,HS.out.below HB2.out (by omega),Ro.Oh⟩
theorem TU.Ld {w:World}{base:Nat}{r:Ro}{A0:Option Addr}{k0:Nat}{A1:Option Addr}{k1:Nat}(h:TU w base r A0 k0 A1 k1):Ze w w.heap.size A0 YS r.ZW:=XA h.nm rfl
theorem TU.Nv {w:World}{base:Nat}{r:Ro}{A0:Option Addr}{k0:Nat}{A1:Option Addr}{k1:Nat}(h:TU w base r A0 k0 A1 k1):Ze w w.heap.size A1 Mb.cs r.Z2:=XA h.mb rfl
theorem Li (r:Ro)(nm:List UInt8)(c1:Nat)(w0:World)(hHC:ZP w0 c1 9 [.string (Z9 nm)]):LT 187 #[.pointer (some ⟨c1,0,none⟩)] r w0:=by
 intro w base p A0 k0 A1 k1 hb0 hbw hw0 hin hp hpb hr;have HP0:=hid hp;have HR0:=hid hin;have HBz0:Hid (base≤w.heap.size):=hid hbw;have HB0:Hid (Below base w w):=hid br;have HC0:Hid (ZP w c1 9 [.string (Z9 nm)]):=hid (hHC.below hw0 hHC.lt);have hltHC:c1<base:=Nat.lt_of_lt_of_le hHC.lt hb0;have HTm:Hid (r.Zv 512):=hid (by obtain⟨a,b,e,f⟩:=XX hr;exact⟨by omega,by omega,fun n hn=>by have:=e n hn;omega,fun m hm=>by have:=f m hm;omega⟩)
 have HRr:=hid hr;have hnl:r.ZW.length≤1099511627776:=by have:=HTm.out.1;omega
 have hml:r.Z2.length≤1099511627776:=by have:=HTm.out.2.1;omega
 clear hp hin hbw hw0 hr hHC;go_enter Tryz.func187,Tryz.ntmps187
 go_wp2_with fail;refine wp_region_held_drew (S:=fun w'=>Below w.heap.size w w'∧w'.cell? ⟨p,0,none⟩=some (.slice A0 r.ZW.length k0)∧w'.cell? ⟨p,1,none⟩=some (.slice A1 r.Z2.length k1)∧w'.cell? ⟨c1,0,none⟩=some (.string (Z9 nm))) (by kernel_rfl) (⟨(Below.refl w.heap.size w).drew,cb HP0 ((Below.refl w.heap.size w).drew) 0,cb HP0 ((Below.refl w.heap.size w).drew) 1,cb HC0 ((Below.refl w.heap.size w).drew) 0⟩) (fun HD=> ?_)
 (try simp only [pp]);refine tk 0 7 HD ?_;refine tk 1 8 HD ?_;refine tk 2 9 HD ?_;refine tk 3 10 HD ?_;refine tk 4 11 HD ?_;refine on 5 12 fun K hK=> ?_
 go_simp;refine(LL r.ZW A0 k0 nm w.drew HR0.out.Ld hnl).mono ?_
 rintro e w1 ⟨at_,b,rfl,hale,_,hb⟩;have hbv:=HD.1.trans hb;refine hK.out _ _ ⟨hbv,cb HP0 (hbv) 0,cb HP0 (hbv) 1,cb HC0 (hbv) 0⟩ (fun HD=> ?_);clear hb hbv;clear hK K;(try simp only [pp])
 refine tk 6 6 HD ?_;refine tk 7 13 HD ?_;refine tk 8 14 HD ?_;refine tk 9 4 HD ?_;refine tk 10 5 HD ?_;refine wpAnyH_done (by kernel_rfl) ?_ _
 have hb1:=HD.1;have HP1:=bl HP0 hb1;have HR1:=hid (HR0.out.below hb1);have HB1:=hid (HB0.out.trans ((hb1).mono HBz0.out));have HBz1:=hid (Nat.le_trans HBz0.out (hb1).size);have HC1:=bl HC0 hb1;clear HD hb1 HP0 HR0 HB0 HBz0 HC0;have q:=ce HC1 0;go_wp2_with fail;refine(YL nm w1).mono ?_
 rintro e w2 ⟨rfl,m,hm⟩;have hb1:Below w1.heap.size w1 w2:=by rw [hm];exact below_drewN br m
 clear hm q;have HP2:=bl HP1 hb1;have HR2:=hid (HR1.out.below hb1);have HB2:=hid (HB1.out.trans ((hb1).mono HBz1.out));have HBz2:=hid (Nat.le_trans HBz1.out (hb1).size);have HC2:=bl HC1 hb1;clear hb1 HP1 HR1 HB1 HBz1 HC1
 cases hnb:Zr nm
 ·clear hnb;go_wp2;go_ret;exact⟨1,r,A0,k0,A1,k1,rfl,HP2.out,HR2.out,HB2.out,HTm.out⟩
 have HNb:=hid (Ym hnb);clear hnb
 cases b
 case true=>
  go_wp2;go_ret;exact⟨70,r,A0,k0,A1,k1,rfl,HP2.out,HR2.out,HB2.out,HTm.out⟩
 have q0:=ce HP2 0;by_cases h16:16≤r.ZW.length
 ·have h1:(r.ZW.length:Int)≥16:=by omega
  have h2:(16:Int)≤(r.ZW.length:Int):=by omega
  go_wp2;go_ret;exact⟨2,r,A0,k0,A1,k1,rfl,HP2.out,HR2.out,HB2.out,HTm.out⟩
 have h1: ¬ (r.ZW.length:Int)≥16:=by omega
 have h2: ¬ (16:Int)≤(r.ZW.length:Int):=by omega
 go_wp2_with fail;have hS:w2.drew.cell? ⟨p,0,none⟩=some (.slice A0 r.ZW.length k0)∧w2.drew.cell? ⟨c1,0,none⟩=some (.string (Z9 nm)):=⟨HP2.out.cell 0,HC2.out.cell 0⟩
 refine Zy 11 (S:=fun w'=>w'.cell? ⟨p,0,none⟩=some (.slice A0 r.ZW.length k0)∧w'.cell? ⟨c1,0,none⟩=some (.string (Z9 nm))) (by kernel_rfl) hS (fun HD'=> ?_)
 (try simp only [pp]);refine Y9 0 28 HD' ?_;refine Y9 1 29 HD' ?_;refine Y9 2 30 HD' ?_;refine Y9 3 31 HD' ?_;refine Y9 4 32 HD' ?_;refine Y9 5 33 HD' ?_;refine Y9 6 34 HD' ?_;refine Re 7 35 fun K hK=> ?_
 go_simp;have hb1:Below w2.heap.size w2 (w2.alloc (.cells #[.string (Z9 nm)] 9)).drew:=(br.alloc lr _).drew;have HX:Hid (ZP (w2.alloc (.cells #[.string (Z9 nm)] 9)).drew w2.heap.size 9 [.string (Z9 nm)]):=hid (ZP.new w2 _ _);have HPx:=bl HP2 hb1;have HRx:=hid (HR2.out.below hb1);have HBx:=hid (HB2.out.trans ((hb1).mono HBz2.out));have HBzx:=hid (Nat.le_trans HBz2.out (hb1).size);have HCx:=bl HC2 hb1;have hxn: ∀ g,A0=some ⟨g,0,none⟩→w2.heap.size≠g:=fun g hg e=>by have:=XQ HR2.out.nm (k:=g) (by rw [hg];rfl);omega
 have hSx:(w2.alloc (.cells #[.string (Z9 nm)] 9)).drew.cell? ⟨p,0,none⟩=some (.slice A0 r.ZW.length k0)∧(w2.alloc (.cells #[.string (Z9 nm)] 9)).drew.cell? ⟨c1,0,none⟩=some (.string (Z9 nm)):=⟨HPx.out.cell 0,HCx.out.cell 0⟩
 refine hK.out _ _ hSx ?_
 generalize (w2.alloc (.cells #[.string (Z9 nm)] 9)).drew=wx at*;generalize w2.heap.size=xb at*;clear hK K;(try simp only [pp])
 clear HD';have HD':=hSx;refine Re 8 36 fun K hK=> ?_
 go_simp;refine(NI base r.ZW A0 k0 at_ nm xb wx HRx.out.nm hale HX.out hxn hnl HBzx.out).mono ?_
 rintro e w9 ⟨A5,c5,rfl,ho,hb,hk⟩;have HP9:=hid (HPx.out.keeps hk (by decide));have HB9:=hid (HBx.out.trans hb);have HO9:=hid ho;have HM9:=hid (HRx.out.mb.keeps hk (by decide));have HC9:=hid (HCx.out.below hb hltHC);have hS9:w9.cell? ⟨p,0,none⟩=some (.slice A0 r.ZW.length k0)∧w9.cell? ⟨c1,0,none⟩=some (.string (Z9 nm)):=⟨HP9.out.cell 0,HC9.out.cell 0⟩
 refine hK.out _ _ hS9 ?_
 clear hK K;(try simp only [pp])
 clear HD';have HD':=hS9;refine U7 9 37 (fun _=>HD') ?_;refine Y9 10 38 HD' ?_;refine ZC.Xo (i:=11) (o:=⟨none,_,_,_,_,_⟩) (by kernel_rfl) (by kernel_rfl) rfl (fun K hK=> ?_)
 have e0:=ce HP9 0;have f0:=HP9.out.frozen 0;go_simp;refine hK.out _ _ (ZC.done (by kernel_rfl) ?_ _);clear hK K HD' hS9 hS hSx e0 f0;refine Sk _ fun wz hW=> ?_
 have HKz:Hid (ZR [30] w9 wz):=hid (by rw [hW];exact ZR.Zx HP9.out.Xr (by simp) _);have HPz:=rB hW (HP9.out.Zx 0 _);have HBz:Hid (Below base w wz):=hid (by rw [hW];exact HB9.out.setCell hpb _);clear hW;have hl9:(r.ZW.take at_ ++nm ::r.ZW.drop at_).length=r.ZW.length+1:=by simp only [List.length_append,List.length_take,List.length_cons,List.length_drop];omega
 go_wp2;go_ret;refine⟨0,⟨r.ZW.take at_ ++nm ::r.ZW.drop at_,r.Z2⟩,A5,c5,A1,k1,rfl,?_,⟨?_,?_⟩,HBz.out,?_⟩
 ·rw [hl9];exact HPz.out
 ·rw [hl9];exact HO9.out.keeps HKz.out (by decide)
 ·exact HM9.out.keeps HKz.out (by decide)
 ·obtain⟨a,b,e,f⟩:=XX HRr.out;refine⟨by show List.length _≤512;rw [hl9];omega,by show r.Z2.length≤512;omega,fun n hn=> ?_,fun m hm=>by have:=f m hm;omega⟩
  rcases List.mem_append.1 hn with hn | hn
  ·have:=e n (List.mem_of_mem_take hn);omega
  ·rcases List.mem_cons.1 hn with rfl | hn
   ·have:=HNb.out;omega
   ·have:=e n (List.mem_of_mem_drop hn);omega
theorem Nx (m:Mb)(nm:List UInt8)(c1:Nat)(w:World)(h:ZP w c1 9 [.string (Z9 nm)]):
  Calls Tryz.prog 182 #[.agg (m.cs).toArray,.pointer (some ⟨c1,0,none⟩)] w fun e w'=>e= .returned (.bool (m.ZT == nm || m.of == nm))∧Below w.heap.size w w':=by
 have a0:w.cell? ⟨c1,0,none⟩=some (.string (Z9 nm)):=h.cell 0;have l0:=h.lt;clear h;unfold Mb.cs
 cases hr:(m.ZT == nm)
 ·go_enter Tryz.func182,Tryz.ntmps182
  go_wp2;go_ret;exact⟨rfl,br.alloc lr _⟩
 ·go_enter Tryz.func182,Tryz.ntmps182
  go_wp2;go_ret;exact⟨rfl,br.alloc lr _⟩
theorem Mg (r:Ro)(nm:List UInt8)(c1:Nat)(w0:World)(hHC:ZP w0 c1 9 [.string (Z9 nm)]):LT 179 #[.pointer (some ⟨c1,0,none⟩)] r w0:=by
 intro w base p A0 k0 A1 k1 hb0 hbw hw0 hin hp hpb hr;have HP0:=hid hp;have HR0:=hid hin;have HBz0:Hid (base≤w.heap.size):=hid hbw;have HB0:Hid (Below base w w):=hid br;have HC0:Hid (ZP w c1 9 [.string (Z9 nm)]):=hid (hHC.below hw0 hHC.lt);have hltHC:c1<base:=Nat.lt_of_lt_of_le hHC.lt hb0;have HTm:Hid (r.Zv 512):=hid (by obtain⟨a,b,e,f⟩:=XX hr;exact⟨by omega,by omega,fun n hn=>by have:=e n hn;omega,fun m hm=>by have:=f m hm;omega⟩)
 have HRr:=hid hr;have hnl:r.ZW.length≤1099511627776:=by have:=HTm.out.1;omega
 have hml:r.Z2.length≤1099511627776:=by have:=HTm.out.2.1;omega
 clear hp hin hbw hw0 hr hHC;go_enter Tryz.func179,Tryz.ntmps179
 go_wp2_with fail;refine wp_region_held_drew (S:=fun w'=>Below w.heap.size w w'∧w'.cell? ⟨p,0,none⟩=some (.slice A0 r.ZW.length k0)∧w'.cell? ⟨p,1,none⟩=some (.slice A1 r.Z2.length k1)∧w'.cell? ⟨c1,0,none⟩=some (.string (Z9 nm))) (by kernel_rfl) (⟨(Below.refl w.heap.size w).drew,cb HP0 ((Below.refl w.heap.size w).drew) 0,cb HP0 ((Below.refl w.heap.size w).drew) 1,cb HC0 ((Below.refl w.heap.size w).drew) 0⟩) (fun HD=> ?_)
 (try simp only [pp]);refine tk 0 7 HD ?_;refine tk 1 8 HD ?_;refine tk 2 9 HD ?_;refine tk 3 10 HD ?_;refine tk 4 11 HD ?_;refine on 5 12 fun K hK=> ?_
 go_simp;refine(LL r.ZW A0 k0 nm w.drew HR0.out.Ld hnl).mono ?_
 rintro e w1 ⟨at_,b,rfl,hale,halt,hb⟩;have hbv:=HD.1.trans hb;refine hK.out _ _ ⟨hbv,cb HP0 (hbv) 0,cb HP0 (hbv) 1,cb HC0 (hbv) 0⟩ (fun HD=> ?_);clear hb hbv;clear hK K;(try simp only [pp])
 refine tk 6 6 HD ?_;refine tk 7 13 HD ?_;refine tk 8 14 HD ?_;refine tk 9 4 HD ?_;refine tk 10 5 HD ?_;refine wpAnyH_done (by kernel_rfl) ?_ _
 have HAlt:=hid halt;have hb1:=HD.1;have HP1:=bl HP0 hb1;have HR1:=hid (HR0.out.below hb1);have HB1:=hid (HB0.out.trans ((hb1).mono HBz0.out));have HBz1:=hid (Nat.le_trans HBz0.out (hb1).size);have HC1:=bl HC0 hb1;clear HD hb1 halt HP0 HR0 HB0 HBz0 HC0
 cases b
 ·clear HAlt;go_wp2;go_ret;exact⟨71,r,A0,k0,A1,k1,rfl,HP1.out,HR1.out,HB1.out,HTm.out⟩
 have hatl:at_<r.ZW.length:=HAlt.out (by trivial);clear HAlt;have q1:=ce HP1 1;go_wp2_with fail;have cH:=NP (fun d=>tx d 0 == nm || tx d 1 == nm) 182 #[.pointer (some ⟨c1,0,none⟩)] (r.Z2.map Mb.da) A1 k1 w1 (enters_of Tryz.func182 (by kernel_rfl) rfl) (ZV.Vb (us:=CG) (Sv HR1.out.mb)) (by simpa using hml) (by
  intro W' d vs hb _ hv;obtain⟨m,rfl,rfl⟩:=Mb.YN hv;exact Nx m nm c1 W' (HC1.out.below hb HC1.out.lt))
 rw [List.length_map] at cH;refine cH.mono ?_
 rintro e w2 ⟨rfl,hb1⟩;have HP2:=bl HP1 hb1;have HR2:=hid (HR1.out.below hb1);have HB2:=hid (HB1.out.trans ((hb1).mono HBz1.out));have HBz2:=hid (Nat.le_trans HBz1.out (hb1).size);have HC2:=bl HC1 hb1;clear cH hb1 q1 HP1 HR1 HB1 HBz1 HC1;generalize ((r.Z2.map Mb.da).any fun d=>tx d 0 == nm || tx d 1 == nm)=b2 at*
 cases b2
 case true=>
  go_wp2;go_ret;exact⟨73,r,A0,k0,A1,k1,rfl,HP2.out,HR2.out,HB2.out,HTm.out⟩
 have q:=ce HP2 0;go_wp2_with fail;refine(NX base r.ZW A0 k0 at_ w2 HR2.out.nm hatl hnl).mono ?_
 rintro e w9 ⟨rfl,ho,hb,hk,_⟩;have HP9:=hid (HP2.out.keeps hk (by decide));have HB9:=hid (HB2.out.trans hb);have HO9:=hid ho;have HM9:=hid (HR2.out.mb.keeps hk (by decide));clear ho hb hk q;have e0:=ce HP9 0;have f0:=HP9.out.frozen 0;have HKz:Hid (ZR [30] w9 (w9.setCell ⟨p,0,none⟩ (.slice A0 (r.ZW.length - 1:Nat) k0))):=hid (ZR.Zx HP9.out.Xr (by simp) _);have HPz:Hid (ZP (w9.setCell ⟨p,0,none⟩ (.slice A0 (r.ZW.length - 1:Nat) k0)) p 30 [.slice A0 (r.ZW.length - 1:Nat) k0,.slice A1 r.Z2.length k1]):=hid (HP9.out.Zx 0 _);have HBz:Hid (Below base w (w9.setCell ⟨p,0,none⟩ (.slice A0 (r.ZW.length - 1:Nat) k0))):=hid (HB9.out.setCell hpb _);have hl9:(r.ZW.eraseIdx at_).length=r.ZW.length - 1:=List.length_eraseIdx_of_lt hatl;go_wp2;go_ret;refine⟨0,⟨r.ZW.eraseIdx at_,r.Z2⟩,A0,k0,A1,k1,rfl,?_,⟨?_,?_⟩,HBz.out,?_⟩
 ·rw [hl9];exact HPz.out
 ·rw [hl9];exact HO9.out.keeps HKz.out (by decide)
 ·exact HM9.out.keeps HKz.out (by decide)
 ·obtain⟨a,b,e,f⟩:=XX HRr.out;refine⟨by show List.length _≤512;rw [hl9];omega,by show r.Z2.length≤512;omega,fun n hn=>by have:=e n (List.mem_of_mem_eraseIdx hn);omega,fun m hm=>by have:=f m hm;omega⟩
theorem Nq (r:Ro)(rl ofn:List UInt8)(c1 c2:Nat)(w0:World)(hHC:ZP w0 c1 9 [.string (Z9 rl)])(hHE:ZP w0 c2 9 [.string (Z9 ofn)]):LT 192 #[.pointer (some ⟨c1,0,none⟩),.pointer (some ⟨c2,0,none⟩)] r w0:=by
 intro w base p A0 k0 A1 k1 hb0 hbw hw0 hin hp hpb hr;have HP0:=hid hp;have HR0:=hid hin;have HBz0:Hid (base≤w.heap.size):=hid hbw;have HB0:Hid (Below base w w):=hid br;have HC0:Hid (ZP w c1 9 [.string (Z9 rl)]):=hid (hHC.below hw0 hHC.lt);have hltHC:c1<base:=Nat.lt_of_lt_of_le hHC.lt hb0;have HE0:Hid (ZP w c2 9 [.string (Z9 ofn)]):=hid (hHE.below hw0 hHE.lt);have hltHE:c2<base:=Nat.lt_of_lt_of_le hHE.lt hb0;have HTm:Hid (r.Zv 512):=hid (by obtain⟨a,b,e,f⟩:=XX hr;exact⟨by omega,by omega,fun n hn=>by have:=e n hn;omega,fun m hm=>by have:=f m hm;omega⟩)
 have HRr:=hid hr;have hnl:r.ZW.length≤1099511627776:=by have:=HTm.out.1;omega
 have hml:r.Z2.length≤1099511627776:=by have:=HTm.out.2.1;omega
 clear hp hin hbw hw0 hr hHC hHE;go_enter Tryz.func192,Tryz.ntmps192
 go_wp2_with fail;refine wp_region_held_drew (S:=fun w'=>Below w.heap.size w w'∧w'.cell? ⟨p,0,none⟩=some (.slice A0 r.ZW.length k0)∧w'.cell? ⟨p,1,none⟩=some (.slice A1 r.Z2.length k1)∧w'.cell? ⟨c1,0,none⟩=some (.string (Z9 rl))∧w'.cell? ⟨c2,0,none⟩=some (.string (Z9 ofn))) (by kernel_rfl) (⟨(Below.refl w.heap.size w).drew,cb HP0 ((Below.refl w.heap.size w).drew) 0,cb HP0 ((Below.refl w.heap.size w).drew) 1,cb HC0 ((Below.refl w.heap.size w).drew) 0,cb HE0 ((Below.refl w.heap.size w).drew) 0⟩) (fun HD=> ?_)
 (try simp only [pp]);refine tk 0 8 HD ?_;refine tk 1 9 HD ?_;refine tk 2 10 HD ?_;refine tk 3 11 HD ?_;refine tk 4 12 HD ?_;refine tk 5 13 HD ?_;refine tk 6 14 HD ?_;refine on 7 15 fun K hK=> ?_
 go_simp;have cB:=Si r.Z2 A1 k1 (⟨rl,ofn⟩:Mb) w.drew HR0.out.Nv hml;unfold Mb.cs at cB;dsimp only at cB;refine cB.mono ?_
 rintro e w1 ⟨at_,b,rfl,hale,halt,hb⟩;have hbv:=HD.1.trans hb;refine hK.out _ _ ⟨hbv,cb HP0 (hbv) 0,cb HP0 (hbv) 1,cb HC0 (hbv) 0,cb HE0 (hbv) 0⟩ (fun HD=> ?_);clear hb hbv cB;clear hK K;(try simp only [pp])
 refine tk 8 7 HD ?_;refine tk 9 16 HD ?_;refine tk 10 17 HD ?_;refine tk 11 5 HD ?_;refine tk 12 6 HD ?_;refine wpAnyH_done (by kernel_rfl) ?_ _
 have HAlt:=hid halt;have hb1:=HD.1;have HP1:=bl HP0 hb1;have HR1:=hid (HR0.out.below hb1);have HB1:=hid (HB0.out.trans ((hb1).mono HBz0.out));have HBz1:=hid (Nat.le_trans HBz0.out (hb1).size);have HC1:=bl HC0 hb1;have HE1:=bl HE0 hb1;clear HD hb1 halt HP0 HR0 HB0 HBz0 HC0 HE0
 cases b
 ·clear HAlt;go_wp2;go_ret;exact⟨71,r,A0,k0,A1,k1,rfl,HP1.out,HR1.out,HB1.out,HTm.out⟩
 have hatl:at_<r.Z2.length:=HAlt.out (by trivial);clear HAlt;have q:=ce HP1 1;go_wp2_with fail;refine(QZ base r.Z2 A1 k1 at_ w1 HR1.out.mb hatl hml).mono ?_
 rintro e w9 ⟨rfl,ho,hb,hk,_⟩;have HP9:=hid (HP1.out.keeps hk (by decide));have HB9:=hid (HB1.out.trans hb);have HO9:=hid ho;have HM9:=hid (HR1.out.nm.keeps hk (by decide));clear ho hb hk q;have e0:=ce HP9 1;have f0:=HP9.out.frozen 1;have HKz:Hid (ZR [30] w9 (w9.setCell ⟨p,1,none⟩ (.slice A1 (r.Z2.length - 1:Nat) k1))):=hid (ZR.Zx HP9.out.Xr (by simp) _);have HPz:Hid (ZP (w9.setCell ⟨p,1,none⟩ (.slice A1 (r.Z2.length - 1:Nat) k1)) p 30 [.slice A0 r.ZW.length k0,.slice A1 (r.Z2.length - 1:Nat) k1]):=hid (HP9.out.Zx 1 _);have HBz:Hid (Below base w (w9.setCell ⟨p,1,none⟩ (.slice A1 (r.Z2.length - 1:Nat) k1))):=hid (HB9.out.setCell hpb _);have hl9:(r.Z2.eraseIdx at_).length=r.Z2.length - 1:=List.length_eraseIdx_of_lt hatl;go_wp2;go_ret;refine⟨0,⟨r.ZW,r.Z2.eraseIdx at_⟩,A0,k0,A1,k1,rfl,?_,⟨?_,?_⟩,HBz.out,?_⟩
 ·rw [hl9];exact HPz.out
 ·exact HM9.out.keeps HKz.out (by decide)
 ·rw [hl9];exact HO9.out.keeps HKz.out (by decide)
 ·obtain⟨a,b,e,f⟩:=XX HRr.out;refine⟨by show r.ZW.length≤512;omega,by show List.length _≤512;rw [hl9];omega,fun n hn=>by have:=e n hn;omega,fun m hm=>by have:=f m (List.mem_of_mem_eraseIdx hm);omega⟩
theorem Mc (r:Ro)(rl ofn:List UInt8)(c1 c2:Nat)(w0:World)(hHC:ZP w0 c1 9 [.string (Z9 rl)])(hHE:ZP w0 c2 9 [.string (Z9 ofn)]):LT 189 #[.pointer (some ⟨c1,0,none⟩),.pointer (some ⟨c2,0,none⟩)] r w0:=by
 intro w base p A0 k0 A1 k1 hb0 hbw hw0 hin hp hpb hr;have HP0:=hid hp;have HR0:=hid hin;have HBz0:Hid (base≤w.heap.size):=hid hbw;have HB0:Hid (Below base w w):=hid br;have HC0:Hid (ZP w c1 9 [.string (Z9 rl)]):=hid (hHC.below hw0 hHC.lt);have hltHC:c1<base:=Nat.lt_of_lt_of_le hHC.lt hb0;have HE0:Hid (ZP w c2 9 [.string (Z9 ofn)]):=hid (hHE.below hw0 hHE.lt);have hltHE:c2<base:=Nat.lt_of_lt_of_le hHE.lt hb0;have HTm:Hid (r.Zv 512):=hid (by obtain⟨a,b,e,f⟩:=XX hr;exact⟨by omega,by omega,fun n hn=>by have:=e n hn;omega,fun m hm=>by have:=f m hm;omega⟩)
 have HRr:=hid hr;have hnl:r.ZW.length≤1099511627776:=by have:=HTm.out.1;omega
 have hml:r.Z2.length≤1099511627776:=by have:=HTm.out.2.1;omega
 clear hp hin hbw hw0 hr hHC hHE;have a1:=ce HC0 0;have a2:=ce HE0 0;go_enter Tryz.func189,Tryz.ntmps189
 go_wp2_with fail;refine Uv _ fun w1 hW=> ?_
 have hb1:Below w.heap.size w w1:=by rw [hW];exact br.alloc lr _
 have HY1:=nC hW;clear hW a1 a2;have HP1:=bl HP0 hb1;have HR1:=hid (HR0.out.below hb1);have HB1:=hid (HB0.out.trans ((hb1).mono HBz0.out));have HBz1:=hid (Nat.le_trans HBz0.out (hb1).size);have HC1:=bl HC0 hb1;have HE1:=bl HE0 hb1;clear hb1 HP0 HR0 HB0 HBz0 HC0 HE0;generalize w.heap.size=yb at*;refine wp_region_held_drew (S:=fun w'=>Below w1.heap.size w1 w'∧w'.cell? ⟨p,0,none⟩=some (.slice A0 r.ZW.length k0)∧w'.cell? ⟨p,1,none⟩=some (.slice A1 r.Z2.length k1)∧w'.cell? ⟨c1,0,none⟩=some (.string (Z9 rl))∧w'.cell? ⟨c2,0,none⟩=some (.string (Z9 ofn))∧w'.cell? ⟨yb,0,none⟩=some (.string (Z9 rl))∧w'.cell? ⟨yb,1,none⟩=some (.string (Z9 ofn))) (by kernel_rfl) (⟨(Below.refl w1.heap.size w1).drew,cb HP1 ((Below.refl w1.heap.size w1).drew) 0,cb HP1 ((Below.refl w1.heap.size w1).drew) 1,cb HC1 ((Below.refl w1.heap.size w1).drew) 0,cb HE1 ((Below.refl w1.heap.size w1).drew) 0,cb HY1 ((Below.refl w1.heap.size w1).drew) 0,cb HY1 ((Below.refl w1.heap.size w1).drew) 1⟩) (fun HD=> ?_)
 (try simp only [pp]);refine tk 0 12 HD ?_;refine tk 1 13 HD ?_;refine tk 2 14 HD ?_;refine tk 3 15 HD ?_;refine tk 4 16 HD ?_;refine on 5 17 fun K hK=> ?_
 go_simp;have cB:=Si r.Z2 A1 k1 (⟨rl,ofn⟩:Mb) w1.drew HR1.out.Nv hml;unfold Mb.cs at cB;dsimp only at cB;refine cB.mono ?_
 rintro e w2 ⟨at_,b,rfl,hale,halt,hb⟩;have hbv:=HD.1.trans hb;refine hK.out _ _ ⟨hbv,cb HP1 (hbv) 0,cb HP1 (hbv) 1,cb HC1 (hbv) 0,cb HE1 (hbv) 0,cb HY1 (hbv) 0,cb HY1 (hbv) 1⟩ (fun HD=> ?_);clear hb hbv cB;clear hK K;(try simp only [pp])
 refine tk 6 11 HD ?_;refine tk 7 18 HD ?_;refine tk 8 19 HD ?_;refine tk 9 6 HD ?_;refine tk 10 7 HD ?_;refine wpAnyH_done (by kernel_rfl) ?_ _
 have HAlt:=hid halt;have hb1:=HD.1;have HP2:=bl HP1 hb1;have HR2:=hid (HR1.out.below hb1);have HB2:=hid (HB1.out.trans ((hb1).mono HBz1.out));have HBz2:=hid (Nat.le_trans HBz1.out (hb1).size);have HC2:=bl HC1 hb1;have HE2:=bl HE1 hb1;have HY2:=bl HY1 hb1;clear HD hb1 halt HP1 HR1 HB1 HBz1 HC1 HE1 HY1;go_wp2_with fail
 cases hn1:r.ZW.contains rl
 ·refine wp_region_held_drew (S:=fun w'=>Below w2.heap.size w2 w'∧w'.cell? ⟨p,0,none⟩=some (.slice A0 r.ZW.length k0)∧w'.cell? ⟨p,1,none⟩=some (.slice A1 r.Z2.length k1)∧w'.cell? ⟨c1,0,none⟩=some (.string (Z9 rl))∧w'.cell? ⟨c2,0,none⟩=some (.string (Z9 ofn))∧w'.cell? ⟨yb,0,none⟩=some (.string (Z9 rl))∧w'.cell? ⟨yb,1,none⟩=some (.string (Z9 ofn))) (by kernel_rfl) (⟨(Below.refl w2.heap.size w2).drew,cb HP2 ((Below.refl w2.heap.size w2).drew) 0,cb HP2 ((Below.refl w2.heap.size w2).drew) 1,cb HC2 ((Below.refl w2.heap.size w2).drew) 0,cb HE2 ((Below.refl w2.heap.size w2).drew) 0,cb HY2 ((Below.refl w2.heap.size w2).drew) 0,cb HY2 ((Below.refl w2.heap.size w2).drew) 1⟩) (fun HD=> ?_)
  (try simp only [pp]);refine tk 0 21 HD ?_;refine tk 1 22 HD ?_;refine tk 2 23 HD ?_;refine tk 3 24 HD ?_;refine tk 4 25 HD ?_;refine on 5 26 fun K hK=> ?_
  go_simp;refine(Zn r.ZW A0 k0 rl w2.drew (ZV.Vb (us:=CG) (VN (Ye HR2.out.nm))) hnl).mono ?_
  rintro e _ ⟨rfl,rfl⟩;rw [hn1];refine hK.out _ _ HD (fun HD=> ?_);clear hK K;(try simp only [pp])
  refine tk 6 27 HD ?_;refine tb 7 28 (.bool true) HD ?_;refine sk 8 29 HD ?_;refine sk 9 30 HD ?_;refine sk 10 31 HD ?_;refine sk 11 32 HD ?_;refine sk 12 33 HD ?_;refine sk 13 34 HD ?_;refine sk 14 35 HD ?_;refine tk 15 36 HD ?_;refine tk 16 20 HD ?_;refine wpAnyH_done (by kernel_rfl) ?_ _
  have hb1:=HD.1;have HP3:=bl HP2 hb1;have HR3:=hid (HR2.out.below hb1);have HB3:=hid (HB2.out.trans ((hb1).mono HBz2.out));have HBz3:=hid (Nat.le_trans HBz2.out (hb1).size);have HC3:=bl HC2 hb1;have HE3:=bl HE2 hb1;have HY3:=bl HY2 hb1;clear HD hb1 HP2 HR2 HB2 HBz2 HC2 HE2 HY2;generalize w2.drew=w3 at*;go_wp2;go_ret;exact⟨71,r,A0,k0,A1,k1,rfl,HP3.out,HR3.out,HB3.out,HTm.out⟩
 ·have HRl:Hid (rl.length≤16):=hid (Ym ((Wm HRr.out).2.2.1 rl (by simpa using hn1)))
  cases hn2:r.ZW.contains ofn
  ·refine wp_region_held_drew (S:=fun w'=>Below w2.heap.size w2 w'∧w'.cell? ⟨p,0,none⟩=some (.slice A0 r.ZW.length k0)∧w'.cell? ⟨p,1,none⟩=some (.slice A1 r.Z2.length k1)∧w'.cell? ⟨c1,0,none⟩=some (.string (Z9 rl))∧w'.cell? ⟨c2,0,none⟩=some (.string (Z9 ofn))∧w'.cell? ⟨yb,0,none⟩=some (.string (Z9 rl))∧w'.cell? ⟨yb,1,none⟩=some (.string (Z9 ofn))) (by kernel_rfl) (⟨(Below.refl w2.heap.size w2).drew,cb HP2 ((Below.refl w2.heap.size w2).drew) 0,cb HP2 ((Below.refl w2.heap.size w2).drew) 1,cb HC2 ((Below.refl w2.heap.size w2).drew) 0,cb HE2 ((Below.refl w2.heap.size w2).drew) 0,cb HY2 ((Below.refl w2.heap.size w2).drew) 0,cb HY2 ((Below.refl w2.heap.size w2).drew) 1⟩) (fun HD=> ?_)
   (try simp only [pp]);refine tk 0 21 HD ?_;refine tk 1 22 HD ?_;refine tk 2 23 HD ?_;refine tk 3 24 HD ?_;refine tk 4 25 HD ?_;refine on 5 26 fun K hK=> ?_
   go_simp;refine(Zn r.ZW A0 k0 rl w2.drew (ZV.Vb (us:=CG) (VN (Ye HR2.out.nm))) hnl).mono ?_
   rintro e _ ⟨rfl,rfl⟩;rw [hn1];refine hK.out _ _ HD (fun HD=> ?_);clear hK K;(try simp only [pp])
   refine tk 6 27 HD ?_;refine tb 7 28 (.bool false) HD ?_;refine tk 8 29 HD ?_;refine tk 9 30 HD ?_;refine tk 10 31 HD ?_;refine tk 11 32 HD ?_;refine tk 12 33 HD ?_;refine on 13 34 fun K hK=> ?_
   go_simp;refine(Zn r.ZW A0 k0 ofn w2.drew (ZV.Vb (us:=CG) (VN (Ye HR2.out.nm))) hnl).mono ?_
   rintro e _ ⟨rfl,rfl⟩;rw [hn2];refine hK.out _ _ HD (fun HD=> ?_);clear hK K;(try simp only [pp])
   refine tk 14 35 HD ?_;refine tk 15 36 HD ?_;refine tk 16 20 HD ?_;refine wpAnyH_done (by kernel_rfl) ?_ _
   have hb1:=HD.1;have HP3:=bl HP2 hb1;have HR3:=hid (HR2.out.below hb1);have HB3:=hid (HB2.out.trans ((hb1).mono HBz2.out));have HBz3:=hid (Nat.le_trans HBz2.out (hb1).size);have HC3:=bl HC2 hb1;have HE3:=bl HE2 hb1;have HY3:=bl HY2 hb1;clear HD hb1 HP2 HR2 HB2 HBz2 HC2 HE2 HY2;generalize w2.drew=w3 at*;go_wp2;go_ret;exact⟨71,r,A0,k0,A1,k1,rfl,HP3.out,HR3.out,HB3.out,HTm.out⟩
  ·have HOl:Hid (ofn.length≤16):=hid (Ym ((Wm HRr.out).2.2.1 ofn (by simpa using hn2)));refine wp_region_held_drew (S:=fun w'=>Below w2.heap.size w2 w'∧w'.cell? ⟨p,0,none⟩=some (.slice A0 r.ZW.length k0)∧w'.cell? ⟨p,1,none⟩=some (.slice A1 r.Z2.length k1)∧w'.cell? ⟨c1,0,none⟩=some (.string (Z9 rl))∧w'.cell? ⟨c2,0,none⟩=some (.string (Z9 ofn))∧w'.cell? ⟨yb,0,none⟩=some (.string (Z9 rl))∧w'.cell? ⟨yb,1,none⟩=some (.string (Z9 ofn))) (by kernel_rfl) (⟨(Below.refl w2.heap.size w2).drew,cb HP2 ((Below.refl w2.heap.size w2).drew) 0,cb HP2 ((Below.refl w2.heap.size w2).drew) 1,cb HC2 ((Below.refl w2.heap.size w2).drew) 0,cb HE2 ((Below.refl w2.heap.size w2).drew) 0,cb HY2 ((Below.refl w2.heap.size w2).drew) 0,cb HY2 ((Below.refl w2.heap.size w2).drew) 1⟩) (fun HD=> ?_)
   (try simp only [pp]);refine tk 0 21 HD ?_;refine tk 1 22 HD ?_;refine tk 2 23 HD ?_;refine tk 3 24 HD ?_;refine tk 4 25 HD ?_;refine on 5 26 fun K hK=> ?_
   go_simp;refine(Zn r.ZW A0 k0 rl w2.drew (ZV.Vb (us:=CG) (VN (Ye HR2.out.nm))) hnl).mono ?_
   rintro e _ ⟨rfl,rfl⟩;rw [hn1];refine hK.out _ _ HD (fun HD=> ?_);clear hK K;(try simp only [pp])
   refine tk 6 27 HD ?_;refine tb 7 28 (.bool false) HD ?_;refine tk 8 29 HD ?_;refine tk 9 30 HD ?_;refine tk 10 31 HD ?_;refine tk 11 32 HD ?_;refine tk 12 33 HD ?_;refine on 13 34 fun K hK=> ?_
   go_simp;refine(Zn r.ZW A0 k0 ofn w2.drew (ZV.Vb (us:=CG) (VN (Ye HR2.out.nm))) hnl).mono ?_
   rintro e _ ⟨rfl,rfl⟩;rw [hn2];refine hK.out _ _ HD (fun HD=> ?_);clear hK K;(try simp only [pp])
   refine tk 14 35 HD ?_;refine tk 15 36 HD ?_;refine tk 16 20 HD ?_;refine wpAnyH_done (by kernel_rfl) ?_ _
   have hb1:=HD.1;have HP3:=bl HP2 hb1;have HR3:=hid (HR2.out.below hb1);have HB3:=hid (HB2.out.trans ((hb1).mono HBz2.out));have HBz3:=hid (Nat.le_trans HBz2.out (hb1).size);have HC3:=bl HC2 hb1;have HE3:=bl HE2 hb1;have HY3:=bl HY2 hb1;clear HD hb1 HP2 HR2 HB2 HBz2 HC2 HE2 HY2;generalize w2.drew=w3 at*;clear hn1 hn2
   cases b
   case true=>
    go_wp2;go_ret;exact⟨70,r,A0,k0,A1,k1,rfl,HP3.out,HR3.out,HB3.out,HTm.out⟩
   go_wp2_with fail;refine wp_region_held_drew (S:=fun w'=>Below w3.heap.size w3 w'∧w'.cell? ⟨p,0,none⟩=some (.slice A0 r.ZW.length k0)∧w'.cell? ⟨p,1,none⟩=some (.slice A1 r.Z2.length k1)∧w'.cell? ⟨c1,0,none⟩=some (.string (Z9 rl))∧w'.cell? ⟨c2,0,none⟩=some (.string (Z9 ofn))∧w'.cell? ⟨yb,0,none⟩=some (.string (Z9 rl))∧w'.cell? ⟨yb,1,none⟩=some (.string (Z9 ofn))) (by kernel_rfl) (⟨(Below.refl w3.heap.size w3).drew,cb HP3 ((Below.refl w3.heap.size w3).drew) 0,cb HP3 ((Below.refl w3.heap.size w3).drew) 1,cb HC3 ((Below.refl w3.heap.size w3).drew) 0,cb HE3 ((Below.refl w3.heap.size w3).drew) 0,cb HY3 ((Below.refl w3.heap.size w3).drew) 0,cb HY3 ((Below.refl w3.heap.size w3).drew) 1⟩) (fun HD=> ?_)
   (try simp only [pp]);refine tk 0 40 HD ?_;refine tk 1 41 HD ?_;refine tk 2 42 HD ?_;refine tk 3 43 HD ?_;refine tk 5 45 HD ?_;refine on 4 44 fun K hK=> ?_
   go_simp;refine(Rq r.Z2 A0 r.ZW.length k0 A1 k1 ofn w3.drew HR3.out.Nv (by have:=HTm.out.2.1;omega) (fun m hm=>by have:=HTm.out.2.2.2 m hm;omega) (by have:=HOl.out;omega)).mono ?_
   rintro e w4 ⟨fb,N5,f5,rfl,hM5,_,_,hb5,_⟩;have hlook:(Instr.lookup 164 (.map (some fb)) (.string (Z9 rl)) false).run Tryz.prog w4= .ok (.int .i64 (f5 rl)) w4:=hM5.look WN Tryz.underlying164 (by kernel_rfl) (x:=rl) (by have:=HRl.out;unfold maxLen;omega)
   generalize f5 rl=fr at*;have hbv:=HD.1.trans hb5;refine hK.out _ _ ⟨hbv,cb HP3 (hbv) 0,cb HP3 (hbv) 1,cb HC3 (hbv) 0,cb HE3 (hbv) 0,cb HY3 (hbv) 0,cb HY3 (hbv) 1⟩ (fun HD=> ?_);clear hM5 hb5 hbv;clear hK K;(try simp only [pp])
   refine on 6 46 fun K hK=> ?_
   go_simp;refine hK.out _ _ HD (fun HD=> ?_);clear hlook;clear hK K;(try simp only [pp])
   refine tk 7 47 HD ?_;refine tk 8 39 HD ?_;refine wpAnyH_done (by kernel_rfl) ?_ _
   have hb1:=HD.1;have HP4:=bl HP3 hb1;have HR4:=hid (HR3.out.below hb1);have HB4:=hid (HB3.out.trans ((hb1).mono HBz3.out));have HBz4:=hid (Nat.le_trans HBz3.out (hb1).size);have HC4:=bl HC3 hb1;have HE4:=bl HE3 hb1;have HY4:=bl HY3 hb1;clear HD hb1 HP3 HR3 HB3 HBz3 HC3 HE3 HY3;by_cases hfr:(fr:Int) > 0
   ·have hfr2:(0:Int)< (fr:Int):=hfr;go_wp2;go_ret;exact⟨72,r,A0,k0,A1,k1,rfl,HP4.out,HR4.out,HB4.out,HTm.out⟩
   have hfr2: ¬ (0:Int)< (fr:Int):=hfr;go_wp2_with fail;have hS:w4.drew.cell? ⟨p,1,none⟩=some (.slice A1 r.Z2.length k1):=HP4.out.cell 1;refine Zy 11 (S:=fun w'=>w'.cell? ⟨p,1,none⟩=some (.slice A1 r.Z2.length k1)) (by kernel_rfl) hS (fun HD'=> ?_)
   (try simp only [pp]);refine Y9 0 48 HD' ?_;refine Y9 1 49 HD' ?_;refine Y9 2 50 HD' ?_;refine Y9 3 51 HD' ?_;refine Y9 4 52 HD' ?_;refine Y9 5 53 HD' ?_;have x0:w4.drew.cell? ⟨yb,0,none⟩=some (.string (Z9 rl)):=HY4.out.cell 0
   have x1:w4.drew.cell? ⟨yb,1,none⟩=some (.string (Z9 ofn)):=HY4.out.cell 1;refine Re 6 54 fun K hK=> ?_
   go_simp;refine hK.out _ _ HD' ?_
   clear x0 x1;clear hK K;(try simp only [pp])
   refine Re 7 55 fun K hK=> ?_
   go_simp;have hb1:Below w4.heap.size w4 (w4.alloc (.cells #[.string (Z9 rl),.string (Z9 ofn)] 147)).drew:=(br.alloc lr _).drew;have HX:Hid (ZP (w4.alloc (.cells #[.string (Z9 rl),.string (Z9 ofn)] 147)).drew w4.heap.size 147 (Mb.cs ⟨rl,ofn⟩)):=hid (ZP.new w4 _ _);have HPx:=bl HP4 hb1;have HRx:=hid (HR4.out.below hb1);have HBx:=hid (HB4.out.trans ((hb1).mono HBz4.out));have HBzx:=hid (Nat.le_trans HBz4.out (hb1).size);have hxn: ∀ g,A1=some ⟨g,0,none⟩→w4.heap.size≠g:=fun g hg e=>by have:=XQ HR4.out.mb (k:=g) (by rw [hg];rfl);omega
   have hSx:(w4.alloc (.cells #[.string (Z9 rl),.string (Z9 ofn)] 147)).drew.cell? ⟨p,1,none⟩=some (.slice A1 r.Z2.length k1):=HPx.out.cell 1;refine hK.out _ _ hSx ?_
   generalize (w4.alloc (.cells #[.string (Z9 rl),.string (Z9 ofn)] 147)).drew=wx at*;generalize w4.heap.size=xb at*;clear hK K;(try simp only [pp])
   clear HD';have HD':=hSx;refine Re 8 56 fun K hK=> ?_
   go_simp;refine(QS base r.Z2 A1 k1 at_ ⟨rl,ofn⟩ xb wx HRx.out.mb hale HX.out hxn hml HBzx.out).mono ?_
   rintro e w9 ⟨A5,c5,rfl,ho,hb,hk⟩;have HP9:=hid (HPx.out.keeps hk (by decide));have HB9:=hid (HBx.out.trans hb);have HO9:=hid ho;have HM9:=hid (HRx.out.nm.keeps hk (by decide));have hS9:=ce HP9 1;refine hK.out _ _ hS9 ?_
   clear hK K;(try simp only [pp])
   clear HD';have HD':=hS9;refine U7 9 57 (fun _=>HD') ?_;refine Y9 10 58 HD' ?_;refine ZC.Xo (i:=11) (o:=⟨none,_,_,_,_,_⟩) (by kernel_rfl) (by kernel_rfl) rfl (fun K hK=> ?_)
   have e0:=ce HP9 1;have f0:=HP9.out.frozen 1;go_simp;refine hK.out _ _ (ZC.done (by kernel_rfl) ?_ _);clear hK K HD' hS9 hS hSx e0 f0;refine Sk _ fun wz hW=> ?_
   have HKz:Hid (ZR [30] w9 wz):=hid (by rw [hW];exact ZR.Zx HP9.out.Xr (by simp) _);have HPz:=rB hW (HP9.out.Zx 1 _);have HBz:Hid (Below base w wz):=hid (by rw [hW];exact HB9.out.setCell hpb _);clear hW;have hl9:(r.Z2.take at_ ++ ⟨rl,ofn⟩ ::r.Z2.drop at_).length=r.Z2.length+1:=by simp only [List.length_append,List.length_take,List.length_cons,List.length_drop];omega
   go_wp2;go_ret;refine⟨0,⟨r.ZW,r.Z2.take at_ ++ ⟨rl,ofn⟩ ::r.Z2.drop at_⟩,A0,k0,A5,c5,rfl,?_,⟨?_,?_⟩,HBz.out,?_⟩
   ·rw [hl9];exact HPz.out
   ·exact HM9.out.keeps HKz.out (by decide)
   ·rw [hl9];exact HO9.out.keeps HKz.out (by decide)
   ·obtain⟨a,b,e,f⟩:=XX HRr.out;refine⟨by show r.ZW.length≤512;omega,by show List.length _≤512;rw [hl9];omega,fun n hn=>by have:=e n hn;omega,fun m hm=> ?_⟩
    rcases List.mem_append.1 hm with hm | hm
    ·have:=f m (List.mem_of_mem_take hm);omega
    ·rcases List.mem_cons.1 hm with rfl | hm
     ·have:=HRl.out;have:=HOl.out;simp only;omega
     ·have:=f m (List.mem_of_mem_drop hm);omega
theorem Lj (r:Ro)(A0:Option Addr)(k0:Nat)(A1:Option Addr)(k1:Nat)(nm:List UInt8)(w:World)(hN:ZV w (· < w.heap.size) [.Z9] (YU r.ZW) A0)(hM:ZV w (· < w.heap.size) Y5 (r.Z2.map Mb.da) A1)(ht:r.Zv 1099511627776):
  Calls Tryz.prog 135 #[.agg #[.slice A0 r.ZW.length k0,.slice A1 r.Z2.length k1],.string (Z9 nm)] w (ME w):=by
 have HNm:=hid hN;have HMb:=hid hM;have HT:=hid ht;have HI2:=iN 30 2;clear hN hM ht;go_enter Tryz.func135,Tryz.ntmps135
 go_wp2_with fail;refine Zm _ fun Wa hW=> ?_
 have HBa:=bR hW;have C1:=nG hW;have Qa:=nH hW;clear hW;refine(Wn 187 #[.pointer (some ⟨w.heap.size+1,0,none⟩)] r A0 k0 A1 k1 Wa (enters_of Tryz.func187 (by kernel_rfl) rfl) (HNm.out.later HBa.out) (HMb.out.later HBa.out) HT.out (Li r nm (w.heap.size+1) Wa C1.out)).mono ?_
 rintro e W1 ⟨er,r',B0,l0,B1,l1,rfl,hr,hb,htm⟩;have HB1:=bt HBa hb;have Q1:=bl Qa hb;have HR1:=hid hr;have HTm:=hid htm;clear hr hb htm HBa Qa C1;go_wp2_with (first | ((refine sO Q1 HI2 ?_);intro wS HS) | fail);refine bodyPost_ret (rt (hid HS.out.X8) Tryz.underlying30 HI2) rfl ?_
 exact⟨er,r',B0,l0,B1,l1,rfl,HR1.out.keeps HS.out.keeps (by decide),HS.out.below HB1.out (by omega),HTm.out⟩
theorem Qm (r:Ro)(A0:Option Addr)(k0:Nat)(A1:Option Addr)(k1:Nat)(nm:List UInt8)(w:World)(hN:ZV w (· < w.heap.size) [.Z9] (YU r.ZW) A0)(hM:ZV w (· < w.heap.size) Y5 (r.Z2.map Mb.da) A1)(ht:r.Zv 1099511627776):
  Calls Tryz.prog 132 #[.agg #[.slice A0 r.ZW.length k0,.slice A1 r.Z2.length k1],.string (Z9 nm)] w (ME w):=by
 have HNm:=hid hN;have HMb:=hid hM;have HT:=hid ht;have HI2:=iN 30 2;clear hN hM ht;go_enter Tryz.func132,Tryz.ntmps132
 go_wp2_with fail;refine Zm _ fun Wa hW=> ?_
 have HBa:=bR hW;have C1:=nG hW;have Qa:=nH hW;clear hW;refine(Wn 179 #[.pointer (some ⟨w.heap.size+1,0,none⟩)] r A0 k0 A1 k1 Wa (enters_of Tryz.func179 (by kernel_rfl) rfl) (HNm.out.later HBa.out) (HMb.out.later HBa.out) HT.out (Mg r nm (w.heap.size+1) Wa C1.out)).mono ?_
 rintro e W1 ⟨er,r',B0,l0,B1,l1,rfl,hr,hb,htm⟩;have HB1:=bt HBa hb;have Q1:=bl Qa hb;have HR1:=hid hr;have HTm:=hid htm;clear hr hb htm HBa Qa C1;go_wp2_with (first | ((refine sO Q1 HI2 ?_);intro wS HS) | fail);refine bodyPost_ret (rt (hid HS.out.X8) Tryz.underlying30 HI2) rfl ?_
 exact⟨er,r',B0,l0,B1,l1,rfl,HR1.out.keeps HS.out.keeps (by decide),HS.out.below HB1.out (by omega),HTm.out⟩
theorem Md (r:Ro)(A0:Option Addr)(k0:Nat)(A1:Option Addr)(k1:Nat)(rl ofn:List UInt8)(w:World)(hN:ZV w (· < w.heap.size) [.Z9] (YU r.ZW) A0)(hM:ZV w (· < w.heap.size) Y5 (r.Z2.map Mb.da) A1)(ht:r.Zv 1099511627776):
  Calls Tryz.prog 136 #[.agg #[.slice A0 r.ZW.length k0,.slice A1 r.Z2.length k1],.string (Z9 rl),.string (Z9 ofn)] w (ME w):=by
 have HNm:=hid hN;have HMb:=hid hM;have HT:=hid ht;have HI2:=iN 30 2;clear hN hM ht;go_enter Tryz.func136,Tryz.ntmps136
 go_wp2_with fail;refine Zm _ fun Wa hW=> ?_
 have HBa:Hid (Below w.heap.size w Wa):=hid (by rw [hW];exact(((br.alloc lr _).alloc (by simp) _).alloc (by simp;omega) _).alloc (by simp;omega) _);have C1:Hid (ZP Wa (w.heap.size+1) 9 [.string (Z9 rl)]):=hid (by
  rw [hW];have:=((ZP.new (w.alloc (.cells #[.slice A0 r.ZW.length k0,.slice A1 r.Z2.length k1] 30)) 9 [.string (Z9 rl)]).alloc (.cells #[.string (Z9 ofn)] 9)).alloc (.cells #[.slice none 0 0,.slice none 0 0] 30);simpa using this)
 have C2:Hid (ZP Wa (w.heap.size+2) 9 [.string (Z9 ofn)]):=hid (by
  rw [hW];have:=(ZP.new ((w.alloc (.cells #[.slice A0 r.ZW.length k0,.slice A1 r.Z2.length k1] 30)).alloc (.cells #[.string (Z9 rl)] 9)) 9 [.string (Z9 ofn)]).alloc (.cells #[.slice none 0 0,.slice none 0 0] 30);simpa using this)
 have Qa:Hid (ZP Wa (w.heap.size+3) 30 [.slice none 0 0,.slice none 0 0]):=hid (by
  rw [hW];have:=ZP.new (((w.alloc (.cells #[.slice A0 r.ZW.length k0,.slice A1 r.Z2.length k1] 30)).alloc (.cells #[.string (Z9 rl)] 9)).alloc (.cells #[.string (Z9 ofn)] 9)) 30 [.slice none 0 0,.slice none 0 0];simpa using this)
 clear hW;refine(Wn 189 #[.pointer (some ⟨w.heap.size+1,0,none⟩),.pointer (some ⟨w.heap.size+2,0,none⟩)] r A0 k0 A1 k1 Wa (enters_of Tryz.func189 (by kernel_rfl) rfl) (HNm.out.later HBa.out) (HMb.out.later HBa.out) HT.out (Mc r rl ofn (w.heap.size+1) (w.heap.size+2) Wa C1.out C2.out)).mono ?_
 rintro e W1 ⟨er,r',B0,l0,B1,l1,rfl,hr,hb,htm⟩;have HB1:=bt HBa hb;have Q1:=bl Qa hb;have HR1:=hid hr;have HTm:=hid htm;clear hr hb htm HBa Qa C1 C2;go_wp2_with (first | ((refine sO Q1 HI2 ?_);intro wS HS) | fail);refine bodyPost_ret (rt (hid HS.out.X8) Tryz.underlying30 HI2) rfl ?_
 exact⟨er,r',B0,l0,B1,l1,rfl,HR1.out.keeps HS.out.keeps (by decide),HS.out.below HB1.out (by omega),HTm.out⟩
theorem Nr (r:Ro)(A0:Option Addr)(k0:Nat)(A1:Option Addr)(k1:Nat)(rl ofn:List UInt8)(w:World)(hN:ZV w (· < w.heap.size) [.Z9] (YU r.ZW) A0)(hM:ZV w (· < w.heap.size) Y5 (r.Z2.map Mb.da) A1)(ht:r.Zv 1099511627776):
  Calls Tryz.prog 137 #[.agg #[.slice A0 r.ZW.length k0,.slice A1 r.Z2.length k1],.string (Z9 rl),.string (Z9 ofn)] w (ME w):=by
 have HNm:=hid hN;have HMb:=hid hM;have HT:=hid ht;have HI2:=iN 30 2;clear hN hM ht;go_enter Tryz.func137,Tryz.ntmps137
 go_wp2_with fail;refine Zm _ fun Wa hW=> ?_
 have HBa:Hid (Below w.heap.size w Wa):=hid (by rw [hW];exact(((br.alloc lr _).alloc (by simp) _).alloc (by simp;omega) _).alloc (by simp;omega) _);have C1:Hid (ZP Wa (w.heap.size+1) 9 [.string (Z9 rl)]):=hid (by
  rw [hW];have:=((ZP.new (w.alloc (.cells #[.slice A0 r.ZW.length k0,.slice A1 r.Z2.length k1] 30)) 9 [.string (Z9 rl)]).alloc (.cells #[.string (Z9 ofn)] 9)).alloc (.cells #[.slice none 0 0,.slice none 0 0] 30);simpa using this)
 have C2:Hid (ZP Wa (w.heap.size+2) 9 [.string (Z9 ofn)]):=hid (by
  rw [hW];have:=(ZP.new ((w.alloc (.cells #[.slice A0 r.ZW.length k0,.slice A1 r.Z2.length k1] 30)).alloc (.cells #[.string (Z9 rl)] 9)) 9 [.string (Z9 ofn)]).alloc (.cells #[.slice none 0 0,.slice none 0 0] 30);simpa using this)
 have Qa:Hid (ZP Wa (w.heap.size+3) 30 [.slice none 0 0,.slice none 0 0]):=hid (by
  rw [hW];have:=ZP.new (((w.alloc (.cells #[.slice A0 r.ZW.length k0,.slice A1 r.Z2.length k1] 30)).alloc (.cells #[.string (Z9 rl)] 9)).alloc (.cells #[.string (Z9 ofn)] 9)) 30 [.slice none 0 0,.slice none 0 0];simpa using this)
 clear hW;refine(Wn 192 #[.pointer (some ⟨w.heap.size+1,0,none⟩),.pointer (some ⟨w.heap.size+2,0,none⟩)] r A0 k0 A1 k1 Wa (enters_of Tryz.func192 (by kernel_rfl) rfl) (HNm.out.later HBa.out) (HMb.out.later HBa.out) HT.out (Nq r rl ofn (w.heap.size+1) (w.heap.size+2) Wa C1.out C2.out)).mono ?_
 rintro e W1 ⟨er,r',B0,l0,B1,l1,rfl,hr,hb,htm⟩;have HB1:=bt HBa hb;have Q1:=bl Qa hb;have HR1:=hid hr;have HTm:=hid htm;clear hr hb htm HBa Qa C1 C2;go_wp2_with (first | ((refine sO Q1 HI2 ?_);intro wS HS) | fail);refine bodyPost_ret (rt (hid HS.out.X8) Tryz.underlying30 HI2) rfl ?_
 exact⟨er,r',B0,l0,B1,l1,rfl,HR1.out.keeps HS.out.keeps (by decide),HS.out.below HB1.out (by omega),HTm.out⟩
def Cm.cs (x:Cm)(A:Option Addr)(k:Nat)(B:Option Addr)(n:Nat):List Value:= [.int .i64 x.ZQ,.string (Z9 x.ZM),.string (Z9 x.Z8),.string (Z9 x.ZY),.string (Z9 x.name),.string (Z9 x.ZT),.slice A x.ZX.length k,.string (Z9 x.ZZ.name),.int .i64 x.ZZ.ZQ,.slice B x.ZZ.ZX.length n,.int .i64 x.ZZ.low,.int .i64 x.ZZ.ZF,.string (Z9 x.ZZ.Z8),.string (Z9 x.ZZ.ZY),.string (Z9 x.ZZ.key),.int .i64 x.right,.bool x.Zz]
theorem JV (k:Int)(w:World):Calls Tryz.prog 72 #[.int .i64 k] w fun e w'=>e= .returned (.int .i64 (Sg k))∧w'=w:=by
 go_enter Tryz.func72,Tryz.ntmps72
 by_cases h2:k=2
 ·subst h2;have hv:Sg 2=1:=by decide
  rw [hv];clear hv;go_wp2;go_ret;exact⟨rfl,rfl⟩
 have g2:(k == 2)=false:=by simpa using h2
 by_cases h3:k=3
 ·subst h3;have hv:Sg 3=1:=by decide
  rw [hv];clear hv;go_wp2;go_ret;exact⟨rfl,rfl⟩
 have g3:(k == 3)=false:=by simpa using h3
 by_cases h4:k=4
 ·subst h4;have hv:Sg 4=2:=by decide
  rw [hv];clear hv;go_wp2;go_ret;exact⟨rfl,rfl⟩
 have g4:(k == 4)=false:=by simpa using h4
 by_cases h5:k=5
 ·subst h5;have hv:Sg 5=2:=by decide
  rw [hv];clear hv;go_wp2;go_ret;exact⟨rfl,rfl⟩
 have g5:(k == 5)=false:=by simpa using h5
 by_cases h6:k=6
 ·subst h6;have hv:Sg 6=2:=by decide
  rw [hv];clear hv;go_wp2;go_ret;exact⟨rfl,rfl⟩
 have g6:(k == 6)=false:=by simpa using h6
 by_cases h7:k=7
 ·subst h7;have hv:Sg 7=2:=by decide
  rw [hv];clear hv;go_wp2;go_ret;exact⟨rfl,rfl⟩
 have g7:(k == 7)=false:=by simpa using h7
 by_cases h8:k=8
 ·subst h8;have hv:Sg 8=2:=by decide
  rw [hv];clear hv;go_wp2;go_ret;exact⟨rfl,rfl⟩
 have g8:(k == 8)=false:=by simpa using h8
 by_cases h9:k=9
 ·subst h9;have hv:Sg 9=2:=by decide
  rw [hv];clear hv;go_wp2;go_ret;exact⟨rfl,rfl⟩
 have g9:(k == 9)=false:=by simpa using h9
 by_cases h14:k=14
 ·subst h14;have hv:Sg 14=3:=by decide
  rw [hv];clear hv;go_wp2;go_ret;exact⟨rfl,rfl⟩
 have g14:(k == 14)=false:=by simpa using h14
 by_cases h15:k=15
 ·subst h15;have hv:Sg 15=3:=by decide
  rw [hv];clear hv;go_wp2;go_ret;exact⟨rfl,rfl⟩
 have g15:(k == 15)=false:=by simpa using h15
 have hv:Sg k=0:=by unfold Sg;simp [h2,h3,h4,h5,h6,h7,h8,h9,h14,h15]
 rw [hv];clear hv h2 h3 h4 h5 h6 h7 h8 h9 h14 h15;go_wp2;go_ret;exact⟨rfl,rfl⟩
theorem NV (x:Cm)(A:Option Addr)(k:Nat)(B:Option Addr)(n:Nat)(w:World):
  Calls Tryz.prog 36 #[.agg (x.cs A k B n).toArray] w fun e w'=>e= .returned (.bool (Wq x))∧Below w.heap.size w w':=by
 have HR:Hid (Wq x=if x.ZQ=2∨x.ZQ=4∨x.ZQ=6∨x.ZQ=9∨x.ZQ=11∨x.ZQ=13∨x.ZQ=15 then true else if x.ZQ=7 then x.ZZ.ZQ != 1 else false):=hid rfl;generalize Wq x=res at*;unfold Cm.cs;have P0:Hid (ZP (w.alloc (.cells #[.int .i64 x.ZQ,.string (Z9 x.ZM),.string (Z9 x.Z8),.string (Z9 x.ZY),.string (Z9 x.name),.string (Z9 x.ZT),.slice A x.ZX.length k,.string (Z9 x.ZZ.name),.int .i64 x.ZZ.ZQ,.slice B x.ZZ.ZX.length n,.int .i64 x.ZZ.low,.int .i64 x.ZZ.ZF,.string (Z9 x.ZZ.Z8),.string (Z9 x.ZZ.ZY),.string (Z9 x.ZZ.key),.int .i64 x.right,.bool x.Zz] 43)) w.heap.size 43 [.int .i64 x.ZQ,.string (Z9 x.ZM),.string (Z9 x.Z8),.string (Z9 x.ZY),.string (Z9 x.name),.string (Z9 x.ZT),.slice A x.ZX.length k,.string (Z9 x.ZZ.name),.int .i64 x.ZZ.ZQ,.slice B x.ZZ.ZX.length n,.int .i64 x.ZZ.low,.int .i64 x.ZZ.ZF,.string (Z9 x.ZZ.Z8),.string (Z9 x.ZZ.ZY),.string (Z9 x.ZZ.key),.int .i64 x.right,.bool x.Zz]):=hid (ZP.new w _ _);have HB0:Hid (Below w.heap.size w (w.alloc (.cells #[.int .i64 x.ZQ,.string (Z9 x.ZM),.string (Z9 x.Z8),.string (Z9 x.ZY),.string (Z9 x.name),.string (Z9 x.ZT),.slice A x.ZX.length k,.string (Z9 x.ZZ.name),.int .i64 x.ZZ.ZQ,.slice B x.ZZ.ZX.length n,.int .i64 x.ZZ.low,.int .i64 x.ZZ.ZF,.string (Z9 x.ZZ.Z8),.string (Z9 x.ZZ.ZY),.string (Z9 x.ZZ.key),.int .i64 x.right,.bool x.Zz] 43))):=hid (br.alloc lr _);go_enter Tryz.func36,Tryz.ntmps36
 go_wp2_with fail
 all_goals go_ret
 all_goals refine⟨(congrArg (fun b=>Ending.returned (.bool b)) ?_:Ending.returned (.bool _)=Ending.returned (.bool res)),HB0.out⟩
 all_goals clear HB0 P0
 all_goals (have HR':=HR.out;clear HR;simp_all)
theorem LN (a b c d:List UInt8):(Z9 a ++Z9 b ++Z9 c ++Z9 d).toList.isEmpty=(a ++b ++c ++d == []):=by
 rw [ByteArray.toList_eq];have h:(Z9 a ++Z9 b ++Z9 c ++Z9 d).data.toList=a ++b ++c ++d:=by simp [Z9,ByteArray.data_append]
 rw [h]
 cases a ++b ++c ++d <;> rfl
theorem LO (x:Ru)(B:Option Addr)(n:Nat)(w:World)(ht:x.Zv 1099511627776)(hn:x.name.length≤1099511627776):
  Calls Tryz.prog 68 #[.agg (x.cs B n).toArray] w fun e w'=>e= .returned (.bool (Ve x))∧Below w.heap.size w w':=by
 have hbr:(Z9 x.name ++Z9 x.Z8 ++Z9 x.ZY ++Z9 x.key).toList.isEmpty=(x.name ++x.Z8 ++x.ZY ++x.key == []):=LN _ _ _ _;have HR:Hid (Ve x=(x.ZX.length == 0 && (x.name ++x.Z8 ++x.ZY ++x.key == []) && x.ZQ == 0 && x.low == 0 && x.ZF == 0)):=hid rfl;generalize Ve x=res at*;generalize (x.name ++x.Z8 ++x.ZY ++x.key == [])=bb at*;obtain⟨hm,t1,t2,t3⟩:=ht;have z1: ¬ 9223372036854775807< (Z9 x.name).size+ (Z9 x.Z8).size:=by rw [YA,YA];omega
 have z2: ¬ 9223372036854775807< (Z9 x.name).size+ (Z9 x.Z8).size+ (Z9 x.ZY).size:=by rw [YA,YA,YA];omega
 have z3: ¬ 9223372036854775807< (Z9 x.name).size+ (Z9 x.Z8).size+ (Z9 x.ZY).size+ (Z9 x.key).size:=by rw [YA,YA,YA,YA];omega
 unfold Ru.cs;have HB0:Hid (Below w.heap.size w (w.alloc (.cells #[.string (Z9 x.name),.int .i64 x.ZQ,.slice B x.ZX.length n,.int .i64 x.low,.int .i64 x.ZF,.string (Z9 x.Z8),.string (Z9 x.ZY),.string (Z9 x.key)] 40))):=hid (br.alloc lr _);clear hn;have hl0:(x.ZX.length == 0)=((x.ZX.length:Int) == 0):=by rw [Bool.eq_iff_iff];simp
 rw [hl0] at HR;clear hl0 t1 t2 t3 hm;generalize hx0:((x.ZX.length:Int) == 0)=b0 at*;generalize hx1:(x.ZQ == 0)=b1 at*;generalize hx2:(x.low == 0)=b2 at*;generalize hx3:(x.ZF == 0)=b3 at*;go_enter Tryz.func68,Tryz.ntmps68
 cases b0 <;> cases bb <;> cases b1 <;> cases b2 <;> cases b3
 all_goals (have HR':Hid (res=_):=hid HR.out;clear HR)
 all_goals go_wp2
 all_goals go_ret
 all_goals exact⟨by rw [HR'.out];rfl,HB0.out⟩
def TH (E:Int):List PanicEntry:= [{ v:= .iface 82 (.agg #[.int .i64 E]),recovered:=false}]
theorem Y3 (E:Int)(w:World):Calls Tryz.prog 26 #[.int .i64 E] w fun e w'=>e=(if E=0 then .returned (.tuple #[]) else .panicked (TH E))∧w'=w:=by
 go_enter Tryz.func26,Tryz.ntmps26
 by_cases h:E=0
 ·subst h;rw [if_pos rfl];go_wp2;go_end0;exact⟨rfl,rfl⟩
 ·have g:(E != 0)=true:=by simpa using h
  rw [if_neg h];go_wp2;exact⟨rfl,rfl,rfl⟩
theorem YD (b:Bool)(E:Int)(w:World):Calls Tryz.prog 28 #[.bool b,.int .i64 E] w fun e w'=>e=(if b then .returned (.tuple #[]) else .panicked (TH E))∧w'=w:=by
 go_enter Tryz.func28,Tryz.ntmps28
 cases b
 ·go_wp2;exact⟨rfl,rfl,rfl⟩
 ·go_wp2;go_end0;exact⟨rfl,rfl⟩
theorem NZ (c : Ca) (A : WV) (w : World) (hc : VJ w w.heap.size c A) (ht : c.Zv 1099511627776) :
    Calls Tryz.prog 27 #[.agg (c.cs A).toArray] w fun e w' => e = .returned (.int .i64 (XS c)) ∧ Below w.heap.size w w' := by
  have HC := Lib.hid hc
  have HT := Lib.hid ht
  have HI7 : Hid ((Tryz.prog.info? 33).map (·.size) = some 7) := Lib.hid (by kernel_rfl)
  clear hc ht
  have HB0 : Hid (Below w.heap.size w (w.alloc (.cells #[.int .i64 c.ZO, .int .i64 c.ZU, .slice A.a0 c.ob.Z4.length A.k0, .slice A.a1 c.ob.Z7.length A.k1, .slice A.a2 c.ro.ZW.length A.k2, .slice A.a3 c.ro.Z2.length A.k3, .slice A.a4 c.Z3.length A.k4] 33))) := Lib.hid ((Below.refl _ _).alloc (Nat.le_refl _) _)
  have P0 : Hid (ZP (w.alloc (.cells #[.int .i64 c.ZO, .int .i64 c.ZU, .slice A.a0 c.ob.Z4.length A.k0, .slice A.a1 c.ob.Z7.length A.k1, .slice A.a2 c.ro.ZW.length A.k2, .slice A.a3 c.ro.Z2.length A.k3, .slice A.a4 c.Z3.length A.k4] 33)) w.heap.size 33 [.int .i64 c.ZO, .int .i64 c.ZU, .slice A.a0 c.ob.Z4.length A.k0, .slice A.a1 c.ob.Z7.length A.k1, .slice A.a2 c.ro.ZW.length A.k2, .slice A.a3 c.ro.Z2.length A.k3, .slice A.a4 c.Z3.length A.k4]) := Lib.hid (ZP.new w _ _)
  have cW := NT c A _ (HC.out.later HB0.out) HT.out
  have HR : Hid (XS c = if decide (0 ≤ c.ZO) && decide (c.ZO ≤ 1000) && decide (0 ≤ c.ZU) && decide (c.ZU ≤ 1000000000) && X6 c then 0 else 1) := Lib.hid rfl
  unfold Ca.cs at cW ⊢
  generalize XS c = res at *
  generalize X6 c = wh at *
  go_enter Tryz.func27, Tryz.ntmps27
  have arm : ∀ (h : (decide (0 ≤ c.ZO) && decide (c.ZO ≤ 1000) && decide (0 ≤ c.ZU) && decide (c.ZU ≤ 1000000000)) = false), res = 1 := fun h => by rw [HR.out, h]; rfl
  by_cases h1 : c.ZO < 0
  · have g : res = 1 := arm (by have : decide (0 ≤ c.ZO) = false := by simp; omega
                                rw [this]; rfl)
    clear arm HR cW
    subst g
    go_wp2
    go_ret
    exact ⟨rfl, HB0.out⟩
  by_cases h2 : 1000 < c.ZO
  · have g : res = 1 := arm (by have : decide (c.ZO ≤ 1000) = false := by simp; omega
                                rw [this]; simp)
    clear arm HR cW
    subst g
    go_wp2
    go_ret
    exact ⟨rfl, HB0.out⟩
  by_cases h3 : c.ZU < 0
  · have g : res = 1 := arm (by have : decide (0 ≤ c.ZU) = false := by simp; omega
                                rw [this]; simp)
    clear arm HR cW
    subst g
    go_wp2
    go_ret
    exact ⟨rfl, HB0.out⟩
  by_cases h4 : 1000000000 < c.ZU
  · have g : res = 1 := arm (by have : decide (c.ZU ≤ 1000000000) = false := by simp; omega
                                rw [this]; simp)
    clear arm HR cW
    subst g
    go_wp2
    go_ret
    exact ⟨rfl, HB0.out⟩
  have g : Hid (res = if wh then 0 else 1) := Lib.hid (by
    rw [HR.out]
    have e1 : decide (0 ≤ c.ZO) = true := by simp; omega
    have e2 : decide (c.ZO ≤ 1000) = true := by simp; omega
    have e3 : decide (0 ≤ c.ZU) = true := by simp; omega
    have e4 : decide (c.ZU ≤ 1000000000) = true := by simp; omega
    rw [e1, e2, e3, e4]; rfl)
  clear arm HR
  go_wp2_with (first | (with_reducible refine ZA rfl 33 _ rfl (w.heap.size) rfl P0 (n := 7) rfl Tryz.underlying33 rfl HI7 ?_) | fail)
  refine cW.mono ?_
  rintro e w' ⟨rfl, hb⟩
  have HB1 := Lib.hid (HB0.out.trans (hb.mono HB0.out.size))
  clear cW hb P0 HB0
  cases wh
  all_goals (have g' := g.out; subst g'; clear g)
  all_goals go_wp2
  all_goals go_ret
  all_goals exact ⟨rfl, HB1.out⟩
theorem Mx (E:Int)(w:World):(Instr.typeAssert (.iface 82 (.agg #[.int .i64 E])) 20 82 false).run Tryz.prog w= .ok (.agg #[.int .i64 E]) w:=by kernel_rfl
theorem PK (E:Int)(w:World):(Instr.field 82 (.agg #[.int .i64 E]) 0).run Tryz.prog w= .ok (.int .i64 E) w:=by kernel_rfl
theorem Sl (p q:Addr)(w:World):
  CallsD Tryz.prog 25 #[.pointer (some p),.pointer (some q)] .returning w fun e u' w'=>e= .returned (.tuple #[])∧u'= .returning∧w'=w:=by
 refine callsD_of_wpS Tryz.func25 rfl fun c₀ cs hu=> ?_
 apply wpS_seq
 apply wpS_region
 simp [wpOpsS,go_sem,recoverD,hu,Tryz.ntmps25,Exit.thenS];apply wpS_seq
 apply wpS_region
 simp [wpOpsS,go_sem,recoverD,hu,Tryz.ntmps25,Exit.thenS];refine wpS_cond (t:=false) (by simp [Act.eval,Array.replicate]) ?_
 simp only [Bool.false_eq_true,if_false];refine wpS_of_wp (wp_skip ?_)
 cases c₀
 simp_all [bodyPostS,results]
theorem MA (base g h:Nat)(E:Int)(vs:List Value)(x:Int)(w:World)(hg:ZP w g 33 vs)(hl:vs.length=7)(hh:ZP w h 45 [.int .i64 x])(hbg:base≤g)(hbh:base≤h)(hgh:g≠h):
  CallsD Tryz.prog 25 #[.pointer (some ⟨g,0,none⟩),.pointer (some ⟨h,0,none⟩)] (.panicking ({ v:= .iface 82 (.agg #[.int .i64 E]),recovered:=false} :: [])) w fun e u' w'=>
   e= .returned (.tuple #[])∧u'= .panicking ({ v:= .iface 82 (.agg #[.int .i64 E]),recovered:=true} :: [])∧ZP w' g 33 [.int .i64 0,.int .i64 0,.slice none 0 0,.slice none 0 0,.slice none 0 0,.slice none 0 0,.slice none 0 0]∧ZP w' h 45 [.int .i64 E]∧Below base w w':=by
 refine callsD_of_wpS Tryz.func25 rfl fun c₀ cs hu=> ?_
 apply wpS_seq
 apply wpS_region
 simp [wpOpsS,go_sem,recoverD,hu,Tryz.ntmps25,Exit.thenS];apply wpS_seq
 apply wpS_region
 simp [wpOpsS,go_sem,recoverD,hu,Tryz.ntmps25,Exit.thenS];refine wpS_cond (t:=true) (by simp [Act.eval,Array.replicate]) ?_
 simp only [if_true];refine wpS_of_wp (Code.wp_mono (Q:=fun e a' w'=>e= .normal∧a'.defers= []∧(ZP w' g 33 [.int .i64 0,.int .i64 0,.slice none 0 0,.slice none 0 0,.slice none 0 0,.slice none 0 0,.slice none 0 0]∧ZP w' h 45 [.int .i64 E]∧Below base w w')) ?_ ?_)
 ·rintro e a' w' ⟨rfl,hd,h1⟩;simp [bodyPostS,results,hd,h1]
 clear hu;have hta:=Mx E;have htf:=PK E;have HI7:=iN 33 7;have HG:=hid (hg.drew);have HH:=hid (hh.drew);clear hg hh;show (Code.region 2 _ true).wp _ _ { tmps:= #[.pointer (some ⟨g,0,none⟩),.pointer (some ⟨h,0,none⟩),.iface 82 (.agg #[.int .i64 E]),.iface 82 (.agg #[.int .i64 E]),.iface 82 (.agg #[.int .i64 E]),.bool true,undef,undef,undef,undef],defers:= []} w
 refine wp_region_held_drew (S:=fun w'=>True) (by kernel_rfl) (trivial) (fun HD=> ?_)
 (try simp only [pp]);refine tk 0 6 HD ?_;refine tk 1 7 HD ?_;refine tk 2 8 HD ?_;refine tk 3 9 HD ?_;refine Rc 4 fun K hK=> ?_
 refine Zk rfl 33 _ _ rfl g [.int .i64 0,.int .i64 0,.slice none 0 0,.slice none 0 0,.slice none 0 0,.slice none 0 0,.slice none 0 0] rfl rfl HG hl (by simp) HI7 (by simp [Value.oneCell']) ?_
 intro w9 U;refine hK.out _ _ trivial (fun HD=> ?_);clear hK K;(try simp only [pp])
 have HH9:=hid ((U.out.other HH.out (Ne.symm hgh)));have f9:=HH9.out.frozen 0;have c9:=ce HH9 0;refine Rc 5 fun K hK=> ?_
 go_simp;refine hK.out _ _ trivial (fun HD=> ?_);clear hK K;(try simp only [pp])
 refine wpAnyH_done (by kernel_rfl) ?_ _
 exact⟨rfl,rfl,U.out.X8.Wx hgh _,HH9.out.Zx 0 _,(U.out.below br.drew hbg).setCell hbh _⟩
theorem YX {P:Program}{fn:Func}{t u v:Tmp}{ty ty2:TypeId}(h:fn.results= #[.cell t ty,.cell u ty2,.tmp v])(tmps:Array Value)(w:World)(b b2:Nat)(hb:tmps.getD t undef= .pointer (some ⟨b,0,none⟩))(hb2:tmps.getD u undef= .pointer (some ⟨b2,0,none⟩))
  {t' t2':TypeId} {cs cs2:List Value} (hB:Hid (ZP w b t' cs)) (hB2:Hid (ZP w b2 t2' cs2)) {n n2:Nat} (hn:cs.length=n) (hn2:cs2.length=n2) {d d2:TypeDesc}
  (hu:P.underlying ty=some d) (hd:d.isRow=true) (hi:Hid ((P.info? ty).map (·.size)=some n)) (hu2:P.underlying ty2=some d2) (hd2:d2.isRow=true) (hi2:Hid ((P.info? ty2).map (·.size)=some n2)):
  (results fn tmps).run P w= .ok (.tuple #[.agg cs.toArray,.agg cs2.toArray,tmps.getD v undef]) w:=by
 have hl:=run_loadVar_mid w b 0 ty cs d hB.out.YQ hu hd (hn▸hi.out);have hl2:=run_loadVar_mid w b2 0 ty2 cs2 d2 hB2.out.YQ hu2 hd2 (hn2▸hi2.out);have hb':tmps[t]?.getD undef= .pointer (some ⟨b,0,none⟩):=by simpa using hb
 have hb2':tmps[u]?.getD undef= .pointer (some ⟨b2,0,none⟩):=by simpa using hb2
 simp [results,h,hb',hl,hb2',hl2,asAddr]
theorem ZE (w:World)(o o4:Obj)(a b:List Value)(t u:TypeId):
  ZP ((((w.alloc o).alloc (.cells a.toArray t)).alloc (.cells b.toArray u)).alloc o4) (w.heap.size+1) t a∧ZP ((((w.alloc o).alloc (.cells a.toArray t)).alloc (.cells b.toArray u)).alloc o4) (w.heap.size+1+1) u b∧Below w.heap.size w ((((w.alloc o).alloc (.cells a.toArray t)).alloc (.cells b.toArray u)).alloc o4):=by
 have s1:(w.alloc o).heap.size=w.heap.size+1:=by simp
 have s2:((w.alloc o).alloc (.cells a.toArray t)).heap.size=w.heap.size+1+1:=by simp
 have s3:(((w.alloc o).alloc (.cells a.toArray t)).alloc (.cells b.toArray u)).heap.size=w.heap.size+1+1+1:=by simp
 refine⟨?_,?_,?_⟩
 ·have h:=((ZP.new (w.alloc o) t a).alloc (.cells b.toArray u)).alloc o4;rwa [s1] at h
 ·have h:=(ZP.new ((w.alloc o).alloc (.cells a.toArray t)) u b).alloc o4;rwa [s2] at h
 ·exact(((br.alloc lr _).alloc (by omega) _).alloc (by omega) _).alloc (by omega) _
def WW (k:Int):List Value:= [.bool (VS k).1,.bool (VS k).2.1,.bool (VS k).2.2.1,.bool (VS k).2.2.2]
def Nd (x:Cm):List Value:= [.string (Z9 x.Z8),.string (Z9 x.ZY),.string (Z9 x.name),.string (Z9 x.ZT)]
theorem KT (x:Cm)(A:Option Addr)(k:Nat)(B:Option Addr)(n:Nat)(w:World):
  Calls Tryz.prog 66 #[.agg (x.cs A k B n).toArray] w fun e w'=>e= .returned (.tuple #[.agg (Nd x).toArray,.agg (WW x.ZQ).toArray,.bool (XW x.ZQ)])∧Below w.heap.size w w':=by
 have HI4:=iN 130 4;have HJ4:=iN 131 4;have HO:Hid (XW x.ZQ=(decide (1≤x.ZQ) && decide (x.ZQ≤15))):=hid rfl;unfold Cm.cs Nd;generalize x.ZQ=kk at*;go_enter Tryz.func66,Tryz.ntmps66
 by_cases h1:kk=1
 ·subst h1;have hv:WW 1= [.bool true,.bool false,.bool false,.bool false]:=rfl;have ho:XW 1=true:=rfl;rw [hv,ho];clear hv ho HO;go_wp2;refine bodyPost_ret (YX rfl _ _ (w.heap.size+1) (w.heap.size+1+1) rfl rfl (hid (ZE w _ _ _ _ _ _).1) (hid (ZE w _ _ _ _ _ _).2.1) rfl rfl Tryz.underlying130 rfl HI4 Tryz.underlying131 rfl HJ4) rfl ?_
  exact⟨rfl,(ZE w _ _ _ _ _ _).2.2⟩
 have g1:(kk == 1)=false:=by simpa using h1
 by_cases h2:kk=2
 ·subst h2;have hv:WW 2= [.bool true,.bool false,.bool false,.bool false]:=rfl;have ho:XW 2=true:=rfl;rw [hv,ho];clear hv ho HO;go_wp2;refine bodyPost_ret (YX rfl _ _ (w.heap.size+1) (w.heap.size+1+1) rfl rfl (hid (ZE w _ _ _ _ _ _).1) (hid (ZE w _ _ _ _ _ _).2.1) rfl rfl Tryz.underlying130 rfl HI4 Tryz.underlying131 rfl HJ4) rfl ?_
  exact⟨rfl,(ZE w _ _ _ _ _ _).2.2⟩
 have g2:(kk == 2)=false:=by simpa using h2
 by_cases h3:kk=3
 ·subst h3;have hv:WW 3= [.bool true,.bool true,.bool false,.bool false]:=rfl;have ho:XW 3=true:=rfl;rw [hv,ho];clear hv ho HO;go_wp2;refine bodyPost_ret (YX rfl _ _ (w.heap.size+1) (w.heap.size+1+1) rfl rfl (hid (ZE w _ _ _ _ _ _).1) (hid (ZE w _ _ _ _ _ _).2.1) rfl rfl Tryz.underlying130 rfl HI4 Tryz.underlying131 rfl HJ4) rfl ?_
  exact⟨rfl,(ZE w _ _ _ _ _ _).2.2⟩
 have g3:(kk == 3)=false:=by simpa using h3
 by_cases h4:kk=4
 ·subst h4;have hv:WW 4= [.bool true,.bool true,.bool false,.bool false]:=rfl;have ho:XW 4=true:=rfl;rw [hv,ho];clear hv ho HO;go_wp2;refine bodyPost_ret (YX rfl _ _ (w.heap.size+1) (w.heap.size+1+1) rfl rfl (hid (ZE w _ _ _ _ _ _).1) (hid (ZE w _ _ _ _ _ _).2.1) rfl rfl Tryz.underlying130 rfl HI4 Tryz.underlying131 rfl HJ4) rfl ?_
  exact⟨rfl,(ZE w _ _ _ _ _ _).2.2⟩
 have g4:(kk == 4)=false:=by simpa using h4
 by_cases h5:kk=5
 ·subst h5;have hv:WW 5= [.bool true,.bool true,.bool false,.bool false]:=rfl;have ho:XW 5=true:=rfl;rw [hv,ho];clear hv ho HO;go_wp2;refine bodyPost_ret (YX rfl _ _ (w.heap.size+1) (w.heap.size+1+1) rfl rfl (hid (ZE w _ _ _ _ _ _).1) (hid (ZE w _ _ _ _ _ _).2.1) rfl rfl Tryz.underlying130 rfl HI4 Tryz.underlying131 rfl HJ4) rfl ?_
  exact⟨rfl,(ZE w _ _ _ _ _ _).2.2⟩
 have g5:(kk == 5)=false:=by simpa using h5
 by_cases h6:kk=6
 ·subst h6;have hv:WW 6= [.bool true,.bool true,.bool true,.bool false]:=rfl;have ho:XW 6=true:=rfl;rw [hv,ho];clear hv ho HO;go_wp2;refine bodyPost_ret (YX rfl _ _ (w.heap.size+1) (w.heap.size+1+1) rfl rfl (hid (ZE w _ _ _ _ _ _).1) (hid (ZE w _ _ _ _ _ _).2.1) rfl rfl Tryz.underlying130 rfl HI4 Tryz.underlying131 rfl HJ4) rfl ?_
  exact⟨rfl,(ZE w _ _ _ _ _ _).2.2⟩
 have g6:(kk == 6)=false:=by simpa using h6
 by_cases h7:kk=7
 ·subst h7;have hv:WW 7= [.bool true,.bool true,.bool false,.bool false]:=rfl;have ho:XW 7=true:=rfl;rw [hv,ho];clear hv ho HO;go_wp2;refine bodyPost_ret (YX rfl _ _ (w.heap.size+1) (w.heap.size+1+1) rfl rfl (hid (ZE w _ _ _ _ _ _).1) (hid (ZE w _ _ _ _ _ _).2.1) rfl rfl Tryz.underlying130 rfl HI4 Tryz.underlying131 rfl HJ4) rfl ?_
  exact⟨rfl,(ZE w _ _ _ _ _ _).2.2⟩
 have g7:(kk == 7)=false:=by simpa using h7
 by_cases h8:kk=8
 ·subst h8;have hv:WW 8= [.bool true,.bool true,.bool true,.bool false]:=rfl;have ho:XW 8=true:=rfl;rw [hv,ho];clear hv ho HO;go_wp2;refine bodyPost_ret (YX rfl _ _ (w.heap.size+1) (w.heap.size+1+1) rfl rfl (hid (ZE w _ _ _ _ _ _).1) (hid (ZE w _ _ _ _ _ _).2.1) rfl rfl Tryz.underlying130 rfl HI4 Tryz.underlying131 rfl HJ4) rfl ?_
  exact⟨rfl,(ZE w _ _ _ _ _ _).2.2⟩
 have g8:(kk == 8)=false:=by simpa using h8
 by_cases h9:kk=9
 ·subst h9;have hv:WW 9= [.bool true,.bool true,.bool false,.bool true]:=rfl;have ho:XW 9=true:=rfl;rw [hv,ho];clear hv ho HO;go_wp2;refine bodyPost_ret (YX rfl _ _ (w.heap.size+1) (w.heap.size+1+1) rfl rfl (hid (ZE w _ _ _ _ _ _).1) (hid (ZE w _ _ _ _ _ _).2.1) rfl rfl Tryz.underlying130 rfl HI4 Tryz.underlying131 rfl HJ4) rfl ?_
  exact⟨rfl,(ZE w _ _ _ _ _ _).2.2⟩
 have g9:(kk == 9)=false:=by simpa using h9
 by_cases h10:kk=10
 ·subst h10;have hv:WW 10= [.bool false,.bool false,.bool false,.bool true]:=rfl;have ho:XW 10=true:=rfl;rw [hv,ho];clear hv ho HO;go_wp2;refine bodyPost_ret (YX rfl _ _ (w.heap.size+1) (w.heap.size+1+1) rfl rfl (hid (ZE w _ _ _ _ _ _).1) (hid (ZE w _ _ _ _ _ _).2.1) rfl rfl Tryz.underlying130 rfl HI4 Tryz.underlying131 rfl HJ4) rfl ?_
  exact⟨rfl,(ZE w _ _ _ _ _ _).2.2⟩
 have g10:(kk == 10)=false:=by simpa using h10
 by_cases h11:kk=11
 ·subst h11;have hv:WW 11= [.bool false,.bool false,.bool false,.bool true]:=rfl;have ho:XW 11=true:=rfl;rw [hv,ho];clear hv ho HO;go_wp2;refine bodyPost_ret (YX rfl _ _ (w.heap.size+1) (w.heap.size+1+1) rfl rfl (hid (ZE w _ _ _ _ _ _).1) (hid (ZE w _ _ _ _ _ _).2.1) rfl rfl Tryz.underlying130 rfl HI4 Tryz.underlying131 rfl HJ4) rfl ?_
  exact⟨rfl,(ZE w _ _ _ _ _ _).2.2⟩
 have g11:(kk == 11)=false:=by simpa using h11
 by_cases h12:kk=12
 ·subst h12;have hv:WW 12= [.bool false,.bool false,.bool true,.bool true]:=rfl;have ho:XW 12=true:=rfl;rw [hv,ho];clear hv ho HO;go_wp2;refine bodyPost_ret (YX rfl _ _ (w.heap.size+1) (w.heap.size+1+1) rfl rfl (hid (ZE w _ _ _ _ _ _).1) (hid (ZE w _ _ _ _ _ _).2.1) rfl rfl Tryz.underlying130 rfl HI4 Tryz.underlying131 rfl HJ4) rfl ?_
  exact⟨rfl,(ZE w _ _ _ _ _ _).2.2⟩
 have g12:(kk == 12)=false:=by simpa using h12
 by_cases h13:kk=13
 ·subst h13;have hv:WW 13= [.bool false,.bool false,.bool true,.bool true]:=rfl;have ho:XW 13=true:=rfl;rw [hv,ho];clear hv ho HO;go_wp2;refine bodyPost_ret (YX rfl _ _ (w.heap.size+1) (w.heap.size+1+1) rfl rfl (hid (ZE w _ _ _ _ _ _).1) (hid (ZE w _ _ _ _ _ _).2.1) rfl rfl Tryz.underlying130 rfl HI4 Tryz.underlying131 rfl HJ4) rfl ?_
  exact⟨rfl,(ZE w _ _ _ _ _ _).2.2⟩
 have g13:(kk == 13)=false:=by simpa using h13
 by_cases h14:kk=14
 ·subst h14;have hv:WW 14= [.bool true,.bool true,.bool false,.bool true]:=rfl;have ho:XW 14=true:=rfl;rw [hv,ho];clear hv ho HO;go_wp2;refine bodyPost_ret (YX rfl _ _ (w.heap.size+1) (w.heap.size+1+1) rfl rfl (hid (ZE w _ _ _ _ _ _).1) (hid (ZE w _ _ _ _ _ _).2.1) rfl rfl Tryz.underlying130 rfl HI4 Tryz.underlying131 rfl HJ4) rfl ?_
  exact⟨rfl,(ZE w _ _ _ _ _ _).2.2⟩
 have g14:(kk == 14)=false:=by simpa using h14
 by_cases h15:kk=15
 ·subst h15;have hv:WW 15= [.bool true,.bool true,.bool false,.bool true]:=rfl;have ho:XW 15=true:=rfl;rw [hv,ho];clear hv ho HO;go_wp2;refine bodyPost_ret (YX rfl _ _ (w.heap.size+1) (w.heap.size+1+1) rfl rfl (hid (ZE w _ _ _ _ _ _).1) (hid (ZE w _ _ _ _ _ _).2.1) rfl rfl Tryz.underlying130 rfl HI4 Tryz.underlying131 rfl HJ4) rfl ?_
  exact⟨rfl,(ZE w _ _ _ _ _ _).2.2⟩
 have g15:(kk == 15)=false:=by simpa using h15
 have hv:WW kk= [.bool false,.bool false,.bool false,.bool false]:=by unfold WW VS;simp [h1,h2,h3,h4,h5,h6,h7,h8,h9,h10,h11,h12,h13,h14,h15]
 have ho:XW kk=false:=by rw [HO.out];by_cases h:1≤kk;simp;omega;simp [h]
 rw [hv,ho];clear hv ho HO h1 h2 h3 h4 h5 h6 h7 h8 h9 h10 h11 h12 h13 h14 h15;go_wp2;refine bodyPost_ret (YX rfl _ _ (w.heap.size+1) (w.heap.size+1+1) rfl rfl (hid (ZE w _ _ _ _ _ _).1) (hid (ZE w _ _ _ _ _ _).2.1) rfl rfl Tryz.underlying130 rfl HI4 Tryz.underlying131 rfl HJ4) rfl ?_
 exact⟨rfl,(ZE w _ _ _ _ _ _).2.2⟩
end Go.Proofs.YtnhmoibjlakhjaaGreat
