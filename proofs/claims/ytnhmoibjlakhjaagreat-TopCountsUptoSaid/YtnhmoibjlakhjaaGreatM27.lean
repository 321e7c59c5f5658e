/- Lemmas of the proof. No condition but each theorem's own. -/
import Derived.Test.YtnhmoibjlakhjaaGreatM26
import Derived.Test.YtnhmoibjlakhjaaGreatM03
import Derived.Test.YtnhmoibjlakhjaaGreatM10
set_option linter.unusedVariables false
set_option linter.unusedSimpArgs false
namespace Go.Proofs.YtnhmoibjlakhjaaGreat
open Lib (hid)
set_option maxRecDepth 100000
set_option maxHeartbeats 16000000
open Go.RowKit
theorem Lm (p:List UInt8→Bool)(g:Nat)(lb:Array Value)(l:List (List UInt8))(A:Option Addr)(c:Nat)(w:World)(eg: ∀ args w,(callFunc g args).run Tryz.prog w= .ok (.enter g args) w)(hA:Zg w w.heap.size A YT l)(hn:l.length≤1099511627776)
  (hp: ∀ W x,Below w.heap.size w W→x∈l→Calls Tryz.prog g (#[(.string (Z9 x))] ++lb) W fun e w'=>e= .returned (.bool (p x))∧Below W.heap.size W w'):
  Calls Tryz.prog 99 #[.slice A l.length c,.func (.func g) #[] lb] w fun e w'=>e= .returned (.bool (l.any p))∧Below w.heap.size w w':=by
 have h:=Oy p g lb l A c w eg hA hn hp;have HD:=hid (WY p l);generalize l.any p=r at*;generalize Zh p l 0=i at*;go_enter Tryz.func99,Tryz.ntmps99
 go_wp2_with fail;refine h.mono ?_
 rintro e w' ⟨rfl,hb⟩;have HB:=hid hb;go_wp2;go_ret;exact⟨by rw [←HD.out];rfl,HB.out⟩
theorem NR (s:Sc)(t:Tb)(X:Option Addr)(x:Nat)(Y:Option Addr)(y b:Nat)(w:World)(hB:ZP w b 73 [.string (Z9 t.Z8),.string (Z9 t.name),.string (Z9 t.ZN),.slice X t.ZY.length x,.slice Y t.ZT.length y]):
  Calls Tryz.prog 98 #[.agg (s.cs).toArray,.pointer (some ⟨b,0,none⟩)] w fun e w'=>e= .returned (.bool (s.name == t.Z8))∧Below w.heap.size w w':=by
 have b0:w.cell? ⟨b,0,none⟩=some (.string (Z9 t.Z8)):=hB.cell 0;have hbl:=hB.lt;clear hB;unfold Sc.cs;go_enter Tryz.func98,Tryz.ntmps98
 go_wp2;go_ret;exact⟨rfl,br.alloc lr _⟩
theorem NQ (c:Ca)(A:WV)(t:Tb)(X:Option Addr)(x:Nat)(Y:Option Addr)(y b1 b2 b3 i:Nat)(r:List UInt8)(w:World)(h1:ZP w b1 73 [.string (Z9 t.Z8),.string (Z9 t.name),.string (Z9 t.ZN),.slice X t.ZY.length x,.slice Y t.ZT.length y])(h2:ZP w b2 33 [.int .i64 c.ZO,.int .i64 c.ZU,.slice A.a0 c.ob.Z4.length A.k0,.slice A.a1 c.ob.Z7.length A.k1,.slice A.a2 c.ro.ZW.length A.k2,.slice A.a3 c.ro.Z2.length A.k3,.slice A.a4 c.Z3.length A.k4])(h3:ZP w b3 3 [.int .i64 i])
  (hc:Wh w w.heap.size c A) (hi:i<c.ob.Z4.length) (ho:SO c t=c.ob.Z4[i].ZN):
  Calls Tryz.prog 100 #[.string (Z9 r),.pointer (some ⟨b1,0,none⟩),.pointer (some ⟨b2,0,none⟩),.pointer (some ⟨b3,0,none⟩)] w fun e w'=>e= .returned (.bool (r == Yd || r == t.ZN || r == SO c t))∧Below w.heap.size w w':=by
 obtain⟨ad,vs,hA0,hv,hr⟩:=(hc.sc).at_ (j:=i) (by simpa using hi);rw [List.getElem_map] at hv;rw [ho];generalize c.ob.Z4[i]=q at*;obtain rfl:=Sc.Y4 hv;have a1:=ef (m:=i*2) hr 1;have b12:w.cell? ⟨b1,2,none⟩=some (.string (Z9 t.ZN)):=h1.cell 2;have b22:w.cell? ⟨b2,2,none⟩=some (.slice (some ad) c.ob.Z4.length A.k0):=by rw [←hA0];exact h2.cell 2
 have b30:w.cell? ⟨b3,0,none⟩=some (.int .i64 i):=h3.cell 0;have e1:(i:Int)< (c.ob.Z4.length:Int):=by omega
 have e2:(0:Int)≤(i:Int):=by omega
 clear hv hr h1 h2 h3 hc ho hA0
 cases k1:(r == Yd)
 ·have k1x:(r == [114,111,111,116])=false:=k1;clear k1
  cases k2:(r == t.ZN)
  ·go_enter Tryz.func100,Tryz.ntmps100
   go_wp2;go_ret;refine⟨?_,Below.refl _ _⟩
   first | rfl | simp [k1x]
  ·go_enter Tryz.func100,Tryz.ntmps100
   go_wp2;go_ret;refine⟨?_,Below.refl _ _⟩
   first | rfl | simp [k1x]
 ·have k1x:(r == [114,111,111,116])=true:=k1;clear k1;go_enter Tryz.func100,Tryz.ntmps100
  go_wp2;go_ret;refine⟨?_,Below.refl _ _⟩
  first | rfl | simp [k1x]
theorem Sj (c:Ca)(A:WV)(is:List (List UInt8))(I:Option Addr)(ic:Nat)(t:Tb)(X:Option Addr)(x:Nat)(Y:Option Addr)(y i:Nat)(w:World)(hc:Wh w w.heap.size c A)(hI:Zg w w.heap.size I YT is)(hil:is.length≤1099511627776)
  (hsl:c.ob.Z4.length≤1099511627776) (hs:WU c.ob.Z4 t.Z8=some i):
  Calls Tryz.prog 45 #[.agg (c.cs A).toArray,.slice I is.length ic,.agg (t.cs X x Y y).toArray] w fun e w'=>e= .returned (.bool (Wv c is t))∧Below w.heap.size w w':=by
 have HC:=hid hc;have HII:=hid hI;obtain⟨hi,hf⟩:=WZ (show c.ob.Z4.findIdx? (fun s=>s.name == t.Z8)=some i from hs);have HO:Hid (SO c t=c.ob.Z4[i].ZN):=hid (by unfold SO;rw [hf];rfl)
 have HR:Hid (Wv c is t=is.any fun r=>r == Yd || r == t.ZN || r == SO c t):=hid rfl;have HSx:=hid hs;clear hc hI hf hs;generalize Wv c is t=res at*;unfold Ca.cs Tb.cs;go_enter Tryz.func45,Tryz.ntmps45
 go_wp2_with fail;refine Zj _ fun W hW=> ?_
 have HB1:=bQ hW;have P1:=nD hW;have T1:=nF hW;clear hW;have hlt1:=T1.out.lt;have cI:=Vc (fun d=>tx d 0 == t.Z8) 98 #[.pointer (some ⟨w.heap.size+1,0,none⟩)] (c.ob.Z4.map Sc.da) A.a0 A.k0 W (enters_of Tryz.func98 (by kernel_rfl) rfl) (HC.out.later HB1.out).sc (by simpa using hsl) (by
  intro W' d vs hb _ hv;obtain⟨q,rfl,rfl⟩:=Sc.YM hv;exact NR q t X x Y y (w.heap.size+1) W' (T1.out.below hb hlt1))
 rw [List.length_map,Uz,HSx.out] at cI;refine cI.mono ?_
 rintro e W2 ⟨rfl,hb⟩;rw [show Xe (some i)=(i:Int) from rfl];have HB2:=bt HB1 hb;have P2:=bl P1 hb;have T2:=hid (T1.out.below hb hlt1);clear hb cI HB1 P1 T1;go_wp2_with fail;refine Zj _ fun W3 hW=> ?_
 have HB3:=rL hW (HB2.out.alloc HB2.out.size _);have P3:=rB hW (P2.out.alloc _);have T3:=rB hW (T2.out.alloc _);have I3:=nC hW;clear hW HB2 P2 T2;refine(Lm (fun r=>r == Yd || r == t.ZN || r == SO c t) 100 #[.pointer (some ⟨w.heap.size+1,0,none⟩),.pointer (some ⟨w.heap.size,0,none⟩),.pointer (some ⟨W2.heap.size,0,none⟩)] is I ic W3 (enters_of Tryz.func100 (by kernel_rfl) rfl) (HII.out.later HB3.out) hil (fun W' r hb _=>
  NQ c A t X x Y y (w.heap.size+1) w.heap.size W2.heap.size i r W' (T3.out.below hb T3.out.lt) (P3.out.below hb P3.out.lt) (I3.out.below hb I3.out.lt) (HC.out.later (HB3.out.trans (hb.mono HB3.out.size))) hi HO.out)).mono ?_
 rintro e w' ⟨rfl,hb⟩;have HB4:=bt HB3 hb;clear hb;generalize (is.any fun r=>r == Yd || r == t.ZN || r == SO c t)=q at*;go_wp2;go_ret;exact⟨by rw [HR.out];rfl,HB4.out⟩
def Hq (d:List Da)(i:Nat):Int:=match d[i]? with
 | some (.int n)=>n
 | _=>0
def Hr (d:List Da)(i:Nat):Bool:=match d[i]? with
 | some (.YV b)=>b
 | _=>false
def Iq (d:List Da):Gr:=⟨tx d 0,tx d 1,Hq d 2,tx d 3,tx d 4,Hr d 5⟩
def US (is:List (List UInt8))(t:Tb)(right:Int)(Zy:Bool)(g:Gr):Bool:=g.Z8 == t.Z8 && g.ZX == t.name && g.right == right && (g.Zy || !Zy) && is.contains g.to
theorem NJ (g:Gr)(is:List (List UInt8))(I:Option Addr)(ic:Nat)(t:Tb)(X:Option Addr)(x:Nat)(Y:Option Addr)(y:Nat)(right:Int)(Zy:Bool)(b1 b2 b3 b4:Nat)(w:World)(h1:ZP w b1 73 [.string (Z9 t.Z8),.string (Z9 t.name),.string (Z9 t.ZN),.slice X t.ZY.length x,.slice Y t.ZT.length y])(h2:ZP w b2 41 [.int .i64 right])(h3:ZP w b3 4 [.bool Zy])(h4:ZP w b4 27 [.slice I is.length ic])
  (hI:Zg w w.heap.size I YT is) (hil:is.length≤1099511627776):
  Calls Tryz.prog 102 #[.agg (g.cs).toArray,.pointer (some ⟨b1,0,none⟩),.pointer (some ⟨b2,0,none⟩),.pointer (some ⟨b3,0,none⟩),.pointer (some ⟨b4,0,none⟩)] w fun e w'=>e= .returned (.bool (US is t right Zy g))∧Below w.heap.size w w':=by
 have HI:=hid hI;have a0:w.cell? ⟨b1,0,none⟩=some (.string (Z9 t.Z8)):=h1.cell 0;have a1:w.cell? ⟨b1,1,none⟩=some (.string (Z9 t.name)):=h1.cell 1;have a2:w.cell? ⟨b2,0,none⟩=some (.int .i64 right):=h2.cell 0;have a3:w.cell? ⟨b3,0,none⟩=some (.bool Zy):=h3.cell 0;have a4:w.cell? ⟨b4,0,none⟩=some (.slice I is.length ic):=h4.cell 0;have l1:=h1.lt;have l2:=h2.lt;have l3:=h3.lt;have l4:=h4.lt;have HQ:Hid (US is t right Zy g=(g.Z8 == t.Z8 && (g.ZX == t.name && (g.right == right && ((g.Zy || !Zy) && is.contains g.to))))):=hid (by simp only [US,Bool.and_assoc]);clear hI h1 h2 h3 h4;generalize US is t right Zy g=res at*;unfold Gr.cs;have HB0:Hid (Below w.heap.size w (w.alloc (.cells #[.string (Z9 g.Z8),.string (Z9 g.ZX),.int .i64 g.right,.string (Z9 g.ZM),.string (Z9 g.to),.bool g.Zy] 53))):=hid (br.alloc lr _);go_enter Tryz.func102,Tryz.ntmps102
 cases k1:(g.Z8 == t.Z8)
 ·rw [k1] at HQ;go_wp2;go_ret;exact⟨by rw [HQ.out];rfl,HB0.out⟩
 rw [k1] at HQ
 cases k2:(g.ZX == t.name)
 ·rw [k2] at HQ;go_wp2;go_ret;exact⟨by rw [HQ.out];rfl,HB0.out⟩
 rw [k2] at HQ
 cases k3:(g.right == right)
 ·rw [k3] at HQ;go_wp2;go_ret;exact⟨by rw [HQ.out];rfl,HB0.out⟩
 rw [k3] at HQ;have HCon:=hid (fun W (h:Below w.heap.size w W)=>Zl is I ic g.to W (PW (HI.out.later h)) hil);generalize is.contains g.to=b at*;generalize hgo:g.Zy=o at*
 cases o <;> cases Zy
 ·rw [show (false || !false)=true from rfl] at HQ;go_wp2_with fail;refine(HCon.out _ HB0.out).mono ?_
  rintro e w' ⟨rfl,rfl⟩;go_wp2;go_ret;exact⟨by rw [HQ.out];rfl,HB0.out⟩
 ·rw [show (false || !true)=false from rfl] at HQ;go_wp2;go_ret;exact⟨by rw [HQ.out];rfl,HB0.out⟩
 ·rw [show (true || !false)=true from rfl] at HQ;go_wp2_with fail;refine(HCon.out _ HB0.out).mono ?_
  rintro e w' ⟨rfl,rfl⟩;go_wp2;go_ret;exact⟨by rw [HQ.out];rfl,HB0.out⟩
 ·rw [show (true || !true)=true from rfl] at HQ;go_wp2_with fail;refine(HCon.out _ HB0.out).mono ?_
  rintro e w' ⟨rfl,rfl⟩;go_wp2;go_ret;exact⟨by rw [HQ.out];rfl,HB0.out⟩
theorem Qv (l:List Gr)(G:Option Addr)(gc:Nat)(is:List (List UInt8))(I:Option Addr)(ic:Nat)(t:Tb)(X:Option Addr)(x:Nat)(Y:Option Addr)(y:Nat)(right:Int)(Zy:Bool)(w:World)(hG:ZV w (· < w.heap.size) YA (l.map Gr.da) G)(hl:l.length≤1099511627776)(hI:Zg w w.heap.size I YT is)(hil:is.length≤1099511627776):
  Calls Tryz.prog 47 #[.slice G l.length gc,.slice I is.length ic,.agg (t.cs X x Y y).toArray,.int .i64 right,.bool Zy] w fun e w'=>e= .returned (.bool (UT l is t right Zy))∧Below w.heap.size w w':=by
 have HG:=hid hG;have HI:=hid hI;have HR:Hid (UT l is t right Zy=l.any (US is t right Zy)):=hid rfl;clear hG hI;generalize UT l is t right Zy=res at*;unfold Tb.cs;go_enter Tryz.func47,Tryz.ntmps47
 go_wp2_with fail;refine Zj _ fun W hW=> ?_
 have HB1:Hid (Below w.heap.size w W):=hid (by rw [hW];exact(((br.alloc lr _).alloc (by simp) _).alloc (by simp;omega) _).alloc (by simp;omega) _);have I1:Hid (ZP W w.heap.size 27 [.slice I is.length ic]):=hid (by rw [hW];exact(((ZP.new w _ _).alloc _).alloc _).alloc _);have T1:Hid (ZP W (w.heap.size+1) 73 [.string (Z9 t.Z8),.string (Z9 t.name),.string (Z9 t.ZN),.slice X t.ZY.length x,.slice Y t.ZT.length y]):=hid (by
  rw [hW];have:=((ZP.new (w.alloc (.cells #[.slice I is.length ic] 27)) 73 [.string (Z9 t.Z8),.string (Z9 t.name),.string (Z9 t.ZN),.slice X t.ZY.length x,.slice Y t.ZT.length y]).alloc (.cells #[.int .i64 right] 41)).alloc (.cells #[.bool Zy] 4);simpa using this)
 have R1:Hid (ZP W (w.heap.size+2) 41 [.int .i64 right]):=hid (by
  rw [hW];have:=(ZP.new ((w.alloc (.cells #[.slice I is.length ic] 27)).alloc (.cells #[.string (Z9 t.Z8),.string (Z9 t.name),.string (Z9 t.ZN),.slice X t.ZY.length x,.slice Y t.ZT.length y] 73)) 41 [.int .i64 right]).alloc (.cells #[.bool Zy] 4);simpa using this)
 have O1:Hid (ZP W (w.heap.size+3) 4 [.bool Zy]):=hid (by
  rw [hW];have:=ZP.new (((w.alloc (.cells #[.slice I is.length ic] 27)).alloc (.cells #[.string (Z9 t.Z8),.string (Z9 t.name),.string (Z9 t.ZN),.slice X t.ZY.length x,.slice Y t.ZT.length y] 73)).alloc (.cells #[.int .i64 right] 41)) 4 [.bool Zy];simpa using this)
 clear hW;have cW:=Qs (fun d=>US is t right Zy (Iq d)) 102 #[.pointer (some ⟨w.heap.size+1,0,none⟩),.pointer (some ⟨w.heap.size+2,0,none⟩),.pointer (some ⟨w.heap.size+3,0,none⟩),.pointer (some ⟨w.heap.size,0,none⟩)] (l.map Gr.da) G gc W (enters_of Tryz.func102 (by kernel_rfl) rfl) (HG.out.later HB1.out) (by simpa using hl) (by
  intro W' d vs hb _ hv;obtain⟨g,rfl,rfl⟩:=Gr.YM hv;exact NJ g is I ic t X x Y y right Zy (w.heap.size+1) (w.heap.size+2) (w.heap.size+3) w.heap.size W' (T1.out.below hb T1.out.lt) (R1.out.below hb R1.out.lt) (O1.out.below hb O1.out.lt) (I1.out.below hb I1.out.lt) (HI.out.later (HB1.out.trans (hb.mono HB1.out.size))) hil)
 rw [List.length_map,List.any_map] at cW;refine cW.mono ?_
 rintro e w' ⟨rfl,hb⟩;have HB2:=bt HB1 hb;have HR2:Hid (res=l.any ((fun d=>US is t right Zy (Iq d))∘Gr.da)):=hid HR.out;clear hb cW;generalize l.any ((fun d=>US is t right Zy (Iq d))∘Gr.da)=q at*;go_wp2;go_ret;exact⟨by rw [HR2.out];rfl,HB2.out⟩
end Go.Proofs.YtnhmoibjlakhjaaGreat
