/- Lemmas of the proof. No condition but each theorem's own. -/
import Derived.Test.YtnhmoibjlakhjaaGreatR13
import Derived.Deep.RegionHeldLaw
import Derived.Test.YtnhmoibjlakhjaaGreatR03
import Derived.Test.YtnhmoibjlakhjaaGreatR10
set_option linter.unusedVariables false
set_option linter.unusedSimpArgs false
namespace Go.Proofs.YtnhmoibjlakhjaaGreat
open Lib (hid)
set_option maxRecDepth 100000
set_option maxHeartbeats 16000000
open Go.RowKit
theorem Uv {P:Program}{c:Code}{Q:Exit→Act→World→Prop}{a:Act}(wX:World)(k: ∀ W,W=wX→c.wp P Q a W):c.wp P Q a wX:=k _ rfl
def tx (d:List Da)(i:Nat):List UInt8:=match d[i]? with
 | some (.Z9 b)=>b
 | _=> []
theorem Sb (c:Cl)(w:World):Calls Tryz.prog 204 #[.agg #[.string (Z9 c.name),.int .i64 c.ZQ,.bool c.null]] w fun e w'=>e= .returned (.string (Z9 c.name))∧Below w.heap.size w w':=by
 go_enter Tryz.func204,Tryz.ntmps204
 go_wp2;go_ret;exact⟨rfl,br.alloc lr _⟩
theorem TN (c:Cl)(n:List UInt8)(p q:Nat)(w:World)(hp:ZP w p 252 [.func (.func 204) #[] #[]])(hq:ZP w q 9 [.string (Z9 n)]):
  Calls Tryz.prog 260 #[.agg #[.string (Z9 c.name),.int .i64 c.ZQ,.bool c.null],.pointer (some ⟨p,0,none⟩),.pointer (some ⟨q,0,none⟩)] w fun e w'=>e= .returned (.bool (c.name == n))∧Below w.heap.size w w':=by
 have h:=fun W=>Sb c W
 have hpl:=hp.lt;have hql:=hq.lt;have HP:=hid hp;have HQ:=hid hq;clear hp hq;go_enter Tryz.func260,Tryz.ntmps260
 go_wp2;refine Uv _ fun W hW=> ?_
 have HB:=bP hW;have HX:=nC hW;have a0:=cd (HP.out.below HB.out hpl) 0;have a1:=cd (HQ.out.below HB.out hql) 0;have b0:=ce HX 0;have b1:=ce HX 1;have b2:=ce HX 2;have hz:w.heap.size<W.heap.size:=HX.out.lt;have hW0:Below W.heap.size W W.drew:=Below.drew br;have hkeep:Hid (∀ w1 w2,(fun w'=>Below W.heap.size W w'∧w'.cell? ⟨p,0,none⟩=some (.func (.func 204) #[] #[])∧w'.cell? ⟨q,0,none⟩=some (.string (Z9 n))∧w'.cell? ⟨w.heap.size,0,none⟩=some (.string (Z9 c.name))∧w'.cell? ⟨w.heap.size,1,none⟩=some (.int .i64 c.ZQ)∧w'.cell? ⟨w.heap.size,2,none⟩=some (.bool c.null)) w1→Below w1.heap.size w1 w2→(fun w'=>Below W.heap.size W w'∧w'.cell? ⟨p,0,none⟩=some (.func (.func 204) #[] #[])∧w'.cell? ⟨q,0,none⟩=some (.string (Z9 n))∧w'.cell? ⟨w.heap.size,0,none⟩=some (.string (Z9 c.name))∧w'.cell? ⟨w.heap.size,1,none⟩=some (.int .i64 c.ZQ)∧w'.cell? ⟨w.heap.size,2,none⟩=some (.bool c.null)) w2):=hid (by
  intro w1 w2 ⟨h1,_⟩ h2;have h3:Below W.heap.size W w2:=h1.trans (h2.mono h1.size);exact⟨h3,(h3.cell (by show p<_;omega)).trans a0,(h3.cell (by show q<_;omega)).trans a1,ct b0 h3 hz,ct b1 h3 hz,ct b2 h3 hz⟩)
 clear hW;go_region_held_law (fun w'=>Below W.heap.size W w'∧w'.cell? ⟨p,0,none⟩=some (.func (.func 204) #[] #[])∧w'.cell? ⟨q,0,none⟩=some (.string (Z9 n))∧w'.cell? ⟨w.heap.size,0,none⟩=some (.string (Z9 c.name))∧w'.cell? ⟨w.heap.size,1,none⟩=some (.int .i64 c.ZQ)∧w'.cell? ⟨w.heap.size,2,none⟩=some (.bool c.null))
  (first | exact hkeep.out _ _ (by assumption) (by assumption) | exact⟨hW0,a0,a1,b0,b1,b2⟩)
  (first | (go_at_call 204;refine(h _).mono ?_;rintro e w' ⟨rfl,hb⟩))
 rename_i hS;have HE:=bt HB hS.1;go_wp2;go_ret;exact⟨rfl,HE.out⟩
theorem XH (ds:List (List Da))(A:Option Addr)(k:Nat)(n:List UInt8)(w:World)(hA:ZV w (· < w.heap.size) Zl ds A)(hn:ds.length≤1099511627776):
  Calls Tryz.prog 203 #[.slice A ds.length k,.string (Z9 n),.func (.func 204) #[] #[]] w fun e w'=>e= .returned (.int .i64 (Zi (fun d=>tx d 0 == n) ds 0))∧Below w.heap.size w w':=by
 have HA:=hid hA;clear hA;go_enter Tryz.func203,Tryz.ntmps203
 go_wp2_with fail;refine TP w _ (br.alloc lr _ |>.alloc (by simp) _) fun HBx=> ?_
 refine(NK (fun d=>tx d 0 == n) 260 _ ds A k _ (enters_of Tryz.func260 (by kernel_rfl) rfl) ((HA.out.below HBx).Y6 (fun _ h=>Nat.lt_of_lt_of_le h HBx.size) fun _ _=>rfl) hn ?_).mono ?_
 ·intro W d vs hb _ hv;obtain⟨c,rfl,rfl⟩:=Cl.YN hv;have hN:ZP W w.heap.size 9 [.string (Z9 n)]:=((ZP.new w 9 [.string (Z9 n)]).alloc _).below hb (by simp;omega)
  have hO:ZP W (w.heap.size+1) 252 [.func (.func 204) #[] #[]]:=ZP.below (by simpa using ZP.new (w.alloc (.cells #[.string (Z9 n)] 9)) 252 [.func (.func 204) #[] #[]]) hb (by simp);exact TN c n (w.heap.size+1) w.heap.size W hO hN
 ·rintro e w2 ⟨rfl,hb⟩;have HE:=hid (HBx.trans (hb.mono HBx.size));go_wp2;go_ret;exact⟨rfl,HE.out⟩
theorem Rs (c:Sc)(w:World):Calls Tryz.prog 160 #[.agg #[.string (Z9 c.name),.string (Z9 c.ZL)]] w fun e w'=>e= .returned (.string (Z9 c.name))∧Below w.heap.size w w':=by
 go_enter Tryz.func160,Tryz.ntmps160
 go_wp2;go_ret;exact⟨rfl,br.alloc lr _⟩
theorem TM (c:Sc)(n:List UInt8)(p q:Nat)(w:World)(hp:ZP w p 212 [.func (.func 160) #[] #[]])(hq:ZP w q 9 [.string (Z9 n)]):
  Calls Tryz.prog 235 #[.agg #[.string (Z9 c.name),.string (Z9 c.ZL)],.pointer (some ⟨p,0,none⟩),.pointer (some ⟨q,0,none⟩)] w fun e w'=>e= .returned (.bool (c.name == n))∧Below w.heap.size w w':=by
 have h:=fun W=>Rs c W
 have hpl:=hp.lt;have hql:=hq.lt;have HP:=hid hp;have HQ:=hid hq;clear hp hq;go_enter Tryz.func235,Tryz.ntmps235
 go_wp2;refine Uv _ fun W hW=> ?_
 have HB:=bP hW;have HX:=nC hW;have a0:=cd (HP.out.below HB.out hpl) 0;have a1:=cd (HQ.out.below HB.out hql) 0;have b0:=ce HX 0;have b1:=ce HX 1;have hz:w.heap.size<W.heap.size:=HX.out.lt;have hW0:Below W.heap.size W W.drew:=Below.drew br;have hkeep:Hid (∀ w1 w2,(fun w'=>Below W.heap.size W w'∧w'.cell? ⟨p,0,none⟩=some (.func (.func 160) #[] #[])∧w'.cell? ⟨q,0,none⟩=some (.string (Z9 n))∧w'.cell? ⟨w.heap.size,0,none⟩=some (.string (Z9 c.name))∧w'.cell? ⟨w.heap.size,1,none⟩=some (.string (Z9 c.ZL))) w1→Below w1.heap.size w1 w2→(fun w'=>Below W.heap.size W w'∧w'.cell? ⟨p,0,none⟩=some (.func (.func 160) #[] #[])∧w'.cell? ⟨q,0,none⟩=some (.string (Z9 n))∧w'.cell? ⟨w.heap.size,0,none⟩=some (.string (Z9 c.name))∧w'.cell? ⟨w.heap.size,1,none⟩=some (.string (Z9 c.ZL))) w2):=hid (by
  intro w1 w2 ⟨h1,_⟩ h2;have h3:Below W.heap.size W w2:=h1.trans (h2.mono h1.size);exact⟨h3,(h3.cell (by show p<_;omega)).trans a0,(h3.cell (by show q<_;omega)).trans a1,ct b0 h3 hz,ct b1 h3 hz⟩)
 clear hW;go_region_held_law (fun w'=>Below W.heap.size W w'∧w'.cell? ⟨p,0,none⟩=some (.func (.func 160) #[] #[])∧w'.cell? ⟨q,0,none⟩=some (.string (Z9 n))∧w'.cell? ⟨w.heap.size,0,none⟩=some (.string (Z9 c.name))∧w'.cell? ⟨w.heap.size,1,none⟩=some (.string (Z9 c.ZL)))
  (first | exact hkeep.out _ _ (by assumption) (by assumption) | exact⟨hW0,a0,a1,b0,b1⟩)
  (first | (go_at_call 160;refine(h _).mono ?_;rintro e w' ⟨rfl,hb⟩))
 rename_i hS;have HE:=bt HB hS.1;go_wp2;go_ret;exact⟨rfl,HE.out⟩
theorem WK (ds:List (List Da))(A:Option Addr)(k:Nat)(n:List UInt8)(w:World)(hA:ZV w (· < w.heap.size) Zh ds A)(hn:ds.length≤1099511627776):
  Calls Tryz.prog 159 #[.slice A ds.length k,.string (Z9 n),.func (.func 160) #[] #[]] w fun e w'=>e= .returned (.int .i64 (Zi (fun d=>tx d 0 == n) ds 0))∧Below w.heap.size w w':=by
 have HA:=hid hA;clear hA;go_enter Tryz.func159,Tryz.ntmps159
 go_wp2_with fail;refine TP w _ (br.alloc lr _ |>.alloc (by simp) _) fun HBx=> ?_
 refine(Vk (fun d=>tx d 0 == n) 235 _ ds A k _ (enters_of Tryz.func235 (by kernel_rfl) rfl) ((HA.out.below HBx).Y6 (fun _ h=>Nat.lt_of_lt_of_le h HBx.size) fun _ _=>rfl) hn ?_).mono ?_
 ·intro W d vs hb _ hv;obtain⟨c,rfl,rfl⟩:=Sc.YN hv;have hN:ZP W w.heap.size 9 [.string (Z9 n)]:=((ZP.new w 9 [.string (Z9 n)]).alloc _).below hb (by simp;omega)
  have hO:ZP W (w.heap.size+1) 212 [.func (.func 160) #[] #[]]:=ZP.below (by simpa using ZP.new (w.alloc (.cells #[.string (Z9 n)] 9)) 212 [.func (.func 160) #[] #[]]) hb (by simp);exact TM c n (w.heap.size+1) w.heap.size W hO hN
 ·rintro e w2 ⟨rfl,hb⟩;have HE:=hid (HBx.trans (hb.mono HBx.size));go_wp2;go_ret;exact⟨rfl,HE.out⟩
theorem Pq (c:Ru)(A:Option Addr)(m:Nat)(w:World):Calls Tryz.prog 211 #[.agg #[.string (Z9 c.name),.int .i64 c.ZQ,.slice A c.ZX.length m,.int .i64 c.low,.int .i64 c.ZF,.string (Z9 c.Z8),.string (Z9 c.ZY),.string (Z9 c.key)]] w fun e w'=>e= .returned (.string (Z9 c.name))∧Below w.heap.size w w':=by
 go_enter Tryz.func211,Tryz.ntmps211
 go_wp2;go_ret;exact⟨rfl,br.alloc lr _⟩
theorem SD (c:Ru)(A:Option Addr)(m:Nat)(n:List UInt8)(p q:Nat)(w:World)(hp:ZP w p 256 [.func (.func 211) #[] #[]])(hq:ZP w q 9 [.string (Z9 n)]):
  Calls Tryz.prog 262 #[.agg #[.string (Z9 c.name),.int .i64 c.ZQ,.slice A c.ZX.length m,.int .i64 c.low,.int .i64 c.ZF,.string (Z9 c.Z8),.string (Z9 c.ZY),.string (Z9 c.key)],.pointer (some ⟨p,0,none⟩),.pointer (some ⟨q,0,none⟩)] w fun e w'=>e= .returned (.bool (c.name == n))∧Below w.heap.size w w':=by
 have h:=fun W=>Pq c A m W
 have hpl:=hp.lt;have hql:=hq.lt;have HP:=hid hp;have HQ:=hid hq;clear hp hq;go_enter Tryz.func262,Tryz.ntmps262
 go_wp2;refine Uv _ fun W hW=> ?_
 have HB:=bP hW;have HX:=nC hW;have a0:=cd (HP.out.below HB.out hpl) 0;have a1:=cd (HQ.out.below HB.out hql) 0;have b0:=ce HX 0;have b1:=ce HX 1;have b2:=ce HX 2;have b3:=ce HX 3;have b4:=ce HX 4;have b5:=ce HX 5;have b6:=ce HX 6;have b7:=ce HX 7;have hz:w.heap.size<W.heap.size:=HX.out.lt;have hW0:Below W.heap.size W W.drew:=Below.drew br;have hkeep:Hid (∀ w1 w2,(fun w'=>Below W.heap.size W w'∧w'.cell? ⟨p,0,none⟩=some (.func (.func 211) #[] #[])∧w'.cell? ⟨q,0,none⟩=some (.string (Z9 n))∧w'.cell? ⟨w.heap.size,0,none⟩=some (.string (Z9 c.name))∧w'.cell? ⟨w.heap.size,1,none⟩=some (.int .i64 c.ZQ)∧w'.cell? ⟨w.heap.size,2,none⟩=some (.slice A c.ZX.length m)∧w'.cell? ⟨w.heap.size,3,none⟩=some (.int .i64 c.low)∧w'.cell? ⟨w.heap.size,4,none⟩=some (.int .i64 c.ZF)∧w'.cell? ⟨w.heap.size,5,none⟩=some (.string (Z9 c.Z8))∧w'.cell? ⟨w.heap.size,6,none⟩=some (.string (Z9 c.ZY))∧w'.cell? ⟨w.heap.size,7,none⟩=some (.string (Z9 c.key))) w1→Below w1.heap.size w1 w2→(fun w'=>Below W.heap.size W w'∧w'.cell? ⟨p,0,none⟩=some (.func (.func 211) #[] #[])∧w'.cell? ⟨q,0,none⟩=some (.string (Z9 n))∧w'.cell? ⟨w.heap.size,0,none⟩=some (.string (Z9 c.name))∧w'.cell? ⟨w.heap.size,1,none⟩=some (.int .i64 c.ZQ)∧w'.cell? ⟨w.heap.size,2,none⟩=some (.slice A c.ZX.length m)∧w'.cell? ⟨w.heap.size,3,none⟩=some (.int .i64 c.low)∧w'.cell? ⟨w.heap.size,4,none⟩=some (.int .i64 c.ZF)∧w'.cell? ⟨w.heap.size,5,none⟩=some (.string (Z9 c.Z8))∧w'.cell? ⟨w.heap.size,6,none⟩=some (.string (Z9 c.ZY))∧w'.cell? ⟨w.heap.size,7,none⟩=some (.string (Z9 c.key))) w2):=hid (by
  intro w1 w2 ⟨h1,_⟩ h2;have h3:Below W.heap.size W w2:=h1.trans (h2.mono h1.size);exact⟨h3,(h3.cell (by show p<_;omega)).trans a0,(h3.cell (by show q<_;omega)).trans a1,ct b0 h3 hz,ct b1 h3 hz,ct b2 h3 hz,ct b3 h3 hz,ct b4 h3 hz,ct b5 h3 hz,ct b6 h3 hz,ct b7 h3 hz⟩)
 clear hW;go_region_held_law (fun w'=>Below W.heap.size W w'∧w'.cell? ⟨p,0,none⟩=some (.func (.func 211) #[] #[])∧w'.cell? ⟨q,0,none⟩=some (.string (Z9 n))∧w'.cell? ⟨w.heap.size,0,none⟩=some (.string (Z9 c.name))∧w'.cell? ⟨w.heap.size,1,none⟩=some (.int .i64 c.ZQ)∧w'.cell? ⟨w.heap.size,2,none⟩=some (.slice A c.ZX.length m)∧w'.cell? ⟨w.heap.size,3,none⟩=some (.int .i64 c.low)∧w'.cell? ⟨w.heap.size,4,none⟩=some (.int .i64 c.ZF)∧w'.cell? ⟨w.heap.size,5,none⟩=some (.string (Z9 c.Z8))∧w'.cell? ⟨w.heap.size,6,none⟩=some (.string (Z9 c.ZY))∧w'.cell? ⟨w.heap.size,7,none⟩=some (.string (Z9 c.key)))
  (first | exact hkeep.out _ _ (by assumption) (by assumption) | exact⟨hW0,a0,a1,b0,b1,b2,b3,b4,b5,b6,b7⟩)
  (first | (go_at_call 211;refine(h _).mono ?_;rintro e w' ⟨rfl,hb⟩))
 rename_i hS;have HE:=bt HB hS.1;go_wp2;go_ret;exact⟨rfl,HE.out⟩
theorem U4 (ds:List (List Da))(A:Option Addr)(k:Nat)(n:List UInt8)(w:World)(hA:ZV w (· < w.heap.size) Yx ds A)(hn:ds.length≤1099511627776):
  Calls Tryz.prog 210 #[.slice A ds.length k,.string (Z9 n),.func (.func 211) #[] #[]] w fun e w'=>e= .returned (.int .i64 (Zi (fun d=>tx d 0 == n) ds 0))∧Below w.heap.size w w':=by
 have HA:=hid hA;clear hA;go_enter Tryz.func210,Tryz.ntmps210
 go_wp2_with fail;refine TP w _ (br.alloc lr _ |>.alloc (by simp) _) fun HBx=> ?_
 refine(OG (fun d=>tx d 0 == n) 262 _ ds A k _ (enters_of Tryz.func262 (by kernel_rfl) rfl) ((HA.out.below HBx).Y6 (fun _ h=>Nat.lt_of_lt_of_le h HBx.size) fun _ _=>rfl) hn ?_).mono ?_
 ·intro W d vs hb _ hv;obtain⟨c,A',m,rfl,rfl,_⟩:=Ru.YN hv;have hN:ZP W w.heap.size 9 [.string (Z9 n)]:=((ZP.new w 9 [.string (Z9 n)]).alloc _).below hb (by simp;omega)
  have hO:ZP W (w.heap.size+1) 256 [.func (.func 211) #[] #[]]:=ZP.below (by simpa using ZP.new (w.alloc (.cells #[.string (Z9 n)] 9)) 256 [.func (.func 211) #[] #[]]) hb (by simp);exact SD c A' m n (w.heap.size+1) w.heap.size W hO hN
 ·rintro e w2 ⟨rfl,hb⟩;have HE:=hid (HBx.trans (hb.mono HBx.size));go_wp2;go_ret;exact⟨rfl,HE.out⟩
theorem below_drewN {B:Nat}{a w:World}(h:Below B a w)(m:Nat):Below B a (w.drewN m):=⟨h.os,h.tape,h.output,h.size,h.block⟩
def Ul (s n:List UInt8)(d:List Da):Bool:=tx d 0 == s && tx d 1 == n
theorem Nc (t:Tb)(A:Option Addr)(k:Nat)(B:Option Addr)(m:Nat)(s n:List UInt8)(p q:Nat)(w:World)(hp:ZP w p 9 [.string (Z9 s)])(hq:ZP w q 9 [.string (Z9 n)]):
  Calls Tryz.prog 118 #[.agg #[.string (Z9 t.Z8),.string (Z9 t.name),.string (Z9 t.ZL),.slice A t.ZX.length k,.slice B t.ZS.length m],.pointer (some ⟨p,0,none⟩),.pointer (some ⟨q,0,none⟩)] w fun e w'=>e= .returned (.bool (t.Z8 == s && t.name == n))∧Below w.heap.size w w':=by
 have hpl:=hp.lt;have hql:=hq.lt;have a0:w.cell? ⟨p,0,none⟩=some (.string (Z9 s)):=hp.cell 0;have a1:w.cell? ⟨q,0,none⟩=some (.string (Z9 n)):=hq.cell 0;clear hp hq
 cases h:(t.Z8 == s)
 ·go_enter Tryz.func118,Tryz.ntmps118
  go_wp2;go_ret;exact⟨rfl,br.alloc lr _⟩
 ·go_enter Tryz.func118,Tryz.ntmps118
  go_wp2;go_ret;exact⟨rfl,br.alloc lr _⟩
theorem Uk (c:Cl)(w:World):
  Calls Tryz.prog 202 #[.agg #[.string (Z9 c.name),.int .i64 c.ZQ,.bool c.null]] w fun e w'=>e= .returned (.bool (Vi c))∧Below w.heap.size w w':=by
 have h:=fun W=>YL c.name W
 have HM:Hid (Vi c=(Zr c.name && (c.ZQ == 2 || c.ZQ == 3))):=hid rfl;generalize Vi c=r at*;generalize Zr c.name=b at*
 cases b
 ·go_enter Tryz.func202,Tryz.ntmps202
  go_wp2_with fail;refine(h _).mono ?_
  rintro e w' ⟨rfl,m,rfl⟩;go_wp2;go_ret;exact⟨by rw [HM.out];rfl,below_drewN (br.alloc lr _) m⟩
 ·cases h2:(c.ZQ == 2) <;> cases h3:(c.ZQ == 3)
  all_goals
   rw [h2,h3] at HM;go_enter Tryz.func202,Tryz.ntmps202
   go_wp2_with fail;refine(h _).mono ?_
   rintro e w' ⟨rfl,m,rfl⟩;go_wp2;go_ret;exact⟨by rw [HM.out];rfl,below_drewN (br.alloc lr _) m⟩
theorem Vt (ds ts:List (List Da))(A:Option Addr)(k:Nat)(B:Option Addr)(m:Nat)(s n:List UInt8)(w:World)(hB:ZV w (· < w.heap.size) Zt ts B)(hn:ts.length≤1099511627776):
  Calls Tryz.prog 57 #[.agg #[.slice A ds.length k,.slice B ts.length m],.string (Z9 s),.string (Z9 n)] w fun e w'=>e= .returned (.tuple #[.int .i64 (Zi (Ul s n) ts 0),.bool (ts.any (Ul s n))])∧Below w.heap.size w w':=by
 have HB:=hid hB;have HD:=hid (WZ (Ul s n) ts);clear hB;go_enter Tryz.func57,Tryz.ntmps57
 go_wp2_with fail;refine TP w _ ((br.alloc lr _ |>.alloc (by simp) _).alloc (by simp;omega) _) fun HBx=> ?_
 refine(S9 (Ul s n) 118 _ ts B m _ (enters_of Tryz.func118 (by kernel_rfl) rfl) ((HB.out.below HBx).Y6 (fun _ h=>Nat.lt_of_lt_of_le h HBx.size) fun _ _=>rfl) hn ?_).mono ?_
 ·intro W d vs hb _ hv;obtain⟨t,A',k',B',m',rfl,rfl,_⟩:=Tb.YN hv;refine Nc t A' k' B' m' s n (w.heap.size+1) (w.heap.size+1+1) W (ZP.below ?_ hb (by simp)) (ZP.below ?_ hb (by simp))
  ·exact ZP.alloc (by simpa using ZP.new (w.alloc (.cells #[.slice A ds.length k,.slice B ts.length m] 26)) 9 [.string (Z9 s)]) _
  ·simpa using ZP.new ((w.alloc (.cells #[.slice A ds.length k,.slice B ts.length m] 26)).alloc (.cells #[.string (Z9 s)] 9)) 9 [.string (Z9 n)]
 ·rintro e w2 ⟨rfl,hb⟩;have HE:=hid (HBx.trans (hb.mono HBx.size));go_wp2;go_ret2;exact⟨by rw [←HD.out];rfl,HE.out⟩
theorem OY {α:Type}(p:α→Bool)(l:List α)(j:Nat)(h:j<l.length):(l.take (j+1)).countP p=(l.take j).countP p+if p l[j]=true then 1 else 0:=by
 rw [List.take_succ_eq_append_getElem h,List.countP_append];simp [List.countP_cons]
theorem RY {α:Type}(p:α→Bool)(l:List α)(j:Nat):(l.take j).countP p≤l.length:=Nat.le_trans List.countP_le_length (by simp;omega)
theorem TY (ds ts:List (List Da))(A:Option Addr)(k:Nat)(B:Option Addr)(m:Nat)(s:List UInt8)(w:World)(hB:ZV w (· < w.heap.size) Zt ts B)(hn:ts.length≤1099511627776):
  Calls Tryz.prog 108 #[.agg #[.slice A ds.length k,.slice B ts.length m],.string (Z9 s)] w fun e w'=>e= .returned (.int .i64 (ts.countP fun d=>tx d 0 == s))∧Below w.heap.size w w':=by
 have HB:=hid hB;have HI:=iN 73 5;clear hB;go_enter Tryz.func108,Tryz.ntmps108
 go_wp2;go_loopw [5,11] (fun n i wr=> ∃ j:Nat,j≤ts.length∧i= .int .i64 j∧n= .int .i64 ((ts.take j).countP fun d=>tx d 0 == s)∧Hid (Below w.heap.size w wr)) (fun _ i _=>ts.length - (intOf i).toNat)
 case atStart=>exact⟨0,Nat.zero_le _,rfl,by simp,hid (br.alloc lr _)⟩
 case round=>
  obtain⟨j,hj,rfl,rfl,HBw⟩:=hrel;by_cases hlt:j<ts.length
  ·obtain⟨ad,vs,rfl,hv,hr⟩:=(HB.out.below HBw.out).at_ hlt;have HC:Hid ((ts.take (j+1)).countP (fun d=>tx d 0 == s)=(ts.take j).countP (fun d=>tx d 0 == s)+if(tx ts[j] 0 == s)=true then 1 else 0):=hid (OY (fun d=>tx d 0 == s) ts j hlt);have hle:=RY (fun d=>tx d 0 == s) ts j;generalize ts[j]=d at*;obtain⟨t,A',k',B',m',rfl,rfl,_⟩:=Tb.YN hv;have HG:Hid (∀ i u,(t.cs A' k' B' m')[i]?=some u→wr.cell? ((ad.add (j*5)).add i)=some u):=hid fun i u hu=>by rw [ZG];exact hr i u hu
   clear hv hr;generalize (ts.take j).countP (fun d=>tx d 0 == s)=x at*;have hx:(tx t.da 0 == s)=(t.Z8 == s):=rfl;rw [hx] at HC;unfold Tb.cs at HG;have HL:Hid ((Tryz.prog.info? 73).map (·.size)=some ([.string (Z9 t.Z8),.string (Z9 t.name),.string (Z9 t.ZL),.slice A' t.ZX.length k',.slice B' t.ZS.length m']:List Value).length):=HI
   cases h:(t.Z8 == s)
   ·rw [h] at HC;have HC':Hid ((ts.take (j+1)).countP (fun d=>tx d 0 == s)=x):=hid HC.out;go_wp2_with (first | (with_reducible refine ZI rfl 73 _ rfl (ad.add (j*5)) rfl [.string (Z9 t.Z8),.string (Z9 t.name),.string (Z9 t.ZL),.slice A' t.ZX.length k',.slice B' t.ZS.length m'] _ HG.out Tryz.underlying73 rfl HL.out ?_) | fail);go_roundw
    case rel=>exact⟨j+1,by omega,by go_num,by rw [HC'.out],hid (HBw.out.alloc (HBw.out.size) _)⟩
    case measure=>simp [intOf];omega
   ·rw [h] at HC;have HC':Hid ((ts.take (j+1)).countP (fun d=>tx d 0 == s)=x+1):=hid HC.out;go_wp2_with (first | (with_reducible refine ZI rfl 73 _ rfl (ad.add (j*5)) rfl [.string (Z9 t.Z8),.string (Z9 t.name),.string (Z9 t.ZL),.slice A' t.ZX.length k',.slice B' t.ZS.length m'] _ HG.out Tryz.underlying73 rfl HL.out ?_) | fail);go_roundw
    case rel=>exact⟨j+1,by omega,by go_num,by rw [HC'.out];go_num,hid (HBw.out.alloc (HBw.out.size) _)⟩
    case measure=>simp [intOf];omega
  ·obtain rfl:j=ts.length:=by omega
   rw [List.take_length];go_wp2;go_ret;exact⟨rfl,HBw.out⟩
theorem Zm {P:Program}{f:FuncId}{args:Array Value}{Q:Ending→World→Prop}(wX:World)(k: ∀ W,W=wX→Calls P f args W Q):Calls P f args wX Q:=k _ rfl
theorem VC {α β:Type}(p:β→Bool)(f:α→β): ∀ (l:List α)(n:Nat),Zi p (l.map f) n=Zi (fun x=>p (f x)) l n
 | [],n=>rfl
 | c ::r,n=>by
  simp only [List.map_cons,Zi];rw [VC p f r (n+1)]
theorem Xz (l:List Cl)(n:List UInt8):Zi (fun d=>tx d 0 == n) (l.map Cl.da) 0=Xe (XJ l n):=by
 rw [VC,VO];rfl
theorem Cl.YO {w:World}{S:Nat→Prop}{c:Cl}{vs:List Value}(h:ZH w S Zl c.da vs):vs=c.cs:=by
 obtain⟨s,h1,rfl⟩:=Cl.YN h
 cases c
 cases s
 simp [Cl.da] at h1;obtain⟨rfl,rfl,rfl⟩:=h1;rfl
theorem LP (o:Option Nat)(j:Nat):(o == some j)=decide (Xe o=(j:Int)):=by
 cases o with
 | none=>simp [Xe]
 | some i=>
  show (i == j)=decide ((i:Int)=(j:Int))
  by_cases h:i=j
  ·subst h;simp
  ·have h': ¬ (i:Int)=(j:Int):=by omega
   simp [h,h']
theorem UW (l:List Cl)(A:Option Addr)(k:Nat)(w:World)(hA:ZV w (· < w.heap.size) Zl (l.map Cl.da) A)(hn:l.length≤1099511627776):
  Calls Tryz.prog 158 #[.slice A l.length k] w fun e w'=>e= .returned (.bool (Yb l))∧Below w.heap.size w w':=by
 have HA:=hid hA;clear hA;by_cases h1:l.length<1
 ·have HR:Hid (Yb l=false):=hid (by unfold Yb;rw [decide_eq_false (by omega)];rfl);have h1':(l.length:Int)<1:=by omega
  go_enter Tryz.func158,Tryz.ntmps158
  go_wp2;go_ret;exact⟨by rw [HR.out];rfl,Below.refl _ _⟩
 by_cases h2:l.length > 8
 ·have HR:Hid (Yb l=false):=hid (by unfold Yb;rw [decide_eq_true (show 1≤l.length by omega),decide_eq_false (show ¬ l.length≤8 by omega)];rfl);have h1': ¬ (l.length:Int)<1:=by omega
  have h2':(l.length:Int) > 8:=by omega
  go_enter Tryz.func158,Tryz.ntmps158
  go_wp2;go_ret;exact⟨by rw [HR.out];rfl,Below.refl _ _⟩
 have HR:Hid (Yb l=Xj l 0 l):=hid (by unfold Yb;rw [decide_eq_true (show 1≤l.length by omega),decide_eq_true (show l.length≤8 by omega)];rfl);have h1': ¬ (l.length:Int)<1:=by omega
 have h2': ¬ (l.length:Int) > 8:=by omega
 have HI:=iN 119 3;go_enter Tryz.func158,Tryz.ntmps158
 go_wp2;go_loopw [15] (fun i wr=> ∃ j:Nat,j≤l.length∧i= .int .i64 j∧Hid (Yb l=Xj l j (l.drop j))∧Hid (Below w.heap.size w wr)) (fun i _=>l.length - (intOf i).toNat)
 case atStart=>exact⟨0,Nat.zero_le _,rfl,hid (by rw [List.drop_zero];exact HR.out),hid br⟩
 case round=>
  obtain⟨j,hj,rfl,HE,HBw⟩:=hrel;by_cases hlt:j<l.length
  ·obtain⟨ad,vs,rfl,hv,hr⟩:=(HA.out.below HBw.out).at_ (j:=j) (by simpa using hlt);rw [List.getElem_map] at hv;have HX:Hid (Yb l=(Vi l[j] && XJ l l[j].name == some j && Xj l (j+1) (l.drop (j+1)))):=hid (by rw [HE.out,List.drop_eq_getElem_cons hlt];rfl)
   generalize l[j]=c at*;obtain rfl:=Cl.YO hv;have HG:Hid (∀ i u,c.cs[i]?=some u→wr.cell? ((ad.add (j*3)).add i)=some u):=hid fun i u hu=>by rw [ZG];exact hr i u hu
   clear hv hr;unfold Cl.cs at HG;have HL:Hid ((Tryz.prog.info? 119).map (·.size)=some ([.string (Z9 c.name),.int .i64 c.ZQ,.bool c.null]:List Value).length):=HI;go_wp2_with (first | (with_reducible refine ZI rfl 119 _ rfl (ad.add (j*3)) rfl [.string (Z9 c.name),.int .i64 c.ZQ,.bool c.null] _ HG.out Tryz.underlying119 rfl HL.out ?_) | fail);refine Zm _ fun W hW=> ?_
   have HB1:=rL hW (HBw.out.alloc HBw.out.size _);have HX1:=nC hW;clear hW;refine(Uk c W).mono ?_
   rintro e w1 ⟨rfl,hb⟩;have HB2:=bt HB1 hb;have HX2:=bl HX1 hb;clear HB1 HX1 hb
   cases hm:Vi c
   ·rw [hm] at HX;have HX':Hid (Yb l=false):=hid HX.out;go_wp2;go_ret;exact⟨by rw [HX'.out];rfl,HB2.out⟩
   ·rw [hm,LP] at HX;have a0:=ce HX2 0;go_wp2_with fail;have cB:=XH (l.map Cl.da) (some ad) k c.name w1 ((HA.out.below HB2.out).Y6 (fun _ h=>Nat.lt_of_lt_of_le h HB2.out.size) fun _ _=>rfl) (by simpa using hn);rw [List.length_map,Xz] at cB;refine cB.mono ?_
    rintro e w2 ⟨rfl,hb⟩;have HB3:=bt HB2 hb;clear hb cB;generalize Xe (XJ l c.name)=r at*;by_cases hr:r=j
    ·subst hr;have HX':Hid (Yb l=Xj l (j+1) (l.drop (j+1))):=hid (by rw [HX.out];simp)
     go_wp2;go_roundw
     case rel=>exact⟨j+1,by omega,by go_num,HX',HB3⟩
     case measure=>simp [intOf];omega
    ·have HX':Hid (Yb l=false):=hid (by rw [HX.out];simp [hr]);have hr':(r ==(j:Int))=false:=by simpa using hr
     go_wp2;go_ret;exact⟨by rw [HX'.out];rfl,HB3.out⟩
  ·obtain rfl:j=l.length:=by omega
   rw [List.drop_length] at HE;go_wp2;go_ret;exact⟨by rw [HE.out];rfl,HBw.out⟩
end Go.Proofs.YtnhmoibjlakhjaaGreat
namespace Go.Proofs.YtnhmoibjlakhjaaGreat
set_option maxRecDepth 100000
set_option maxHeartbeats 16000000
open Go.RowKit
theorem OE (l:List Cl)(ns:List (List UInt8))(j:Nat)(h:j<ns.length):YE l (ns.take (j+1))=YE l (ns.take j) ++ (VW l ns[j]).toList:=by
 unfold YE;rw [List.take_succ_eq_append_getElem h,List.filterMap_append]
 cases hk:VW l ns[j] <;> simp [List.filterMap_cons,hk]
theorem Qs (l:List Cl)(n:List UInt8){i:Nat}(h:XJ l n=some i): ∃ hi:i<l.length,VW l n=some l[i].ZQ:=by
 unfold XJ at h;rw [List.findIdx?_eq_some_iff_getElem] at h;obtain⟨hi,h1,h2⟩:=h;refine⟨hi,?_⟩
 unfold VW;have:l.find? (fun c=>c.name == n)=some l[i]:=by
  rw [List.find?_eq_some_iff_getElem];exact⟨h1,i,hi,rfl,fun j hj=>by simpa using h2 j hj⟩
 rw [this];rfl
theorem OF (l:List Cl)(n:List UInt8)(h:XJ l n=none):VW l n=none:=by
 unfold XJ at h;rw [List.findIdx?_eq_none_iff] at h;unfold VW;rw [List.find?_eq_none.2 (fun x hx=>by simpa using h x hx)];rfl
end Go.Proofs.YtnhmoibjlakhjaaGreat
