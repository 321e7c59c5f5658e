/- Lemmas, each under its own conditions. -/
import Derived.Test.YtnhmoibjlakhjaaGreatW13
import Derived.Deep.RegionHeldLaw
set_option linter.all false
namespace Go.Proofs.YtnhmoibjlakhjaaGreat
open Go.Proofs.Tryz
open Lib (hid)
set_option maxRecDepth 100000
set_option maxHeartbeats 16000000
open Go.RowKit
theorem Wh {P:Program}{c:Code}{Q:Exit->Act->World->Prop}{a:Act}(d:World)(k: ∀ W,W=d->c.wp P Q a W):c.wp P Q a d:=k _ rfl
def tx (d:List Da)(i:Nat):List UInt8:=match d[i]? with
 | some (.Z2 b)=>b
 | _=> []
theorem PM (c:Cl)(w:World):Calls prog 204 #[.agg #[.string (Z2 c.name),.int .i64 c.ZV,.bool c.null]] w fun e w'=>e= .returned (.string (Z2 c.name))/\Below w.heap.size w w':=by
 go_enter func204,ntmps204
 go_wp2;go_ret;exact⟨rfl,br.alloc lr _⟩
theorem Ss (c:Cl)(n:List UInt8)(p q:Nat)(w:World)(D:ZP w p 252 [.func (.func 204) #[] #[]])(E:ZP w q 9 [.string (Z2 n)]):
  Calls prog 260 #[.agg #[.string (Z2 c.name),.int .i64 c.ZV,.bool c.null],.pointer (some ⟨p,0,none⟩),.pointer (some ⟨q,0,none⟩)] w fun e w'=>e= .returned (.bool (c.name == n))/\Below w.heap.size w w':=by
 have h:=fun W=>PM c W
 have N:=D.lt;have O:=E.lt;have U:=hid D;have V:=hid E;clear D E;go_enter func260,ntmps260
 go_wp2;refine Wh _ fun W C=> ?_
 have u:=bP C;have j:=nC C;have a0:=cd (U.out.below u.out N) 0;have a1:=cd (V.out.below u.out O) 0;have G:=ce j 0;have I:=ce j 1;have J:=ce j 2;have F:w.heap.size<W.heap.size:=j.out.lt;have M:Below W.heap.size W W.drew:=Below.drew br;have L:Hid (∀ m s,(fun w'=>Below W.heap.size W w'/\w'.cell? ⟨p,0,none⟩=some (.func (.func 204) #[] #[])/\w'.cell? ⟨q,0,none⟩=some (.string (Z2 n))/\w'.cell? ⟨w.heap.size,0,none⟩=some (.string (Z2 c.name))/\w'.cell? ⟨w.heap.size,1,none⟩=some (.int .i64 c.ZV)/\w'.cell? ⟨w.heap.size,2,none⟩=some (.bool c.null)) m->Below m.heap.size m s->(fun w'=>Below W.heap.size W w'/\w'.cell? ⟨p,0,none⟩=some (.func (.func 204) #[] #[])/\w'.cell? ⟨q,0,none⟩=some (.string (Z2 n))/\w'.cell? ⟨w.heap.size,0,none⟩=some (.string (Z2 c.name))/\w'.cell? ⟨w.heap.size,1,none⟩=some (.int .i64 c.ZV)/\w'.cell? ⟨w.heap.size,2,none⟩=some (.bool c.null)) s):=hid (by
  intro m s ⟨K,_⟩ Z;have d:Below W.heap.size W s:=K.trans (Z.mono K.size);exact⟨d,(d.cell (by show p<_;omega)).trans a0,(d.cell (by show q<_;omega)).trans a1,ct G d F,ct I d F,ct J d F⟩)
 clear C;go_region_held_law (fun w'=>Below W.heap.size W w'/\w'.cell? ⟨p,0,none⟩=some (.func (.func 204) #[] #[])/\w'.cell? ⟨q,0,none⟩=some (.string (Z2 n))/\w'.cell? ⟨w.heap.size,0,none⟩=some (.string (Z2 c.name))/\w'.cell? ⟨w.heap.size,1,none⟩=some (.int .i64 c.ZV)/\w'.cell? ⟨w.heap.size,2,none⟩=some (.bool c.null))
  (first | exact L.out _ _ (by assumption) (by assumption) | exact⟨M,a0,a1,G,I,J⟩)
  (first | (go_at_call 204;refine(h _).mono ?_;rintro e w' ⟨rfl,hb⟩))
 rename_i hS;have T:=bt u hS.1;go_wp2;go_ret;exact⟨rfl,T.out⟩
theorem Xl (ds:List (List Da))(A:Option Addr)(k:Nat)(n:List UInt8)(w:World)(m:ZT w (· < w.heap.size) Zz ds A)(E:ds.length<=1099511627776):
  Calls prog 203 #[.slice A ds.length k,.string (Z2 n),.func (.func 204) #[] #[]] w fun e w'=>e= .returned (.int .i64 (Zd (fun d=>tx d 0 == n) ds 0))/\Below w.heap.size w w':=by
 have s:=hid m;clear m;go_enter func203,ntmps203
 go_wp2_with fail;refine TS w _ (br.alloc lr _ |>.alloc (by simp) _) fun j=> ?_
 refine(Ui (fun d=>tx d 0 == n) 260 _ ds A k _ (enters_of func260 (by kernel_rfl) rfl) ((s.out.below j).YW (fun _ h=>Nat.lt_of_lt_of_le h j.size) fun _ _=>rfl) E ?_).mono ?_
 ·intro W d G hb _ F;obtain⟨c,rfl,rfl⟩:=Cl.YG F;have C:ZP W w.heap.size 9 [.string (Z2 n)]:=((ZP.new w 9 [.string (Z2 n)]).alloc _).below hb (by simp;omega)
  have D:ZP W (w.heap.size+1) 252 [.func (.func 204) #[] #[]]:=ZP.below (by simpa using ZP.new (w.alloc (.cells #[.string (Z2 n)] 9)) 252 [.func (.func 204) #[] #[]]) hb (by simp);exact Ss c n (w.heap.size+1) w.heap.size W D C
 ·rintro e I ⟨rfl,hb⟩;have u:=hid (j.trans (hb.mono j.size));go_wp2;go_ret;exact⟨rfl,u.out⟩
theorem OS (c:Sc)(w:World):Calls prog 160 #[.agg #[.string (Z2 c.name),.string (Z2 c.ZN)]] w fun e w'=>e= .returned (.string (Z2 c.name))/\Below w.heap.size w w':=by
 go_enter func160,ntmps160
 go_wp2;go_ret;exact⟨rfl,br.alloc lr _⟩
theorem Sr (c:Sc)(n:List UInt8)(p q:Nat)(w:World)(D:ZP w p 212 [.func (.func 160) #[] #[]])(E:ZP w q 9 [.string (Z2 n)]):
  Calls prog 235 #[.agg #[.string (Z2 c.name),.string (Z2 c.ZN)],.pointer (some ⟨p,0,none⟩),.pointer (some ⟨q,0,none⟩)] w fun e w'=>e= .returned (.bool (c.name == n))/\Below w.heap.size w w':=by
 have h:=fun W=>OS c W
 have M:=D.lt;have N:=E.lt;have T:=hid D;have U:=hid E;clear D E;go_enter func235,ntmps235
 go_wp2;refine Wh _ fun W C=> ?_
 have s:=bP C;have u:=nC C;have a0:=cd (T.out.below s.out M) 0;have a1:=cd (U.out.below s.out N) 0;have F:=ce u 0;have G:=ce u 1;have J:w.heap.size<W.heap.size:=u.out.lt;have L:Below W.heap.size W W.drew:=Below.drew br;have K:Hid (∀ j m,(fun w'=>Below W.heap.size W w'/\w'.cell? ⟨p,0,none⟩=some (.func (.func 160) #[] #[])/\w'.cell? ⟨q,0,none⟩=some (.string (Z2 n))/\w'.cell? ⟨w.heap.size,0,none⟩=some (.string (Z2 c.name))/\w'.cell? ⟨w.heap.size,1,none⟩=some (.string (Z2 c.ZN))) j->Below j.heap.size j m->(fun w'=>Below W.heap.size W w'/\w'.cell? ⟨p,0,none⟩=some (.func (.func 160) #[] #[])/\w'.cell? ⟨q,0,none⟩=some (.string (Z2 n))/\w'.cell? ⟨w.heap.size,0,none⟩=some (.string (Z2 c.name))/\w'.cell? ⟨w.heap.size,1,none⟩=some (.string (Z2 c.ZN))) m):=hid (by
  intro j m ⟨I,_⟩ V;have d:Below W.heap.size W m:=I.trans (V.mono I.size);exact⟨d,(d.cell (by show p<_;omega)).trans a0,(d.cell (by show q<_;omega)).trans a1,ct F d J,ct G d J⟩)
 clear C;go_region_held_law (fun w'=>Below W.heap.size W w'/\w'.cell? ⟨p,0,none⟩=some (.func (.func 160) #[] #[])/\w'.cell? ⟨q,0,none⟩=some (.string (Z2 n))/\w'.cell? ⟨w.heap.size,0,none⟩=some (.string (Z2 c.name))/\w'.cell? ⟨w.heap.size,1,none⟩=some (.string (Z2 c.ZN)))
  (first | exact K.out _ _ (by assumption) (by assumption) | exact⟨L,a0,a1,F,G⟩)
  (first | (go_at_call 160;refine(h _).mono ?_;rintro e w' ⟨rfl,hb⟩))
 rename_i Z;have O:=bt s Z.1;go_wp2;go_ret;exact⟨rfl,O.out⟩
theorem VO (ds:List (List Da))(A:Option Addr)(k:Nat)(n:List UInt8)(w:World)(m:ZT w (· < w.heap.size) Ze ds A)(E:ds.length<=1099511627776):
  Calls prog 159 #[.slice A ds.length k,.string (Z2 n),.func (.func 160) #[] #[]] w fun e w'=>e= .returned (.int .i64 (Zd (fun d=>tx d 0 == n) ds 0))/\Below w.heap.size w w':=by
 have s:=hid m;clear m;go_enter func159,ntmps159
 go_wp2_with fail;refine TS w _ (br.alloc lr _ |>.alloc (by simp) _) fun j=> ?_
 refine(Uh (fun d=>tx d 0 == n) 235 _ ds A k _ (enters_of func235 (by kernel_rfl) rfl) ((s.out.below j).YW (fun _ h=>Nat.lt_of_lt_of_le h j.size) fun _ _=>rfl) E ?_).mono ?_
 ·intro W d G hb _ F;obtain⟨c,rfl,rfl⟩:=Sc.YG F;have C:ZP W w.heap.size 9 [.string (Z2 n)]:=((ZP.new w 9 [.string (Z2 n)]).alloc _).below hb (by simp;omega)
  have D:ZP W (w.heap.size+1) 212 [.func (.func 160) #[] #[]]:=ZP.below (by simpa using ZP.new (w.alloc (.cells #[.string (Z2 n)] 9)) 212 [.func (.func 160) #[] #[]]) hb (by simp);exact Sr c n (w.heap.size+1) w.heap.size W D C
 ·rintro e I ⟨rfl,hb⟩;have u:=hid (j.trans (hb.mono j.size));go_wp2;go_ret;exact⟨rfl,u.out⟩
theorem MP (c:Ru)(A:Option Addr)(m:Nat)(w:World):Calls prog 211 #[.agg #[.string (Z2 c.name),.int .i64 c.ZV,.slice A c.Z3.length m,.int .i64 c.low,.int .i64 c.ZB,.string (Z2 c.Z9),.string (Z2 c.ZZ),.string (Z2 c.key)]] w fun e w'=>e= .returned (.string (Z2 c.name))/\Below w.heap.size w w':=by
 go_enter func211,ntmps211
 go_wp2;go_ret;exact⟨rfl,br.alloc lr _⟩
theorem QD (c:Ru)(A:Option Addr)(m:Nat)(n:List UInt8)(p q:Nat)(w:World)(F:ZP w p 256 [.func (.func 211) #[] #[]])(G:ZP w q 9 [.string (Z2 n)]):
  Calls prog 262 #[.agg #[.string (Z2 c.name),.int .i64 c.ZV,.slice A c.Z3.length m,.int .i64 c.low,.int .i64 c.ZB,.string (Z2 c.Z9),.string (Z2 c.ZZ),.string (Z2 c.key)],.pointer (some ⟨p,0,none⟩),.pointer (some ⟨q,0,none⟩)] w fun e w'=>e= .returned (.bool (c.name == n))/\Below w.heap.size w w':=by
 have h:=fun W=>MP c A m W
 have aa:=F.lt;have ab:=G.lt;have HP:=hid F;have HQ:=hid G;clear F G;go_enter func262,ntmps262
 go_wp2;refine Wh _ fun W E=> ?_
 have D:=bP E;have j:=nC E;have a0:=cd (HP.out.below D.out aa) 0;have a1:=cd (HQ.out.below D.out ab) 0;have I:=ce j 0;have J:=ce j 1;have K:=ce j 2;have L:=ce j 3;have M:=ce j 4;have N:=ce j 5;have O:=ce j 6;have T:=ce j 7;have s:w.heap.size<W.heap.size:=j.out.lt;have Z:Below W.heap.size W W.drew:=Below.drew br;have V:Hid (∀ u C,(fun w'=>Below W.heap.size W w'/\w'.cell? ⟨p,0,none⟩=some (.func (.func 211) #[] #[])/\w'.cell? ⟨q,0,none⟩=some (.string (Z2 n))/\w'.cell? ⟨w.heap.size,0,none⟩=some (.string (Z2 c.name))/\w'.cell? ⟨w.heap.size,1,none⟩=some (.int .i64 c.ZV)/\w'.cell? ⟨w.heap.size,2,none⟩=some (.slice A c.Z3.length m)/\w'.cell? ⟨w.heap.size,3,none⟩=some (.int .i64 c.low)/\w'.cell? ⟨w.heap.size,4,none⟩=some (.int .i64 c.ZB)/\w'.cell? ⟨w.heap.size,5,none⟩=some (.string (Z2 c.Z9))/\w'.cell? ⟨w.heap.size,6,none⟩=some (.string (Z2 c.ZZ))/\w'.cell? ⟨w.heap.size,7,none⟩=some (.string (Z2 c.key))) u->Below u.heap.size u C->(fun w'=>Below W.heap.size W w'/\w'.cell? ⟨p,0,none⟩=some (.func (.func 211) #[] #[])/\w'.cell? ⟨q,0,none⟩=some (.string (Z2 n))/\w'.cell? ⟨w.heap.size,0,none⟩=some (.string (Z2 c.name))/\w'.cell? ⟨w.heap.size,1,none⟩=some (.int .i64 c.ZV)/\w'.cell? ⟨w.heap.size,2,none⟩=some (.slice A c.Z3.length m)/\w'.cell? ⟨w.heap.size,3,none⟩=some (.int .i64 c.low)/\w'.cell? ⟨w.heap.size,4,none⟩=some (.int .i64 c.ZB)/\w'.cell? ⟨w.heap.size,5,none⟩=some (.string (Z2 c.Z9))/\w'.cell? ⟨w.heap.size,6,none⟩=some (.string (Z2 c.ZZ))/\w'.cell? ⟨w.heap.size,7,none⟩=some (.string (Z2 c.key))) C):=hid (by
  intro u C ⟨U,_⟩ h2;have d:Below W.heap.size W C:=U.trans (h2.mono U.size);exact⟨d,(d.cell (by show p<_;omega)).trans a0,(d.cell (by show q<_;omega)).trans a1,ct I d s,ct J d s,ct K d s,ct L d s,ct M d s,ct N d s,ct O d s,ct T d s⟩)
 clear E;go_region_held_law (fun w'=>Below W.heap.size W w'/\w'.cell? ⟨p,0,none⟩=some (.func (.func 211) #[] #[])/\w'.cell? ⟨q,0,none⟩=some (.string (Z2 n))/\w'.cell? ⟨w.heap.size,0,none⟩=some (.string (Z2 c.name))/\w'.cell? ⟨w.heap.size,1,none⟩=some (.int .i64 c.ZV)/\w'.cell? ⟨w.heap.size,2,none⟩=some (.slice A c.Z3.length m)/\w'.cell? ⟨w.heap.size,3,none⟩=some (.int .i64 c.low)/\w'.cell? ⟨w.heap.size,4,none⟩=some (.int .i64 c.ZB)/\w'.cell? ⟨w.heap.size,5,none⟩=some (.string (Z2 c.Z9))/\w'.cell? ⟨w.heap.size,6,none⟩=some (.string (Z2 c.ZZ))/\w'.cell? ⟨w.heap.size,7,none⟩=some (.string (Z2 c.key)))
  (first | exact V.out _ _ (by assumption) (by assumption) | exact⟨Z,a0,a1,I,J,K,L,M,N,O,T⟩)
  (first | (go_at_call 211;refine(h _).mono ?_;rintro e w' ⟨rfl,hb⟩))
 rename_i hS;have HE:=bt D hS.1;go_wp2;go_ret;exact⟨rfl,HE.out⟩
theorem TQ (ds:List (List Da))(A:Option Addr)(k:Nat)(n:List UInt8)(w:World)(s:ZT w (· < w.heap.size) YF ds A)(G:ds.length<=1099511627776):
  Calls prog 210 #[.slice A ds.length k,.string (Z2 n),.func (.func 211) #[] #[]] w fun e w'=>e= .returned (.int .i64 (Zd (fun d=>tx d 0 == n) ds 0))/\Below w.heap.size w w':=by
 have C:=hid s;clear s;go_enter func210,ntmps210
 go_wp2_with fail;refine TS w _ (br.alloc lr _ |>.alloc (by simp) _) fun j=> ?_
 refine(LP (fun d=>tx d 0 == n) 262 _ ds A k _ (enters_of func262 (by kernel_rfl) rfl) ((C.out.below j).YW (fun _ h=>Nat.lt_of_lt_of_le h j.size) fun _ _=>rfl) G ?_).mono ?_
 ·intro W d J hb _ I;obtain⟨c,u,m,rfl,rfl,_⟩:=Ru.YG I;have E:ZP W w.heap.size 9 [.string (Z2 n)]:=((ZP.new w 9 [.string (Z2 n)]).alloc _).below hb (by simp;omega)
  have F:ZP W (w.heap.size+1) 256 [.func (.func 211) #[] #[]]:=ZP.below (by simpa using ZP.new (w.alloc (.cells #[.string (Z2 n)] 9)) 256 [.func (.func 211) #[] #[]]) hb (by simp);exact QD c u m n (w.heap.size+1) w.heap.size W F E
 ·rintro e K ⟨rfl,hb⟩;have D:=hid (j.trans (hb.mono j.size));go_wp2;go_ret;exact⟨rfl,D.out⟩
theorem below_drewN {B:Nat}{a w:World}(h:Below B a w)(m:Nat):Below B a (w.drewN m):=⟨h.os,h.tape,h.output,h.size,h.block⟩
def ST (s n:List UInt8)(d:List Da):Bool:=tx d 0 == s && tx d 1 == n
theorem JN (t:Tb)(A:Option Addr)(k:Nat)(B:Option Addr)(m:Nat)(s n:List UInt8)(p q:Nat)(w:World)(d:ZP w p 9 [.string (Z2 s)])(j:ZP w q 9 [.string (Z2 n)]):
  Calls prog 118 #[.agg #[.string (Z2 t.Z9),.string (Z2 t.name),.string (Z2 t.ZN),.slice A t.Z3.length k,.slice B t.ZW.length m],.pointer (some ⟨p,0,none⟩),.pointer (some ⟨q,0,none⟩)] w fun e w'=>e= .returned (.bool (t.Z9 == s && t.name == n))/\Below w.heap.size w w':=by
 have u:=d.lt;have C:=j.lt;have a0:w.cell? ⟨p,0,none⟩=some (.string (Z2 s)):=d.cell 0;have a1:w.cell? ⟨q,0,none⟩=some (.string (Z2 n)):=j.cell 0;clear d j
 cases h:(t.Z9 == s)
 ·go_enter func118,ntmps118
  go_wp2;go_ret;exact⟨rfl,br.alloc lr _⟩
 ·go_enter func118,ntmps118
  go_wp2;go_ret;exact⟨rfl,br.alloc lr _⟩
theorem SS (c:Cl)(w:World):
  Calls prog 202 #[.agg #[.string (Z2 c.name),.int .i64 c.ZV,.bool c.null]] w fun e w'=>e= .returned (.bool (VR c))/\Below w.heap.size w w':=by
 have h:=fun W=>YI c.name W
 have d:Hid (VR c=(Zw c.name && (c.ZV == 2 || c.ZV == 3))):=hid rfl;generalize VR c=r at*;generalize Zw c.name=b at*
 cases b
 ·go_enter func202,ntmps202
  go_wp2_with fail;refine(h _).mono ?_
  rintro e w' ⟨rfl,m,rfl⟩;go_wp2;go_ret;exact⟨by rw [d.out];rfl,below_drewN (br.alloc lr _) m⟩
 ·cases h2:(c.ZV == 2) <;> cases h3:(c.ZV == 3)
  all_goals
   rw [h2,h3] at d;go_enter func202,ntmps202
   go_wp2_with fail;refine(h _).mono ?_
   rintro e w' ⟨rfl,m,rfl⟩;go_wp2;go_ret;exact⟨by rw [d.out];rfl,below_drewN (br.alloc lr _) m⟩
theorem Us (ds ts:List (List Da))(A:Option Addr)(k:Nat)(B:Option Addr)(m:Nat)(s n:List UInt8)(w:World)(u:ZT w (· < w.heap.size) Zn ts B)(G:ts.length<=1099511627776):
  Calls prog 57 #[.agg #[.slice A ds.length k,.slice B ts.length m],.string (Z2 s),.string (Z2 n)] w fun e w'=>e= .returned (.tuple #[.int .i64 (Zd (ST s n) ts 0),.bool (ts.any (ST s n))])/\Below w.heap.size w w':=by
 have D:=hid u;have E:=hid (WN (ST s n) ts);clear u;go_enter func57,ntmps57
 go_wp2_with fail;refine TS w _ ((br.alloc lr _ |>.alloc (by simp) _).alloc (by simp;omega) _) fun j=> ?_
 refine(Rq (ST s n) 118 _ ts B m _ (enters_of func118 (by kernel_rfl) rfl) ((D.out.below j).YW (fun _ h=>Nat.lt_of_lt_of_le h j.size) fun _ _=>rfl) G ?_).mono ?_
 ·intro W d L hb _ I;obtain⟨t,C,J,B',K,rfl,rfl,_⟩:=Tb.YG I;refine JN t C J B' K s n (w.heap.size+1) (w.heap.size+1+1) W (ZP.below ?_ hb (by simp)) (ZP.below ?_ hb (by simp))
  ·exact ZP.alloc (by simpa using ZP.new (w.alloc (.cells #[.slice A ds.length k,.slice B ts.length m] 26)) 9 [.string (Z2 s)]) _
  ·simpa using ZP.new ((w.alloc (.cells #[.slice A ds.length k,.slice B ts.length m] 26)).alloc (.cells #[.string (Z2 s)] 9)) 9 [.string (Z2 n)]
 ·rintro e M ⟨rfl,hb⟩;have F:=hid (j.trans (hb.mono j.size));go_wp2;go_ret2;exact⟨by rw [<-E.out];rfl,F.out⟩
theorem Mo {α:Type}(p:α->Bool)(l:List α)(j:Nat)(h:j<l.length):(l.take (j+1)).countP p=(l.take j).countP p+if p l[j]=true then 1 else 0:=by
 rw [List.take_succ_eq_append_getElem h,List.countP_append];simp [List.countP_cons]
theorem PI {α:Type}(p:α->Bool)(l:List α)(j:Nat):(l.take j).countP p<=l.length:=Nat.le_trans List.countP_le_length (by simp;omega)
theorem SB (ds ts:List (List Da))(A:Option Addr)(k:Nat)(B:Option Addr)(m:Nat)(s:List UInt8)(w:World)(M:ZT w (· < w.heap.size) Zn ts B)(hn:ts.length<=1099511627776):
  Calls prog 108 #[.agg #[.slice A ds.length k,.slice B ts.length m],.string (Z2 s)] w fun e w'=>e= .returned (.int .i64 (ts.countP fun d=>tx d 0 == s))/\Below w.heap.size w w':=by
 have T:=hid M;have U:=iN 73 5;clear M;go_enter func108,ntmps108
 go_wp2;go_loopw [5,11] (fun n i wr=> ∃ j:Nat,j<=ts.length/\i= .int .i64 j/\n= .int .i64 ((ts.take j).countP fun d=>tx d 0 == s)/\Hid (Below w.heap.size w wr)) (fun _ i _=>ts.length - (intOf i).toNat)
 case atStart=>exact⟨0,Nat.zero_le _,rfl,by simp,hid (br.alloc lr _)⟩
 case round=>
  obtain⟨j,hj,rfl,rfl,C⟩:=hrel;by_cases hlt:j<ts.length
  ·obtain⟨K,vs,rfl,O,N⟩:=(T.out.below C.out).at_ hlt;have D:Hid ((ts.take (j+1)).countP (fun d=>tx d 0 == s)=(ts.take j).countP (fun d=>tx d 0 == s)+if(tx ts[j] 0 == s)=true then 1 else 0):=hid (Mo (fun d=>tx d 0 == s) ts j hlt);have aa:=PI (fun d=>tx d 0 == s) ts j;generalize ts[j]=d at*;obtain⟨t,E,F,B',G,rfl,rfl,_⟩:=Tb.YG O;have J:Hid (∀ i u,(t.cs E F B' G)[i]?=some u->wr.cell? ((K.add (j*5)).add i)=some u):=hid fun i u V=>by rw [ZG];exact N i u V
   clear O N;generalize (ts.take j).countP (fun d=>tx d 0 == s)=x at*;have Z:(tx t.da 0 == s)=(t.Z9 == s):=rfl;rw [Z] at D;unfold Tb.cs at J;have L:Hid ((prog.info? 73).map (·.size)=some ([.string (Z2 t.Z9),.string (Z2 t.name),.string (Z2 t.ZN),.slice E t.Z3.length F,.slice B' t.ZW.length G]:List Value).length):=U
   cases h:(t.Z9 == s)
   ·rw [h] at D;have I:Hid ((ts.take (j+1)).countP (fun d=>tx d 0 == s)=x):=hid D.out;go_wp2_with (first | (with_reducible refine ZK rfl 73 _ rfl (K.add (j*5)) rfl [.string (Z2 t.Z9),.string (Z2 t.name),.string (Z2 t.ZN),.slice E t.Z3.length F,.slice B' t.ZW.length G] _ J.out underlying73 rfl L.out ?_) | fail);go_roundw
    case rel=>exact⟨j+1,by omega,by go_num,by rw [I.out],hid (C.out.alloc (C.out.size) _)⟩
    case measure=>simp [intOf];omega
   ·rw [h] at D;have I:Hid ((ts.take (j+1)).countP (fun d=>tx d 0 == s)=x+1):=hid D.out;go_wp2_with (first | (with_reducible refine ZK rfl 73 _ rfl (K.add (j*5)) rfl [.string (Z2 t.Z9),.string (Z2 t.name),.string (Z2 t.ZN),.slice E t.Z3.length F,.slice B' t.ZW.length G] _ J.out underlying73 rfl L.out ?_) | fail);go_roundw
    case rel=>exact⟨j+1,by omega,by go_num,by rw [I.out];go_num,hid (C.out.alloc (C.out.size) _)⟩
    case measure=>simp [intOf];omega
  ·obtain rfl:j=ts.length:=by omega
   rw [List.take_length];go_wp2;go_ret;exact⟨rfl,C.out⟩
theorem Zi {P:Program}{f:FuncId}{args:Array Value}{Q:Ending->World->Prop}(d:World)(k: ∀ W,W=d->Calls P f args W Q):Calls P f args d Q:=k _ rfl
theorem UD {α β:Type}(p:β->Bool)(f:α->β): ∀ (l:List α)(n:Nat),Zd p (l.map f) n=Zd (fun x=>p (f x)) l n
 | [],n=>rfl
 | c ::r,n=>by
  simp only [List.map_cons,Zd];rw [UD p f r (n+1)]
theorem XL (l:List Cl)(n:List UInt8):Zd (fun d=>tx d 0 == n) (l.map Cl.da) 0=WS (Y7 l n):=by
 rw [UD,US];rfl
theorem Cl.YY {w:World}{S:Nat->Prop}{c:Cl}{j:List Value}(h:ZE w S Zz c.da j):j=c.cs:=by
 obtain⟨s,d,rfl⟩:=Cl.YG h
 cases c
 cases s
 simp [Cl.da] at d;obtain⟨rfl,rfl,rfl⟩:=d;rfl
theorem Ii (o:Option Nat)(j:Nat):(o == some j)=decide (WS o=(j:Int)):=by
 cases o with
 | none=>simp [WS]
 | some i=>
  show (i == j)=decide ((i:Int)=(j:Int))
  by_cases h:i=j
  ·subst h;simp
  ·have d: ¬ (i:Int)=(j:Int):=by omega
   simp [h,d]
theorem TD (l:List Cl)(A:Option Addr)(k:Nat)(w:World)(V:ZT w (· < w.heap.size) Zz (l.map Cl.da) A)(hn:l.length<=1099511627776):
  Calls prog 158 #[.slice A l.length k] w fun e w'=>e= .returned (.bool (YJ l))/\Below w.heap.size w w':=by
 have T:=hid V;clear V;by_cases h1:l.length<1
 ·have s:Hid (YJ l=false):=hid (by unfold YJ;rw [decide_eq_false (by omega)];rfl);have O:(l.length:Int)<1:=by omega
  go_enter func158,ntmps158
  go_wp2;go_ret;exact⟨by rw [s.out];rfl,Below.refl _ _⟩
 by_cases h2:l.length > 8
 ·have s:Hid (YJ l=false):=hid (by unfold YJ;rw [decide_eq_true (show 1<=l.length by omega),decide_eq_false (show ¬ l.length<=8 by omega)];rfl);have O: ¬ (l.length:Int)<1:=by omega
  have aa:(l.length:Int) > 8:=by omega
  go_enter func158,ntmps158
  go_wp2;go_ret;exact⟨by rw [s.out];rfl,Below.refl _ _⟩
 have s:Hid (YJ l=XH l 0 l):=hid (by unfold YJ;rw [decide_eq_true (show 1<=l.length by omega),decide_eq_true (show l.length<=8 by omega)];rfl);have O: ¬ (l.length:Int)<1:=by omega
 have aa: ¬ (l.length:Int) > 8:=by omega
 have HI:=iN 119 3;go_enter func158,ntmps158
 go_wp2;go_loopw [15] (fun i wr=> ∃ j:Nat,j<=l.length/\i= .int .i64 j/\Hid (YJ l=XH l j (l.drop j))/\Hid (Below w.heap.size w wr)) (fun i _=>l.length - (intOf i).toNat)
 case atStart=>exact⟨0,Nat.zero_le _,rfl,hid (by rw [List.drop_zero];exact s.out),hid br⟩
 case round=>
  obtain⟨j,hj,rfl,F,E⟩:=hrel;by_cases hlt:j<l.length
  ·obtain⟨G,vs,rfl,K,d⟩:=(T.out.below E.out).at_ (j:=j) (by simpa using hlt);rw [List.getElem_map] at K;have C:Hid (YJ l=(VR l[j] && Y7 l l[j].name == some j && XH l (j+1) (l.drop (j+1)))):=hid (by rw [F.out,List.drop_eq_getElem_cons hlt];rfl)
   generalize l[j]=c at*;obtain rfl:=Cl.YY K;have U:Hid (∀ i u,c.cs[i]?=some u->wr.cell? ((G.add (j*3)).add i)=some u):=hid fun i u hu=>by rw [ZG];exact d i u hu
   clear K d;unfold Cl.cs at U;have HL:Hid ((prog.info? 119).map (·.size)=some ([.string (Z2 c.name),.int .i64 c.ZV,.bool c.null]:List Value).length):=HI;go_wp2_with (first | (with_reducible refine ZK rfl 119 _ rfl (G.add (j*3)) rfl [.string (Z2 c.name),.int .i64 c.ZV,.bool c.null] _ U.out underlying119 rfl HL.out ?_) | fail);refine Zi _ fun W J=> ?_
   have L:=rL J (E.out.alloc E.out.size _);have N:=nC J;clear J;refine(SS c W).mono ?_
   rintro e w1 ⟨rfl,hb⟩;have D:=bt L hb;have Z:=bl N hb;clear L N hb
   cases hm:VR c
   ·rw [hm] at C;have m:Hid (YJ l=false):=hid C.out;go_wp2;go_ret;exact⟨by rw [m.out];rfl,D.out⟩
   ·rw [hm,Ii] at C;have a0:=ce Z 0;go_wp2_with fail;have I:=Xl (l.map Cl.da) (some G) k c.name w1 ((T.out.below D.out).YW (fun _ h=>Nat.lt_of_lt_of_le h D.out.size) fun _ _=>rfl) (by simpa using hn);rw [List.length_map,XL] at I;refine I.mono ?_
    rintro e w2 ⟨rfl,hb⟩;have M:=bt D hb;clear hb I;generalize WS (Y7 l c.name)=r at*;by_cases d:r=j
    ·subst d;have m:Hid (YJ l=XH l (j+1) (l.drop (j+1))):=hid (by rw [C.out];simp)
     go_wp2;go_roundw
     case rel=>exact⟨j+1,by omega,by go_num,m,M⟩
     case measure=>simp [intOf];omega
    ·have m:Hid (YJ l=false):=hid (by rw [C.out];simp [d]);have ab:(r ==(j:Int))=false:=by simpa using d
     go_wp2;go_ret;exact⟨by rw [m.out];rfl,M.out⟩
  ·obtain rfl:j=l.length:=by omega
   rw [List.drop_length] at F;go_wp2;go_ret;exact⟨by rw [F.out];rfl,E.out⟩
theorem LM (l:List Cl)(ns:List (List UInt8))(j:Nat)(h:j<ns.length):YP l (ns.take (j+1))=YP l (ns.take j) ++ (Yf l ns[j]).toList:=by
 unfold YP;rw [List.take_succ_eq_append_getElem h,List.filterMap_append]
 cases hk:Yf l ns[j] <;> simp [List.filterMap_cons,hk]
theorem NU (l:List Cl)(n:List UInt8){i:Nat}(h:Y7 l n=some i): ∃ d:i<l.length,Yf l n=some l[i].ZV:=by
 unfold Y7 at h;rw [List.findIdx?_eq_some_iff_getElem] at h;obtain⟨d,m,s⟩:=h;refine⟨d,?_⟩
 unfold Yf;have:l.find? (fun c=>c.name == n)=some l[i]:=by
  rw [List.find?_eq_some_iff_getElem];exact⟨m,i,d,rfl,fun j u=>by simpa using s j u⟩
 rw [this];rfl
theorem LN (l:List Cl)(n:List UInt8)(h:Y7 l n=none):Yf l n=none:=by
 unfold Y7 at h;rw [List.findIdx?_eq_none_iff] at h;unfold Yf;rw [List.find?_eq_none.2 (fun x d=>by simpa using h x d)];rfl
end Go.Proofs.YtnhmoibjlakhjaaGreat
