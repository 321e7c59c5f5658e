/- Lemmas, each under its own conditions. -/
import Derived.Test.YtnhmoibjlakhjaaGreatW38
set_option linter.all false
namespace Go.Proofs.YtnhmoibjlakhjaaGreat
open Go.Proofs.Tryz
open Lib (hid)
set_option maxRecDepth 100000
set_option maxHeartbeats 16000000
open Go.RowKit
open Lib (hid)
structure Wo where
 ZV:Int
 ZQ:lU
 Z9:lU
 ZZ:lU
 row:List Vl
 WB:lU
 val:Vl
 deriving DecidableEq,Inhabited
def Vq:List Sh:= [.num,.Z2,.Z2,.Z2,.rows Zh,.Z2,.num,.num,.Z2]
def Wo.da (x:Wo):List Da:= [.int x.ZV,.Z2 x.ZQ,.Z2 x.Z9,.Z2 x.ZZ,.rows (x.row.map Vl.da),.Z2 x.WB,.int x.val.ZV,.int x.val.num,.Z2 x.val.word]
def Wo.cs (x:Wo)(A:oA)(n:Nat):lV:= [i6 x.ZV,sT x.ZQ,sT x.Z9,sT x.ZZ,.slice A x.row.length n,sT x.WB,i6 x.val.ZV,i6 x.val.num,sT x.val.word]
def Vg (x:Wo):Bool:=x.WB == [] && x.val ==⟨0,0,[]⟩
def DY (x:Wo)(w:World)(e:Ending)(w':World):Prop:= ∃ b,e= .returned (.bool b)/\Bw w w'/\(Vg x=true->x.ZV=1∨(x.ZV=3/\x.row.length=0)->b=true)
theorem E5 (k:Int):k=1∨k=2∨k=3∨((k == 1)=false/\(k == 2)=false/\(k == 3)=false):=by
 by_cases h1:k=1
 ·exact .inl h1
 by_cases h2:k=2
 ·exact .inr (.inl h2)
 by_cases h3:k=3
 ·exact .inr (.inr (.inl h3))
 exact .inr (.inr (.inr ⟨by simpa using h1,by simpa using h2,by simpa using h3⟩))
theorem Gy (x:Wo)(A:oA)(n:Nat)(w:World):cQ 51 #[.agg #[i6 x.ZV,sT x.ZQ,sT x.Z9,sT x.ZZ,.slice A x.row.length n,sT x.WB,i6 x.val.ZV,i6 x.val.num,sT x.val.word]] w (DY x w):=by
 go_enter func51,ntmps51
 go_upto_region 1 with fail
 refine Wh _ fun W M=> ?_
 have u:=bP M;have B0:Hid (ZP W w.heap.size 66 [i6 x.ZV,sT x.ZQ,sT x.Z9,sT x.ZZ,sl A x.row n,sT x.WB,i6 x.val.ZV,i6 x.val.num,sT x.val.word]):=nC M;clear M;have E:=ce B0 5;have F:=ce B0 6;have G:=ce B0 7;have I:=ce B0 8;go_cut [3] from 5 to 47 (fun v V=> ∃ b,v= .bool b/\Hid (b=Vg x)/\Hid (V=W))
 case first=>
  cases hs:(x.WB == [])
  ·have L:Hid (false=Vg x):=hid (by unfold Vg;rw [hs];rfl);have Z:x.WB.isEmpty=false:=by simpa using hs
   have aa:(x.WB != [])=true:=by simpa using hs
   go_wp2;go_meet
   case rel=>exact⟨false,rfl,L,hid rfl⟩
  ·have L:Hid ((x.val ==⟨0,0,[]⟩)=Vg x):=hid (by unfold Vg;rw [hs];rfl);have HV: ∀ W,(binOp .eql 64 (.agg #[i6 x.val.ZV,i6 x.val.num,sT x.val.word]) (.agg #[i6 0,i6 0,s0])).run prog W= .ok (.bool (x.val ==⟨0,0,[]⟩)) W:=fun W=>KK x.val ⟨0,0,[]⟩ W
   have Z:x.WB.isEmpty=true:=by simpa using hs
   have aa:(x.WB != [])=false:=by simpa using hs
   go_wp2;go_meet
   case rel=>exact⟨_,rfl,L,hid rfl⟩
 case rest=>
 clear E F G I;obtain⟨b3,rfl,O,N⟩:=hcut;have T:=N.o.symm;clear N;subst T;go_upto_region 2 with fail
 go_cut [4] from 5 to 47 (fun v V=> ∃ b,v= .bool b/\Hid (Bw w V)/\Hid (ZP V w.heap.size 66 [i6 x.ZV,sT x.ZQ,sT x.Z9,sT x.ZZ,sl A x.row n,sT x.WB,i6 x.val.ZV,i6 x.val.num,sT x.val.word]))
 case first=>
  have E:=ce B0 5
  cases hn:Zw x.WB
  ·go_wp2_with fail;refine(YI x.WB _).mono ?_
   rintro e D ⟨rfl,m,rfl⟩;rw [hn];have hb:=below_drewN (Below.refl W.heap.size W) m;have d:=bt u hb;have j:=bl B0 hb;clear E hn hb u B0;generalize W.drewN m=D at*;go_wp2;go_meet
   case rel=>exact⟨false,rfl,d,j⟩
  ·go_wp2_with fail;refine(YI x.WB _).mono ?_
   rintro e D ⟨rfl,m,rfl⟩;rw [hn];have hb:=below_drewN (Below.refl W.heap.size W) m;have d:=bt u hb;have j:=bl B0 hb;clear E hn hb u B0;generalize W.drewN m=D at*;have F:=ce j 6;have G:=ce j 7;have I:=ce j 8;go_wp2_with fail;have s:=hid (Ls x.val D)
   cases hm:Qz x.val
   ·rw [hm] at s;refine s.o.mono ?_
    rintro e W4 ⟨rfl,hb⟩;have J:=bt d hb;have C:=bl j hb;clear s hm hb d j F G I;go_wp2;go_meet
    case rel=>exact⟨false,rfl,J,C⟩
   ·rw [hm] at s;refine s.o.mono ?_
    rintro e W4 ⟨rfl,hb⟩;have J:=bt d hb;have C:=bl j hb;clear s hm hb d j F G I;have c4:=ce C 4;go_wp2;go_meet
    case rel=>exact⟨_,rfl,J,C⟩
 case rest=>
 clear u B0;obtain⟨b4,rfl,d,j⟩:=hcut;have c0:=ce j 0;have c4:=ce j 4;rcases E5 x.ZV with h | h | h | ⟨g1,g2,g3⟩
 ·rw [h] at c0;clear h;go_wp2;go_ret;exact⟨_,rfl,d.o,fun h _=>O.o.trans h⟩
 ·rw [h] at c0;have K:=hid h;clear h;go_wp2;go_ret;exact⟨_,rfl,d.o,fun _ h=>by have:=K.o;omega⟩
 ·rw [h] at c0;have K:=hid h;clear h
  cases b4
  ·cases b3
   ·go_wp2;go_ret;exact⟨_,rfl,d.o,fun h _=>by rw [<-O.o] at h;cases h⟩
   ·by_cases hr:x.row.length=0
    ·have U:((x.row.length:Int) == 0)=true:=by simp [hr]
     go_wp2;go_ret;exact⟨_,rfl,d.o,fun _ _=>rfl⟩
    ·have U:((x.row.length:Int) == 0)=false:=by simpa using hr
     have HR:=hid hr;go_wp2;go_ret;exact⟨_,rfl,d.o,fun _ h=>by have:=HR.o;have:=K.o;omega⟩
  ·go_wp2;go_ret;exact⟨_,rfl,d.o,fun _ _=>rfl⟩
 ·have K:Hid (¬ (x.ZV=1∨(x.ZV=3/\x.row.length=0))):=hid (by rintro(h | ⟨h,_⟩) <;> simp [h] at g1 g3);go_wp2;go_ret;exact⟨_,rfl,d.o,fun _ h=>absurd h K.o⟩
theorem F3 (c:Cl)(x:Wo)(A:oA)(n p:Nat)(w:World)(d:ZP w p 66 (x.cs A n)):
  cQ 53 #[.agg #[sT c.name,i6 c.ZV,.bool c.null],pT p] w fun e w'=>e= .returned (.bool (c.name == x.WB))/\Bw w w':=by
 have h:Hid (∀ x,Bw w (w.alloc x)):=hid fun x=>br.alloc lr _
 have j:(w.alloc (.cells #[sT c.name,i6 c.ZV,.bool c.null] 119)).cell? (aD p 5)=some (sT x.WB):=(d.alloc _).cell 5;clear d;go_enter func53,ntmps53
 go_wp2;go_ret;exact⟨rfl,h.o _⟩
def D1 (rs:List X3)(Z3:List Cl)(q:Wo)(w:World)(e:Ending)(w':World):Prop:= ∃ (rs':List X3) (B:oA) (c:Nat),e= .returned (.tuple #[.slice B rs'.length c,i6 0])/\rs'.length<=rs.length/\(Vg q=true->(∀ cl∈Z3,cl.name≠ [])->rs'.map (·.1)=rs.map (·.1))/\Zj w' w'.heap.size B X3.cs rs'/\(∀ r∈rs',rA w' Zh (r.1.map Vl.da) r.2.1)/\Bw w w'
theorem KQ (p:Nat)(t:Tb)(X:oA)(x:Nat)(Y:oA)(y:Nat)(rs:List X3)(R:oA)(rc:Nat)(sp:oA)(q:Wo)(A:oA)(n:Nat)(w:World)(hx:ZP w p 112 (Sf.cs ⟨p,t,X,x,Y,y,rs,R,rc⟩))(hX:rA w Zz (t.Z3.map Cl.da) X)(Z:Zj w w.heap.size R X3.cs rs)(M: ∀ r∈rs,rA w Zh (r.1.map Vl.da) r.2.1)(ad:rs.length<=1099511627776)(K:t.Z3.length<=1099511627776)(L: ∀ r∈rs,r.1.length=t.Z3.length):
  cQ 56 #[.pointer sp,pT p,.agg #[i6 q.ZV,sT q.ZQ,sT q.Z9,sT q.ZZ,.slice A q.row.length n,sT q.WB,i6 q.val.ZV,i6 q.val.num,sT q.val.word]] w (D1 rs t.Z3 q w):=by
 have Hx:=hid hx;have HX:=hid hX;have HR:=hid Z;have J:=hid M;have G:=hid L;clear hx hX Z M L;go_enter func56,ntmps56
 go_upto_region 1 with fail
 refine Wh _ fun W D=> ?_
 have h:=bP D;have B0:Hid (ZP W w.heap.size 66 [i6 q.ZV,sT q.ZQ,sT q.Z9,sT q.ZZ,sl A q.row n,sT q.WB,i6 q.val.ZV,i6 q.val.num,sT q.val.word]):=nC D;clear D;have c5:=ce B0 5;have c6:=ce B0 6;have c7:=ce B0 7;have c8:=ce B0 8;go_wp2_with fail;refine(NM p t X x Y y rs R rc q.WB q.val W (Hx.o.below h.o Hx.o.lt) (HX.o.later h.o) (HR.o.later h.o) (fun r d=>(J.o r d).later h.o) ad K G.o).mono ?_
 rintro e W2 ⟨ins,outs,I,ic,O,oc,rfl,V,m,-,hs,E,-,hn,hb⟩;have s:=bt h hb;have N:=hid (Mp ins I ic W2 (YS V rfl) (fun r d=>(J.o r (E r d)).later s.o) (by omega) (fun r d=>by rw [G.o r (E r d)];exact K));have U:Hid (ins.length<=rs.length/\(Vg q=true->(∀ cl∈t.Z3,cl.name≠ [])->ins=rs)):=hid ⟨by omega,fun j C=>by
  rw [hn ?_];have h3:q.WB= []:=by
   unfold Vg at j;simpa using (Bool.and_eq_true_iff.1 j).1
  rw [h3];exact List.findIdx?_eq_none_iff.2 fun c hc=>by simpa using C c hc⟩
 clear V m hs E hn hb c5 c6 c7 c8 h B0;go_wp2_with fail;refine N.o.mono ?_
 rintro e W3 ⟨u,B,c,F,rfl,m,hV,hb⟩;have aa:=bt s hb;have T:Hid (u.length=ins.length/\u.map (·.1)=ins.map (·.1)):=hid ⟨by have:=congrArg List.length F;simpa using this,F⟩
 have ab:=hid (YS m rfl);have ac:=hid (fun r d=>(hV r d).XJ);clear hb F N s m hV;go_wp2;go_ret2;exact⟨u,B,c,rfl,by rw [T.o.1];exact U.o.1,fun j C=>by rw [T.o.2,U.o.2 j C],ab.o,ac.o,aa.o⟩
attribute [local go_sem] Oper.semAt_some
abbrev K5 (w:World) (t:Tb) (kd:Int):= { x:YH // x.1∈t.ZW/\x.1.ZV=kd/\ZT w (· < w.heap.size) [.Z2] (YV x.1.Z3) x.2.1}
def K5.enc {w:World}{t:Tb}{kd:Int}(x:K5 w t kd):Array Value:= #[.agg (YH.cs x.1).toArray]
theorem IF (p:Nat)(t:Tb)(X:Option Addr)(x:Nat)(Y:Option Addr)(y:Nat)(rs:List X3)(R:Option Addr)(rc:Nat)(kd:Int)(l U Z m0:Nat)(u d:World)(J Jx:List (K5 u t kd)->World->Prop)(W:World)(hJ:AbidesFrom W.heap.size J)(D:Below d.heap.size d W)
  (ar:t.ZW.length<=1099511627776) (L:Below u.heap.size u d) (hT:ZT u (· < u.heap.size) YF (t.ZW.map Ru.da) Y) (O:ZP d p 112 (Sf.cs ⟨p,t,X,x,Y,y,rs,R,rc⟩)) (T:ZP d U 110 [.pointer (some ⟨p,0,none⟩)]) (b2:ZP d Z 38 [.int .i64 kd])
  (hY: ∀ pre x N,J pre N->pre.length<t.ZW.length->YieldAt Fence.wide m0 prog l (K5.enc x) N fun e s=>(e= .returned (.bool true)/\J (pre ++ [x]) s/\Below d.heap.size N s)∨(e= .returned (.bool false)/\Jx (pre ++ [x]) s))
  (h0:J [] W):
  CallsIn Fence.wide (m0+1) prog 238 #[.func (.yield l) #[] #[],.pointer (some ⟨U,0,none⟩),.pointer (some ⟨Z,0,none⟩)] W fun e s=>(∃ v,e= .returned v)/\((∃ xs:List (K5 u t kd),True/\J xs s)∨(∃ pre:List (K5 u t kd),True/\Jx pre s)):=by
 refine callsIn_wide.2 ?_
 have an:=hid hJ;have HT:=hid hT;have F:=hid L;have B2:=hid b2;have HY:=hid hY;have H0:=hid h0;have ac:=hid D;have ak:=iN 40 8;have c1:W.cell? ⟨U,0,none⟩=some (.pointer (some ⟨p,0,none⟩)):=cd (T.below D T.lt) 0;have c4:W.cell? ⟨p,4,none⟩=some (.slice Y t.ZW.length y):=cd (O.below D O.lt) 4;clear hJ hT L O T b2 hY h0 D;go_enter func238,ntmps238
 go_wp2;go_loopw [12] (fun i wr=> ∃ (j:Nat) (pre:List (K5 u t kd)),j<=t.ZW.length/\i= .int .i64 j/\Hid (pre.length<=j)/\Hid (J pre wr)/\Hid (Below d.heap.size d wr)) (fun i _=>t.ZW.length - (intOf i).toNat)
 case atStart=>exact⟨0,[],Nat.zero_le _,rfl,hid lr,H0,ac⟩
 case round=>
  clear c1 c4 H0 ac;obtain⟨j,pre,hj,rfl,HL,M,E⟩:=hrel;by_cases hlt:j<t.ZW.length
  ·obtain⟨ag,vs,rfl,hv,hr⟩:=(HT.out.below (F.out.trans (E.out.mono F.out.size))).at_ (j:=j) (by simpa using hlt);rw [List.getElem_map] at hv;have ap:=hid (List.getElem_mem hlt);have af:Hid (∀ q:K5 u t kd,pre.length<t.ZW.length/\(pre ++ [q]).length<=j+1):=hid fun q=>by have:=HL.out;simp;omega
   have aq:(j:Int)< (t.ZW.length:Int):=by omega
   generalize t.ZW[j]=r at*;obtain⟨V,v,rfl,hV⟩:=Ru.YY hv;have HV:Hid (ZT u (· < u.heap.size) [.Z2] (YV r.Z3) V):=hid (hV.1.YW (fun _ h=>h) (fun q K=>((F.out.trans (E.out.mono F.out.size)).cell K).symm));have HG:Hid (∀ i u,([.string (Z2 r.name),.int .i64 r.ZV,.slice V r.Z3.length v,.int .i64 r.low,.int .i64 r.ZB,.string (Z2 r.Z9),.string (Z2 r.ZZ),.string (Z2 r.key)]:List Value)[i]?=some u->wr.cell? ((ag.add (j*8)).add i)=some u):=hid fun i u L=>by rw [ZG];exact hr i u L
   clear hv hr hV;have ae:Hid ((prog.info? 40).map (·.size)=some ([.string (Z2 r.name),.int .i64 r.ZV,.slice V r.Z3.length v,.int .i64 r.low,.int .i64 r.ZB,.string (Z2 r.Z9),.string (Z2 r.ZZ),.string (Z2 r.key)]:List Value).length):=ak;go_upto_region 3 with (first | (with_reducible refine ZK rfl 40 _ rfl (ag.add (j*8)) rfl [.string (Z2 r.name),.int .i64 r.ZV,.slice V r.Z3.length v,.int .i64 r.low,.int .i64 r.ZB,.string (Z2 r.Z9),.string (Z2 r.ZZ),.string (Z2 r.key)] _ HG.out underlying40 rfl ae.out ?_) | fail)
   refine Wh _ fun G I=> ?_
   have ad:Hid (J pre G):=hid (by rw [I];exact an.out pre _ _ none M.out (World.grownBy_alloc _ _ none) (fun r e=>by cases e));have C:=rL I (E.out.alloc E.out.size _);have m:Hid (ZP G wr.heap.size 40 [.string (Z2 r.name),.int .i64 r.ZV,.slice V r.Z3.length v,.int .i64 r.low,.int .i64 r.ZB,.string (Z2 r.Z9),.string (Z2 r.ZZ),.string (Z2 r.key)]):=nC I;clear I M HG ae;have d2:G.cell? ⟨Z,0,none⟩=some (.int .i64 kd):=cd (B2.out.below C.out B2.out.lt) 0;have av:=ce m 1;have aj:=C;have ao:Hid (pre.length<=j+1):=hid (by have:=HL.out;omega)
   by_cases hk:r.ZV=kd
   ·have e1:(r.ZV == kd)=true:=by simpa using hk
    obtain⟨q,K⟩: ∃ q:K5 u t kd,q.1=(r,V,v):=⟨⟨(r,V,v),ap.out,hk,HV.out⟩,rfl⟩
    have ah:K5.enc q= #[.agg #[.string (Z2 r.name),.int .i64 r.ZV,.slice V r.Z3.length v,.int .i64 r.low,.int .i64 r.ZB,.string (Z2 r.Z9),.string (Z2 r.ZZ),.string (Z2 r.key)]]:=by
     unfold K5.enc;rw [K];rfl
    have aa:=(af.out q).1;have ab:=hid (af.out q).2;obtain⟨fn,tmps,assign,body,hy,hR⟩:=HY.out pre q G ad.out aa;rw [ah] at hy;have HR:=hid hR;clear hR aa hk K ah;have au:=ce m 0;have aw:=ce m 2;have ax:=ce m 3;have ay:=ce m 4;have az:=ce m 5;have aA:=ce m 6;have aB:=ce m 7;refine wpIn_wide (n:=m0+1) |>.1 ?_
    gi_wp2
    refine HR.out.mono ?_
    rintro e W3 (⟨rfl,hJ3,hk3⟩ | ⟨rfl,hJx3⟩)
    ·have am:=hid hJ3;have ai:Hid (Below d.heap.size d W3):=hid (C.out.trans hk3);clear hJ3 hk3;gi_wp2
     go_wp2;go_roundw
     case rel=>exact⟨j+1,_,by omega,by go_num,ab,am,ai⟩
     case measure=>simp [intOf];omega
    ·gi_wp2
     go_wp2;refine bodyPost_ret (results_none rfl _ _ _) rfl ?_
     exact⟨⟨_,rfl⟩,.inr ⟨pre ++ [_],trivial,hJx3⟩⟩
   ·have e1:(r.ZV == kd)=false:=by simpa using hk
    go_wp2;go_roundw
    case rel=>exact⟨j+1,pre,by omega,by go_num,ao,ad,C⟩
    case measure=>simp [intOf];omega
  ·obtain rfl:j=t.ZW.length:=by omega
   go_wp2;go_end0;exact⟨⟨_,rfl⟩,.inl ⟨pre,trivial,M.out⟩⟩
theorem Th (p:Nat)(kd:Int)(w:World):
  Calls prog 165 #[.pointer (some ⟨p,0,none⟩),.int .i64 kd] w fun e w'=> ∃ h j,e= .returned (.func (.func 238) #[] #[.pointer (some ⟨h,0,none⟩),.pointer (some ⟨j,0,none⟩)])/\ZP w' h 110 [.pointer (some ⟨p,0,none⟩)]/\ZP w' j 38 [.int .i64 kd]/\w.heap.size<=h/\w.heap.size<=j/\Below w.heap.size w w':=by
 go_enter func165,ntmps165
 go_upto_region 1 with fail
 refine Wh _ fun W d=> ?_
 have m:=bQ d;have s:Hid (ZP W w.heap.size 110 [.pointer (some ⟨p,0,none⟩)]):=nD d;have u:Hid (ZP W (w.heap.size+1) 38 [.int .i64 kd]):=nF d;clear d;go_wp2;go_ret;exact⟨_,_,rfl,s.out,u.out,Nat.le_refl _,Nat.le_succ _,m.out⟩
theorem UO (m:Nat)(p:Nat)(t:Tb)(X:Option Addr)(x:Nat)(Y:Option Addr)(y:Nat)(rs:List X3)(R:Option Addr)(s:Nat)(kd:Int)(h j:Nat)(u d:World)(C:t.ZW.length<=1099511627776)(O:Below u.heap.size u d)(L:ZT u (· < u.heap.size) YF (t.ZW.map Ru.da) Y)(E:ZP d p 112 (Sf.cs ⟨p,t,X,x,Y,y,rs,R,s⟩))(F:ZP d h 110 [.pointer (some ⟨p,0,none⟩)])(G:ZP d j 38 [.int .i64 kd]):
  SeqStopsK Fence.wide (m+1) prog 238 #[.pointer (some ⟨h,0,none⟩),.pointer (some ⟨j,0,none⟩)] (K5.enc (w:=u) (t:=t) (kd:=kd)) (Below d.heap.size) (fun _=>True) (fun _=>True) t.ZW.length d:=fun l J D W M K T N I=>
 IF p t X x Y y rs R s kd l h j m u d J D W K M C O L E F G N I
theorem Ws {n B:Nat}{W d:World}(h:Below n W d)(m:W.heap.size<=n):KeepsFrom B W d:=⟨h.size,fun k o _ j _=>(h.block k (Nat.lt_of_lt_of_le (Array.getElem?_eq_some_iff.1 j).1 m)).trans j⟩
theorem JF {P:Program}{c:Code}{Q:Exit->Act->World->Prop}{a:Act}{w:World}(k: ∀ a0,a0=a->c.wp P Q a0 w):c.wp P Q a w:=k _ rfl
end Go.Proofs.YtnhmoibjlakhjaaGreat
namespace Go.Proofs.YtnhmoibjlakhjaaGreat
open Go.Proofs.Tryz
open Lib (hid)
set_option maxRecDepth 100000
set_option maxHeartbeats 16000000
open Go.RowKit
open Lib (hid)
attribute [local go_sem] Oper.semAt_some
structure Io (ts:List Tb) (t:Tb):Prop where
 tm:t.Zo 1099511627776
 co:Wp t.Z3=true
 nm: ∀ c∈t.Z3,c.name≠ []
 ru: ∀ r∈t.ZW,r.Z3.length<=1099511627776/\ ∀ n∈r.Z3,∃ i,Y7 t.Z3 n=some i/\i<t.Z3.length
 fo: ∀ r∈t.ZW,r.ZV=4-> ∃ u∈ts,u.Z9=r.Z9/\u.name=r.ZZ
structure WQ (ss:List Sf):Prop where
 n:ss.length<=64
 t: ∀ s∈ss,Io (ss.map (·.t)) s.t
 r: ∀ s∈ss,s.rs.length<=64/\ ∀ r∈s.rs,XK s.t.Z3 r.1=true
theorem WQ.find {d:List Sf}(h:WQ d){s:Sf}(G:s∈d){r:Ru}(F:r∈s.t.ZW)(E:r.ZV=4): ∃ j∈d,d.find? (Ur r.Z9 r.ZZ)=some j:=by
 obtain⟨u,I,C,D⟩:=(h.t s G).fo r F E;obtain⟨j,m,rfl⟩:=List.mem_map.1 I
 cases hf:d.find? (Ur r.Z9 r.ZZ) with
 | some s2=>exact⟨s2,List.mem_of_find?_eq_some hf,rfl⟩
 | none=>exact absurd (List.find?_eq_none.1 hf j m) (by simp [Ur,C,D])
theorem TV.I6 {w:World}{base:Nat}{s:Sf}(h:TV w base s):ZT w (· < w.heap.size) Zz (s.t.Z3.map Cl.da) s.X:=h.cl.XJ
theorem TV.Ej {w:World}{base:Nat}{s:Sf}(h:TV w base s):ZT w (· < w.heap.size) YF (s.t.ZW.map Ru.da) s.Y:=h.ru.XJ
def DX (ss:List Sf)(r:Ru)(w:World)(e:Ending)(w':World):Prop:= ∃ (s:Sf) (ZU:List lU) (N:oA) (nc:Nat),s∈ss/\e= .returned (.tuple #[pT s.p,.slice N ZU.length nc])/\ZU.length<=1099511627776/\(∀ n∈ZU,∃ i,Y7 s.t.Z3 n=some i/\i<s.t.Z3.length)/\ZT w' (· < w'.heap.size) [.Z2] (YV ZU) N/\Bw w w'
theorem cell_far (w:World){p q:Addr}(v:Value)(h:q.block≠p.block):(w.setCell p v).cell? q=w.cell? q:=World.cell?_of_block (Below.heap_setCell w p v q.block h)
theorem ZP.cell0 {w:World}{g:Nat}{t:TypeId}{v:Value}{cs:lV}(h:ZP w g t (v ::cs)):w.cell? (aD g 0)=some v:=cd h 0
def DW (s:Sf)(w:World)(c:Code)(W:World):Prop:=c= .ret/\ ∃ (ZU:List lU) (N:oA) (nc:Nat),ZU.length<=1099511627776/\(∀ n∈ZU,∃ i,Y7 s.t.Z3 n=some i/\i<s.t.Z3.length)/\ZT w (· < w.heap.size) [.Z2] (YV ZU) N/\ZP W (w.heap.size+1) 110 [pT s.p]/\ZP W (w.heap.size+1+1) 27 [.slice N ZU.length nc]/\Bw w W
theorem NP (base g:Nat)(ss:List Sf)(s0:Sf)(r:Ru)(V:oA)(v:Nat)(w:World)(h:WO w base g ss)(E:WQ ss)(ax:s0∈ss)(L:r∈s0.t.ZW)(hk:r.ZV=4):
  cQ 168 #[pT g,.agg #[sT r.name,i6 r.ZV,.slice V r.Z3.length v,i6 r.low,i6 r.ZB,sT r.Z9,sT r.ZZ,sT r.key]] w (DX ss r w):=by
 obtain⟨s,Z,hf⟩:=E.find ax L hk;have an:=hid h;have HG:=hid E;have HF:=hid hf;have O:=hid Z;clear h E hf Z ax L hk;refine callsIn_wide (n:=6) |>.1 ?_
 refine callsIn_of_wp_marks func168 rfl trivial ?_ rfl
 simp only [ntmps168,List.size_toArray,List.length_cons,List.length_nil,Nat.reduceAdd,Nat.reduceSub,Array.replicate_succ,Array.replicate_zero,List.push_toArray,List.append_toArray,List.nil_append,List.cons_append];refine wpIn_wide.2 ?_
 go_upto_region 1 with fail
 refine Wh _ fun W1 hW=> ?_
 have ab:=bR hW;have R1:Hid (ZP W1 w.heap.size 40 [sT r.name,i6 r.ZV,.slice V r.Z3.length v,i6 r.low,i6 r.ZB,sT r.Z9,sT r.ZZ,sT r.key]):=nE hW;have P1:Hid (ZP W1 (w.heap.size+1) 110 [.pointer none]):=nG hW;have N1:Hid (ZP W1 (w.heap.size+1+1) 27 [.slice none 0 0]):=nH hW;have r5:=ce R1 5;have r6:=ce R1 6;clear hW;go_wp2_with fail;refine(Rf base g ss r.Z9 r.ZZ W1 (an.o.later ab.o) (by have:=HG.o.n;omega)).mono ?_
 rintro e W ⟨rfl,rfl⟩;rw [HF.o];dsimp only [Option.map];have ao:Hid (Below w.heap.size w (W.alloc (.cells #[pT s.p] 110))):=hid (ab.o.alloc ab.o.size _);have ak:Below W.heap.size W (W.alloc (.cells #[pT s.p] 110)):=br.alloc lr _;have R2:=bl R1 ak;have P2:=bl P1 ak;have N2:=bl N1 ak;have T2:=hid (ZP.new W 110 [pT s.p]);have aE:Hid (W.heap.size≠w.heap.size+1/\W.heap.size≠w.heap.size+1+1):=hid (by have:=N1.o.lt;omega)
 clear R1 P1 N1 ab r5 r6 ak;go_wp2_with fail;refine(Th s.p 2 _).mono ?_
 rintro e W3 ⟨g1,g2,rfl,au,av,aM,aO,hb⟩;have ac:=bt ao hb;have R3:=bl R2 hb;have P3:=bl P2 hb;have N3:=bl N2 hb;have T3:=bl T2 hb;have G1:=hid au;have G2:=hid av;have S3:=hid (((an.o.sh s O.o).later (ac.o)));clear R2 P2 N2 T2 ao hb au av aM aO;go_wp2_with fail;have ay:W.heap.size≠w.heap.size+1/\W.heap.size≠w.heap.size+1+1:=aE.o;refine JF fun a0 aa=> ?_
 have aL:=(HG.o.t s O.o).tm.2.1;have aS:w.heap.size+1+1<W3.heap.size:=N3.o.lt;refine wpIn_wide.1 (wpIn_rangeFunc_ownH (F:=Fence.wide) (n:=6) rfl (by omega) (gf:=238) (lb:= #[pT g1,pT g2]) (by rw [aa];rfl) trivial (enters_of func238 (by kernel_rfl) rfl)
  (UO 4 s.p s.t s.X s.x s.Y s.y s.rs s.R s.r 2 g1 g2 w W3 aL ac.o ((an.o.sh s O.o).Ej) S3.o.YK G1.o G2.o) belowK_t (belowK_b lr) br (fun _=>rfl)
  (fun _ W=>Bw W3 W)
  (fun c _ W=>DW s w c W)
  (ownFrom_below lr lr)
  (fun c=>fun _ X Y row Z E L=>by
   obtain⟨h0,ZU,N,nc,h1,h2,h3,T,U,M⟩:=Z;exact⟨h0,ZU,N,nc,h1,h2,h3,Xe T E (fun r e=>(L r e).2),Xe U E (fun r e=>(L r e).2),M.grown E M.size (fun k e=>Nat.le_trans (by omega) (L k e).1)⟩)
  br
  (fun x a' W=> ∃ Bx,W3.heap.size<=Bx/\ZP W Bx 40 (YH.cs x.1)/\a'= { tmps:=(a0.tmps.setIfInBounds 16 (.agg (YH.cs x.1).toArray)).setIfInBounds 7 (pT Bx),defers:= []})
  (fun x a' _ X Y row Z E L=>by obtain⟨Bx,e1,e2,e3⟩:=Z;exact⟨Bx,e1,Xe e2 E (fun r e=>(L r e).2),e3⟩)
  ?assign ?body ?done ?stop)
 case assign=>
  rintro l pre x d K m u;obtain⟨⟨j,C,v2⟩,hy⟩: ∃ y,x.1=y:=⟨_,rfl⟩
  simp only [K5.enc,hy,YH.cs,Ru.cs] at u ⊢;clear hy;subst aa;simp only [pp] at u ⊢;gi_wp2
  exact u _ _ ((KeepsOthers.alloc _ _).from _) (br.alloc m.size _) (m.alloc m.size _) ⟨d.heap.size,m.size,ZP.new d _ _,rfl⟩
 case body=>
  rintro l pre x a' d hl ⟨lr,aQ⟩ m ⟨Bx,aP,bX,rfl⟩ aR;obtain⟨⟨j,C,v2⟩,hy⟩: ∃ y,x.1=y:=⟨_,rfl⟩
  have HX:Hid (j∈s.t.ZW/\j.ZV=2/\ZT w (· < w.heap.size) [.Z2] (YV j.Z3) C):=hid (by have h:=x.2;rw [hy] at h;exact h);simp only [hy,YH.cs,Ru.cs] at bX ⊢;clear hy;subst aa;simp only [pp];have x0:d.cell? (aD Bx 0)=some (sT j.name):=cd bX 0;have x2:d.cell? (aD Bx 2)=some (.slice C j.Z3.length v2):=cd bX 2;have d7:d.cell? (aD w.heap.size 7)=some (sT r.key):=cb R3 m 7;have d6:d.cell? (aD W.heap.size 0)=some (pT s.p):=cb T3 m 0
  cases e1:j.name == r.key
  ·gi_wp2
   exact⟨KeepsFrom.refl _ _,Below.refl _ _,m⟩
  ·gi_wp2
   have aJ:W.heap.size≠w.heap.size+1:=ay.1;have aK:W.heap.size≠w.heap.size+1+1:=ay.2;have I:Hid (ZP d.drew (w.heap.size+1) 110 [.pointer none]):=bl P3 m.drew;have ag:Hid (ZP d.drew (w.heap.size+1+1) 27 [.slice none 0 0]):=bl N3 m.drew;have ad:=bt ac m.drew;have ap:Hid (KeepsOthers d d.drew):=hid (KeepsOthers.drew d);have ai:d.drew.cell? (aD W.heap.size 0)=some (pT s.p)/\d.drew.cell? (aD Bx 2)=some (.slice C j.Z3.length v2):=⟨cd (T3.o.below m T3.o.lt).drew 0,cd bX.drew 2⟩
   have aF:Bx≠w.heap.size+1:=by omega
   have aG:Bx≠w.heap.size+1+1:=by omega
   clear x0 x2 d7 d6;refine Yb (S:=fun V=>V.cell? (aD W.heap.size 0)=some (pT s.p)/\V.cell? (aD Bx 2)=some (.slice C j.Z3.length v2)) (by kernel_rfl) (by kernel_rfl) (by rintro⟨a,w,h⟩;exact h) ai (fun J=> ?_);(try simp only [pp])
   refine tk 0 22 J ?_;refine tk 1 23 J ?_;refine tk 2 24 J ?_;generalize d.drew=W5 at*
   refine SR 3 fun K u=> ?_
   have q4:W5.cell? (aD (w.heap.size+1) 0)=some (.pointer none):=ce I 0;have f4:=I.o.frozen 0;go_simp;have ah:=hid (I.o.Zx 0 (pT s.p));have G:=hid (ag.o.WT (p:=(aD (w.heap.size+1) 0)) (by show _≠w.heap.size+1;omega) (pT s.p))
   have ae:=hid (ad.o.setCell (p:=(aD (w.heap.size+1) 0)) (by show _<=w.heap.size+1;omega) (pT s.p));have aq:=hid (ap.o.trans (KeepsOthers.setCell W5 (aD (w.heap.size+1) 0) (pT s.p)));have aj:=And.intro ((cell_far W5 (p:=(aD (w.heap.size+1) 0)) (q:=(aD W.heap.size 0)) (pT s.p) aJ).trans ai.1) ((cell_far W5 (p:=(aD (w.heap.size+1) 0)) (q:=(aD Bx 2)) (pT s.p) aF).trans ai.2);clear q4 f4 I ag ad ap ai J;generalize W5.setCell (aD (w.heap.size+1) 0) (pT s.p)=W6 at*;refine u.out _ _ aj (fun J=> ?_);clear u K;(try simp only [pp])
   refine SR 4 fun K u=> ?_
   have q5:W6.cell? (aD (w.heap.size+1+1) 0)=some (.slice none 0 0):=ce G 0;have f5:=G.o.frozen 0;go_simp;have aB:=hid (G.o.Zx 0 (.slice C j.Z3.length v2));have aC:=hid (ah.o.WT (p:=(aD (w.heap.size+1+1) 0)) (by show _≠w.heap.size+1+1;omega) (.slice C j.Z3.length v2))
   have az:=hid (ae.o.setCell (p:=(aD (w.heap.size+1+1) 0)) (by show _<=w.heap.size+1+1;omega) (.slice C j.Z3.length v2));have aA:=hid (aq.o.trans (KeepsOthers.setCell W6 (aD (w.heap.size+1+1) 0) (.slice C j.Z3.length v2)));have ar:=And.intro ((cell_far W6 (p:=(aD (w.heap.size+1+1) 0)) (q:=(aD W.heap.size 0)) (.slice C j.Z3.length v2) aK).trans aj.1) ((cell_far W6 (p:=(aD (w.heap.size+1+1) 0)) (q:=(aD Bx 2)) (.slice C j.Z3.length v2) aG).trans aj.2);clear q5 f5 ah G ae aq aj J;generalize W6.setCell (aD (w.heap.size+1+1) 0) (.slice C j.Z3.length v2)=W7 at*;refine u.out _ _ ar (fun J=> ?_);clear u K ar J;(try simp only [pp])
   refine wpAnyH_done (by kernel_rfl) ?_ _
   gi_wp2
   have aw:=(HG.o.t s O.o).ru j HX.o.1;exact⟨aA.o.from _,rfl,j.Z3,C,v2,aw.1,aw.2,HX.o.2.2,aC.o,aB.o,az.o⟩
 case done=>
  rintro D ys d hD _ m u;subst aa;have I:Hid (ZP d (w.heap.size+1) 110 [.pointer none]):=bl P3 m;have ag:Hid (ZP d (w.heap.size+1+1) 27 [.slice none 0 0]):=bl N3 m;have ad:Hid (Bw w d):=bt ac m;have d6:d.cell? (aD W.heap.size 0)=some (pT s.p):=cb T3 m 0;have q4:d.cell? (aD (w.heap.size+1) 0)=some (.pointer none):=ce I 0;have f4:=I.o.frozen 0;have ah:=hid (I.o.Zx 0 (pT s.p));have G:=hid (ag.o.WT (p:=(aD (w.heap.size+1) 0)) (by show _≠w.heap.size+1;omega) (pT s.p))
  have ae:=hid (ad.o.setCell (p:=(aD (w.heap.size+1) 0)) (by show _<=w.heap.size+1;omega) (pT s.p));have q5:(d.setCell (aD (w.heap.size+1) 0) (pT s.p)).cell? (aD (w.heap.size+1+1) 0)=some (.slice none 0 0):=ce G 0;have f5:=G.o.frozen 0;have aH:D≠w.heap.size+1:=by omega
  have aI:D≠w.heap.size+1+1:=by omega
  have af:Hid (((d.setCell (aD (w.heap.size+1) 0) (pT s.p)).setCell (aD (w.heap.size+1+1) 0) (.slice none 0 0)).heap[D]?=some (.deferred (some []))):=hid ((Below.heap_setCell _ (aD (w.heap.size+1+1) 0) _ D aI).trans ((Below.heap_setCell d (aD (w.heap.size+1) 0) _ D aH).trans u));have T:=ah.o.WT (p:=(aD (w.heap.size+1+1) 0)) (by show _≠w.heap.size+1+1;omega) (.slice none 0 0)
  have U:=G.o.Zx 0 (.slice none 0 0);have M:=ae.o.setCell (p:=(aD (w.heap.size+1+1) 0)) (by show _<=w.heap.size+1+1;omega) (.slice none 0 0)
  have H4:=hid T;have H5:=hid U;have H6:=hid M;clear T U M u;dsimp only;go_wp2;refine⟨by simp,.inl ⟨_,_,rfl,run_takeDeferred af.o,?_⟩⟩
  have c4:=cell_kept H4.o.cell0 (grownBy_putObj' _ D (.deferred none)) (fun r e=>by cases e;exact⟨_,af.o,rfl⟩);have c5:=cell_kept H5.o.cell0 (grownBy_putObj' _ D (.deferred none)) (fun r e=>by cases e;exact⟨_,af.o,rfl⟩);have am:=H6.o.trans (belowK_b (w:=w) lr _ D _ (.deferred none) (by omega) af.o rfl rfl);refine⟨.tuple #[pT s.p,.slice none 0 0],?_,s,[],none,0,O.o,rfl,by simp,by simp,ZT.nil,am⟩
  simp [results,Tryz.f168,go_sem,c4,c5]
 case stop=>
  rintro D c pre d hD _ ⟨rfl,ZU,N,nc,h1,h2,h3,T,U,M⟩ u;subst aa;gi_wp2
  refine⟨by simp,.inl ⟨_,_,rfl,run_takeDeferred u,?_⟩⟩
  have c4:=cell_kept T.cell0 (grownBy_putObj' _ D (.deferred none)) (fun r e=>by cases e;exact⟨_,u,rfl⟩);have c5:=cell_kept U.cell0 (grownBy_putObj' _ D (.deferred none)) (fun r e=>by cases e;exact⟨_,u,rfl⟩);have am:=M.trans (belowK_b (w:=w) lr d D _ (.deferred none) (by omega) u rfl rfl);refine⟨.tuple #[pT s.p,.slice N ZU.length nc],?_,s,ZU,N,nc,O.o,rfl,h1,h2,h3.later am,am⟩
  simp [results,Tryz.f168,go_sem,c4,c5]
end Go.Proofs.YtnhmoibjlakhjaaGreat
namespace Go.Proofs.YtnhmoibjlakhjaaGreat
open Go.Proofs.Tryz
open Lib (hid)
set_option maxRecDepth 100000
set_option maxHeartbeats 16000000
open Go.RowKit
open Lib (hid)
structure UZ (p:Nat) (q:Option Nat) (w w':World):Prop where
 size:w.heap.size<=w'.heap.size
 block: ∀ k,k<w.heap.size->k≠p->q≠some k->w'.heap[k]?=w.heap[k]?
section
variable {w w' w'' : World} {p : Nat} {q : Option Nat}
theorem UZ.trans (h:UZ p q w w')(g:UZ p q w' w''):UZ p q w w'':=⟨Nat.le_trans h.size g.size,fun k m d j=>(g.block k (Nat.lt_of_lt_of_le m h.size) d j).trans (h.block k m d j)⟩
theorem UZ.ZA (h:Bw w w'):UZ p q w w':=⟨h.size,fun k d _ _=>h.block k d⟩
theorem UZ.grown (h:w.grownBy w' q):UZ p q w w':=⟨h.size,fun k j _ d=>h.block k j (fun e=>d e.symm)⟩
theorem UZ.set (i:Nat)(u:Value):UZ p q w (w.setCell (aD p i) u):=⟨by simp [World.setCell],fun k _ d _=>Below.heap_setCell w (aD p i) u k d⟩
theorem UZ.keeps (h:UZ p q w w')(m:Za w p 112)(s: ∀ k,q=some k->Za w k 61):ZS [112,61] w w':=
 ⟨h.size,fun k t d j=>h.block k d.lt (fun e=>j (by subst e;rw [d.same m];simp)) (fun e=>j (by rw [d.same (s k e)];simp))⟩
end
def Sf.ob (s:Sf):Option Nat:=(Value.slice s.R s.rs.length s.r).ownBlock
theorem TV.mono {w:World}{base base':Nat}{s:Sf}(h:TV w base s)(hb:base'<=base):TV w base' s:=⟨h.YK,Nat.le_trans hb h.pb,h.cl,h.ru,h.own.Yp hb,h.Rz⟩
theorem Et {d:List Sf}(h:d.Pairwise fun a b=>a.p≠b.p/\ ∀ k,(Value.slice a.R a.rs.length a.r).ownBlock=some k->(Value.slice b.R b.rs.length b.r).ownBlock≠some k){a b:Nat}(m:a<d.length)(hb:b<d.length)(s:a≠b):d[a].p≠d[b].p/\ ∀ k,d[a].ob=some k->d[b].ob≠some k:=by
 rw [List.pairwise_iff_getElem] at h;rcases Nat.lt_or_gt_of_ne s with j | j
 ·exact h a b m hb j
 ·obtain⟨C,D⟩:=h b a hb m j;exact⟨Ne.symm C,fun k E u=>D k u E⟩
def Sf.put (s:Sf)(rs:List X3)(R:oA)(r:Nat):Sf:=⟨s.p,s.t,s.X,s.x,s.Y,s.y,rs,R,r⟩
theorem WO.Fm {w w':World}{base g:Nat}{d:List Sf}(h:WO w base g d){i:Nat}(j:i<d.length)(s:UZ d[i].p d[i].ob w w'):ZS [112,61] w w':=
 s.keeps (h.sh _ (List.getElem_mem j)).YK.Xr (fun k m=>Yx (h.sh _ (List.getElem_mem j)).own m)
theorem WO.EJ {w w':World}{base g:Nat}{d:List Sf}(h:WO w base g d){i:Nat}(D:i<d.length)(rs:List X3)(R:oA)(r:Nat)(T:UZ d[i].p d[i].ob w w')
  (hB:ZP w' d[i].p 112 (Sf.cs (d[i].put rs R r))) (hO:w'.ownsRow base 61 1 (.slice R rs.length r) rs.length (rs.flatMap X3.cs)) (hV: ∀ x∈rs,ZT w' (Xs w' VT) Zh (x.1.map Vl.da) x.2.1)
  (hN: ∀ k,(Value.slice R rs.length r).ownBlock=some k->d[i].ob=some k∨w.heap.size<=k):WO w' base g (d.set i (d[i].put rs R r)):=by
 have E:=h.Fm D T;have F:=fun {a b:Nat} (O:a<d.length) (hb:b<d.length) (V:a≠b)=>Et h.nd O hb V
 obtain⟨L,c,hb,hp⟩:=h.st;refine⟨⟨L,c,by rw [List.length_set];exact hb.keeps E (by decide),fun hn=> ?_⟩,h.gb,fun s U=> ?_,?_⟩
 ·obtain⟨ad,e,ht,hr⟩:=(hp.keeps E (by decide)) (by simpa using hn);refine⟨ad,e,ht,fun j s U=> ?_⟩
  obtain⟨C,J⟩:=List.getElem?_eq_some_iff.1 U
  have G:j<d.length:=by simpa using C
  have m:=hr j d[j] (List.getElem?_eq_getElem G);have h2:s.p=d[j].p:=by
   rw [List.getElem_set] at J;split at J
   ·rename_i e;subst e;rw [<-J];rfl
   ·rw [<-J]
  rw [h2];exact m
 ·obtain⟨j,C,rfl⟩:=List.getElem_of_mem U;have G:j<d.length:=by simpa using C
  rw [List.getElem_set];split
  ·have m:=h.sh _ (List.getElem_mem D);exact⟨hB,m.pb,ZI m.cl E (by decide),ZI m.ru E (by decide),hO,hV⟩
  ·rename_i N;have m:=h.sh _ (List.getElem_mem G);obtain⟨n1,n2⟩:=F D G N;have hq: ∀ k,d[i].ob=some k->Za w k 61:=fun k u=>Yx (h.sh _ (List.getElem_mem D)).own u
   refine⟨?_,m.pb,ZI m.cl E (by decide),ZI m.ru E (by decide),Y9 m.own fun k u=> ?_,fun x hx=>ZI (m.Rz x hx) E (by decide)⟩
   ·exact(T.block _ m.YK.lt (Ne.symm n1) (fun e=>absurd ((hq _ e).same m.YK.Xr) (by decide))).trans m.YK
   ·refine T.block k (YB m.own u) (fun e=> ?_) (fun e=>n2 k e u)
    subst e;exact absurd ((Yx m.own u).same (h.sh _ (List.getElem_mem D)).YK.Xr) (by decide)
 ·rw [List.pairwise_iff_getElem];intro a b O hb V;have K:a<d.length:=by simpa using O
  have M:b<d.length:=by simpa using hb
  have Z: ∀ {j:Nat} (C:j<d.length) {k:Nat},d[j].ob=some k->k<w.heap.size:=fun C k u=>YB (h.sh _ (List.getElem_mem C)).own u
  have key: ∀ {j:Nat} (C:j<d.length),i≠j-> ∀ k,(Value.slice R rs.length r).ownBlock=some k->d[j].ob≠some k:=fun C N k u I=>by
   rcases hN k u with m | m
   ·exact(F D C N).2 k m I
   ·have:=Z C I;omega
  simp only [List.getElem_set];split
  ·rename_i e;subst e;rw [if_neg (by omega)];exact⟨(F D M (by omega)).1,fun k u=>key M (by omega) k u⟩
  ·split
   ·rename_i e1 e;subst e;exact⟨(F K D (by omega)).1,fun k u I=>key K (by omega) k I u⟩
   ·exact F K M (by omega)
theorem Ld {d:List Sf}{i:Nat}(h:i<d.length)(rs:List X3)(R:oA)(r:Nat):(d.set i (d[i].put rs R r)).map (·.t)=d.map (·.t):=Jk (·.t) d i h (d[i].put rs R r) rfl
theorem WQ.EJ {d:List Sf}(h:WQ d){i:Nat}(m:i<d.length)(rs:List X3)(R:oA)(r:Nat)(C:rs.length<=64)(u: ∀ x∈rs,XK d[i].t.Z3 x.1=true):WQ (d.set i (d[i].put rs R r)):=by
 have key: ∀ s∈d.set i (d[i].put rs R r),s=d[i].put rs R r∨s∈d:=fun s j=>(List.mem_or_eq_of_mem_set j).symm
 refine⟨by rw [List.length_set];exact h.n,fun s j=> ?_,fun s j=> ?_⟩
 ·rw [Ld m];rcases key s j with rfl | j
  ·exact h.t d[i] (List.getElem_mem m)
  ·exact h.t s j
 ·rcases key s j with rfl | j
  ·exact⟨C,u⟩
  ·exact h.r s j
theorem Mc {a b:lU} : ∀ {j:List Sf}{s:Sf},j.find? (Ur a b)=some s-> ∃ i,∃ u:i<j.length,j[i]=s/\ ∀ d:Sf,d.t=s.t->(j.set i d).find? (Ur a b)=some d
 | [],s,h=>by cases h
 | x ::l,s,h=>by
  rw [List.find?_cons] at h
  cases hx:Ur a b x with
  | true=>
   rw [hx] at h;injection h with h
   subst h;refine⟨0,by simp,rfl,fun d m=> ?_⟩
   have:Ur a b d=true:=by unfold Ur at hx ⊢;rw [m];exact hx
   rw [List.set_cons_zero,List.find?_cons,this]
  | false=>
   rw [hx] at h;obtain⟨i,u,C,D⟩:=Mc h;refine⟨i+1,by simpa using u,by simpa using C,fun d m=> ?_⟩
   rw [List.set_cons_succ,List.find?_cons,hx];exact D d m
theorem H7 {C:List Sf}{o:Ob}{a b:lU}{s:Sf}(u:C.map (·.t)=o.Z8)(h:C.find? (Ur a b)=some s): ∃ i,∃ d:i<o.Z8.length,XA o a b=some i/\o.Z8[i]=s.t:=by
 have m: ∀ {l:List Sf} {s:Sf},l.find? (Ur a b)=some s-> ∃ i,∃ d:i< (l.map (·.t)).length,((l.map (·.t)).findIdx? fun x=>x.Z9 == a && x.name == b)=some i/\(l.map (·.t))[i]=s.t:=by
  intro l;induction l with
  | nil=>intro s h;cases h
  | cons x l ih=>
   intro s h;rw [List.find?_cons] at h
   cases hx:Ur a b x with
   | true=>
    rw [hx] at h;injection h with h
    subst h;refine⟨0,by simp,?_,rfl⟩
    unfold Ur at hx;simp only [List.map_cons,List.findIdx?_cons,hx,if_true]
   | false=>
    rw [hx] at h;obtain⟨i,d,m,j⟩:=ih h;refine⟨i+1,by simpa using d,?_,by simpa using j⟩
    unfold Ur at hx;simp only [List.map_cons,List.findIdx?_cons,hx,m];rfl
 obtain⟨i,d,j,D⟩:=m h;rw [u] at j;exact⟨i,by rw [<-u];exact d,j,by simp only [<-u];exact D⟩
def Sx (w:World)(base k:Nat):Prop:=k<base∨Xs w VT k
theorem Sb {w:World}{base:Nat}{sh:List Sh}{ds:List (List Da)}{A:oA}(h:ZT w (Sx w base) sh ds A)(hb:base<=w.heap.size):rA w sh ds A:=h.YW (fun k d=>by
 rcases d with d | ⟨t,_,j⟩
 ·exact Nat.lt_of_lt_of_le d hb
 ·exact j.lt) (fun _ _=>rfl)
theorem Pu {us:List TypeId}{w w':World}{base:Nat}{sh:List Sh}{ds:List (List Da)}{A:oA}(h:ZT w (Sx w base) sh ds A)(s:ZS us w w')(hd: ∀ t,t∈VT->t∉us)(hb:Below base w w'):ZT w' (Sx w' base) sh ds A:=h.YW (fun k u=>by
 rcases u with m | ⟨t,j,d⟩
 ·exact .inl m
 ·exact .inr ⟨t,j,s.Xr d (hd t j)⟩) (fun p d=>by
 rcases d with m | ⟨t,j,d⟩
 ·exact hb.cell m
 ·exact World.cell?_of_block (s.block _ t d (hd t j)))
theorem Pt {w w':World}{base:Nat}{sh:List Sh}{ds:List (List Da)}{A:oA}(h:ZT w (Sx w base) sh ds A)(hb:Bw w w')(d:base<=w.heap.size):ZT w' (Sx w' base) sh ds A:=Pu (us:= []) h (ZS.ZA hb lr) (by simp) (hb.mono d)
end Go.Proofs.YtnhmoibjlakhjaaGreat
