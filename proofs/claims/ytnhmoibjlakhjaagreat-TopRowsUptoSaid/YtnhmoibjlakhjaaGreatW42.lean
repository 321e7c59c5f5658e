/- Lemmas, each under its own conditions. -/
import Derived.Test.YtnhmoibjlakhjaaGreatW37
set_option linter.all false
namespace Go.Proofs.YtnhmoibjlakhjaaGreat
open Go.Proofs.Tryz
open Lib (hid)
set_option maxRecDepth 100000
set_option maxHeartbeats 16000000
open Go.RowKit
structure KZ (w W:World) (q:Nat) (xs ss us:lV):Prop where
 cm:ZP W w.heap.size 43 xs
 tx:ZP W q 130 ss
 fl:ZP W (q+1) 131 us
 Rw:Bw w W
theorem KZ.drewN {w W:World}{q:Nat}{xs d us:lV}(h:KZ w W q xs d us)(m:Nat):KZ w (W.drewN m) q xs d us:=⟨h.cm.drewN m,h.tx.drewN m,h.fl.drewN m,below_drewN h.Rw m⟩
theorem KZ.new {w W:World}{xs:lV}(hb:Bw w W)(j:ZP W w.heap.size 43 xs)(d us:lV):KZ w ((W.alloc (.cells d.toArray 130)).alloc (.cells us.toArray 131)) W.heap.size xs d us:=by
 have s:(W.alloc (.cells d.toArray 130)).heap.size=W.heap.size+1:=by simp
 have m:=hb.size;refine⟨(j.alloc _).alloc _,(ZP.new W _ _).alloc _,?_,(hb.alloc m _).alloc (by omega) _⟩
 have h:=ZP.new (W.alloc (.cells d.toArray 130)) 131 us;rwa [s] at h
def JA (b0 b1 b2 b3:Bool)(s0 s1 s2 s3:lU)(j:Nat):Prop:=
 (0<j->Yh b0 s0=true)/\(1<j->Yh b1 s1=true)/\(2<j->Yh b2 s2=true)/\(3<j->Yh b3 s3=true)
theorem Gk (x:Cm)(A:oA)(k:Nat)(B:oA)(n:Nat)(w:World)(ht:x.Zo 1099511627776):
  cQ 29 #[.agg (x.cs A k B n).toArray] w fun e w'=>e= .returned (.bool (TC x))/\Bw w w':=by
 have HT:=hid ht;have ai:=iN 43 17;have s:Hid (TC x=(XC x.ZV && Zw x.ZH && Ra x && Pk x)):=hid rfl;have J:Hid (Ra x=(Yh (Vy x.ZV).1 x.Z9 && Yh (Vy x.ZV).2.1 x.ZZ && Yh (Vy x.ZV).2.2.1 x.name && Yh (Vy x.ZV).2.2.2 x.ZQ)):=hid rfl;have L:Hid (Pk x=if x.ZV=3 then TX x.ZX && x.right == 0 && !x.Zq
 else if x.ZV=5 then TX x.ZX && x.right == 0 && !x.Zq && x.Z3.length == 1
 else if x.ZV=7 then x.Z3.length == 0 && x.right == 0 && !x.Zq
 else if x.ZV=14∨x.ZV=15 then(x.right == 1 || x.right == 2) && TX x.ZX && x.Z3.length == 0 && (x.ZV == 14 || !x.Zq)
 else TX x.ZX && x.Z3.length == 0 && x.right == 0 && !x.Zq):=hid rfl
 have ak:Hid (Below w.heap.size w (w.alloc (.cells #[i6 x.ZV,sT x.ZH,sT x.Z9,sT x.ZZ,sT x.name,sT x.ZQ,sl A x.Z3 k,sT x.ZX.name,i6 x.ZX.ZV,sl B x.ZX.Z3 n,i6 x.ZX.low,i6 x.ZX.ZB,sT x.ZX.Z9,sT x.ZX.ZZ,sT x.ZX.key,i6 x.right,.bool x.Zq] 43))):=hid (br.alloc lr _);have P0:Hid (ZP (w.alloc (.cells #[i6 x.ZV,sT x.ZH,sT x.Z9,sT x.ZZ,sT x.name,sT x.ZQ,sl A x.Z3 k,sT x.ZX.name,i6 x.ZX.ZV,sl B x.ZX.Z3 n,i6 x.ZX.low,i6 x.ZX.ZB,sT x.ZX.Z9,sT x.ZX.ZZ,sT x.ZX.key,i6 x.right,.bool x.Zq] 43)) w.heap.size 43 [i6 x.ZV,sT x.ZH,sT x.Z9,sT x.ZZ,sT x.name,sT x.ZQ,sl A x.Z3 k,sT x.ZX.name,i6 x.ZX.ZV,sl B x.ZX.Z3 n,i6 x.ZX.low,i6 x.ZX.ZB,sT x.ZX.Z9,sT x.ZX.ZZ,sT x.ZX.key,i6 x.right,.bool x.Zq]):=hid (ZP.new w _ _);have cU:=Gl x A k B n (w.alloc (.cells #[i6 x.ZV,sT x.ZH,sT x.Z9,sT x.ZZ,sT x.name,sT x.ZQ,sl A x.Z3 k,sT x.ZX.name,i6 x.ZX.ZV,sl B x.ZX.Z3 n,i6 x.ZX.low,i6 x.ZX.ZB,sT x.ZX.Z9,sT x.ZX.ZZ,sT x.ZX.key,i6 x.right,.bool x.Zq] 43));have cB:=fun W=>Ih x.ZX B n W HT.o.2.2.2.2.2.2.1 HT.o.2.2.2.2.2.2.2
 generalize TC x=res at*;generalize Pk x=me at*;generalize Ra x=uo at*;generalize TX x.ZX=br at*;unfold Cm.cs at cU ⊢;unfold Ru.cs at cB;unfold JO Wi at cU;generalize Vy x.ZV=uu at*;obtain⟨U,V,Z,b3⟩:=uu;dsimp only at cU J;clear ht;generalize x.Z9=s0 at*;generalize x.ZZ=s1 at*;generalize x.name=s2 at*;generalize x.ZQ=s3 at*;go_enter func29,ntmps29
 go_wp2_with (first | (refine lO P0 ai underlying43 ?_) | fail);refine cU.mono ?_
 rintro e W1 ⟨rfl,hb⟩;have ae:=bt ak hb;have P1:=bl P0 hb;clear cU hb P0 ak;have q1:=ce P1 1
 cases hok:XC x.ZV
 ·have d:Hid (res=false):=hid (by rw [s.o,hok];rfl);rw [hok] at s;clear hok s;go_wp2;go_ret;refine⟨by rw [d.o];rfl,?_⟩
  exact(ae.o.alloc ae.o.size _).alloc (by have:=ae.o.size;simp;omega) _
 rw [hok] at s;clear hok;have hM:=KZ.new ae.o P1.o [sT s0,sT s1,sT s2,sT s3] [.bool U,.bool V,.bool Z,.bool b3];clear ae P1 q1;have q1:((W1.alloc (.cells #[sT s0,sT s1,sT s2,sT s3] 130)).alloc (.cells #[.bool U,.bool V,.bool Z,.bool b3] 131)).cell? (aN w 1)=some (sT x.ZH):=hM.cm.cell 1;have E:=hid hM;clear hM;go_wp2_with fail;generalize ((W1.alloc (.cells #[sT s0,sT s1,sT s2,sT s3] 130)).alloc (.cells #[.bool U,.bool V,.bool Z,.bool b3] 131))=W2 at*;generalize W1.heap.size=q at*;refine(YI _ _).mono ?_
 rintro e W3 ⟨rfl,m1,rfl⟩;have ah:=hid (E.o.drewN m1);clear E q1;generalize W2.drewN m1=W3 at*;clear W2
 cases hna:Zw x.ZH
 ·have d:Hid (res=false):=hid (by rw [s.o,hna];rfl);rw [hna] at s;clear hna s;go_wp2;go_ret;exact⟨by rw [d.o];rfl,ah.o.Rw⟩
 rw [hna] at s;clear hna;have aq:=iN 130 4;have am:=hid ah.o.tx;go_wp2_with (first | (refine lO am aq underlying130 ?_) | fail);go_loopw [24] (fun i wr=> ∃ j:Nat,j<=4/\i=i6 j/\Hid (JA U V Z b3 s0 s1 s2 s3 j)/\Hid (KZ w wr q [i6 x.ZV,sT x.ZH,sT s0,sT s1,sT s2,sT s3,sl A x.Z3 k,sT x.ZX.name,i6 x.ZX.ZV,sl B x.ZX.Z3 n,i6 x.ZX.low,i6 x.ZX.ZB,sT x.ZX.Z9,sT x.ZX.ZZ,sT x.ZX.key,i6 x.right,.bool x.Zq] [sT s0,sT s1,sT s2,sT s3] [.bool U,.bool V,.bool Z,.bool b3])) (fun i _=>4 - (intOf i).toNat)
 case atStart=>exact⟨0,Nat.zero_le _,rfl,hid (by unfold JA;omega),ah⟩
 case round=>
  obtain⟨j,hj,rfl,F,E⟩:=hrel;clear am ah;by_cases hlt:j<4
  ·have hq:(j=0∨j=1∨j=2)∨j=3:=by omega
   have f0:wr.cell? (aD (q+1) 0)=some (.bool U):=E.o.fl.cell 0;have f1:wr.cell? (aD (q+1) 1)=some (.bool V):=E.o.fl.cell 1;have f2:wr.cell? (aD (q+1) 2)=some (.bool Z):=E.o.fl.cell 2;have f3:wr.cell? (aD (q+1) 3)=some (.bool b3):=E.o.fl.cell 3;rcases hq with (rfl | rfl | rfl) | rfl
   ·have aj: ∀ W,(Instr.index 130 (.agg #[sT s0,sT s1,sT s2,sT s3]) (i6 0)).run prog W= .ok (sT s0) W:=fun W=>by kernel_rfl
    have K:=hid (fun W=>YI s0 W);have u:=E
    cases U
    ·cases s0 with
     | nil=>
      have I:Yh false []=true:=rfl;go_wp2;go_roundw
      case rel=>exact⟨1,by omega,by go_num,hid ⟨fun _=>I,fun h=>by omega,fun h=>by omega,fun h=>by omega⟩,u⟩
      case measure=>simp [intOf]
     | cons c cc=>
      have m:Yh false (c ::cc)=false:=rfl;go_wp2;have d:Hid (res=false):=hid (by rw [s.o,J.o,m];simp)
      clear m s;go_ret;exact⟨by rw [d.o];rfl,u.o.Rw⟩
    ·cases s0 with
     | nil=>
      have m:Yh true []=false:=rfl;go_wp2;have d:Hid (res=false):=hid (by rw [s.o,J.o,m];simp)
      clear m s;go_ret;exact⟨by rw [d.o];rfl,u.o.Rw⟩
     | cons c cc=>
      have D:Yh true (c ::cc)=Zw (c ::cc):=rfl;clear u;go_wp2_with fail;refine(K.o _).mono ?_
      rintro e W5 ⟨rfl,m2,rfl⟩;have u:=hid (E.o.drewN m2)
      cases hnn:Zw (c ::cc)
      ·have m:Yh true (c ::cc)=false:=D.trans hnn;clear K hnn D;go_wp2;have d:Hid (res=false):=hid (by rw [s.o,J.o,m];simp)
       clear m s;go_ret;exact⟨by rw [d.o];rfl,u.o.Rw⟩
      ·have I:Yh true (c ::cc)=true:=D.trans hnn;clear K hnn D;go_wp2;go_roundw
       case rel=>exact⟨1,by omega,by go_num,hid ⟨fun _=>I,fun h=>by omega,fun h=>by omega,fun h=>by omega⟩,u⟩
       case measure=>simp [intOf]
   ·have aj: ∀ W,(Instr.index 130 (.agg #[sT s0,sT s1,sT s2,sT s3]) (i6 1)).run prog W= .ok (sT s1) W:=fun W=>by kernel_rfl
    have K:=hid (fun W=>YI s1 W);have u:=E
    cases V
    ·cases s1 with
     | nil=>
      have I:Yh false []=true:=rfl;go_wp2;go_roundw
      case rel=>exact⟨2,by omega,by go_num,hid ⟨F.o.1∘(fun _=>by omega),fun _=>I,fun h=>by omega,fun h=>by omega⟩,u⟩
      case measure=>simp [intOf]
     | cons c cc=>
      have m:Yh false (c ::cc)=false:=rfl;go_wp2;have d:Hid (res=false):=hid (by rw [s.o,J.o,m];simp)
      clear m s;go_ret;exact⟨by rw [d.o];rfl,u.o.Rw⟩
    ·cases s1 with
     | nil=>
      have m:Yh true []=false:=rfl;go_wp2;have d:Hid (res=false):=hid (by rw [s.o,J.o,m];simp)
      clear m s;go_ret;exact⟨by rw [d.o];rfl,u.o.Rw⟩
     | cons c cc=>
      have D:Yh true (c ::cc)=Zw (c ::cc):=rfl;clear u;go_wp2_with fail;refine(K.o _).mono ?_
      rintro e W5 ⟨rfl,m2,rfl⟩;have u:=hid (E.o.drewN m2)
      cases hnn:Zw (c ::cc)
      ·have m:Yh true (c ::cc)=false:=D.trans hnn;clear K hnn D;go_wp2;have d:Hid (res=false):=hid (by rw [s.o,J.o,m];simp)
       clear m s;go_ret;exact⟨by rw [d.o];rfl,u.o.Rw⟩
      ·have I:Yh true (c ::cc)=true:=D.trans hnn;clear K hnn D;go_wp2;go_roundw
       case rel=>exact⟨2,by omega,by go_num,hid ⟨F.o.1∘(fun _=>by omega),fun _=>I,fun h=>by omega,fun h=>by omega⟩,u⟩
       case measure=>simp [intOf]
   ·have aj: ∀ W,(Instr.index 130 (.agg #[sT s0,sT s1,sT s2,sT s3]) (i6 2)).run prog W= .ok (sT s2) W:=fun W=>by kernel_rfl
    have K:=hid (fun W=>YI s2 W);have u:=E
    cases Z
    ·cases s2 with
     | nil=>
      have I:Yh false []=true:=rfl;go_wp2;go_roundw
      case rel=>exact⟨3,by omega,by go_num,hid ⟨F.o.1∘(fun _=>by omega),F.o.2.1∘(fun _=>by omega),fun _=>I,fun h=>by omega⟩,u⟩
      case measure=>simp [intOf]
     | cons c cc=>
      have m:Yh false (c ::cc)=false:=rfl;go_wp2;have d:Hid (res=false):=hid (by rw [s.o,J.o,m];simp)
      clear m s;go_ret;exact⟨by rw [d.o];rfl,u.o.Rw⟩
    ·cases s2 with
     | nil=>
      have m:Yh true []=false:=rfl;go_wp2;have d:Hid (res=false):=hid (by rw [s.o,J.o,m];simp)
      clear m s;go_ret;exact⟨by rw [d.o];rfl,u.o.Rw⟩
     | cons c cc=>
      have D:Yh true (c ::cc)=Zw (c ::cc):=rfl;clear u;go_wp2_with fail;refine(K.o _).mono ?_
      rintro e W5 ⟨rfl,m2,rfl⟩;have u:=hid (E.o.drewN m2)
      cases hnn:Zw (c ::cc)
      ·have m:Yh true (c ::cc)=false:=D.trans hnn;clear K hnn D;go_wp2;have d:Hid (res=false):=hid (by rw [s.o,J.o,m];simp)
       clear m s;go_ret;exact⟨by rw [d.o];rfl,u.o.Rw⟩
      ·have I:Yh true (c ::cc)=true:=D.trans hnn;clear K hnn D;go_wp2;go_roundw
       case rel=>exact⟨3,by omega,by go_num,hid ⟨F.o.1∘(fun _=>by omega),F.o.2.1∘(fun _=>by omega),fun _=>I,fun h=>by omega⟩,u⟩
       case measure=>simp [intOf]
   ·have aj: ∀ W,(Instr.index 130 (.agg #[sT s0,sT s1,sT s2,sT s3]) (i6 3)).run prog W= .ok (sT s3) W:=fun W=>by kernel_rfl
    have K:=hid (fun W=>YI s3 W);have u:=E
    cases b3
    ·cases s3 with
     | nil=>
      have I:Yh false []=true:=rfl;go_wp2;go_roundw
      case rel=>exact⟨4,by omega,by go_num,hid ⟨F.o.1∘(fun _=>by omega),F.o.2.1∘(fun _=>by omega),F.o.2.2.1∘(fun _=>by omega),fun _=>I⟩,u⟩
      case measure=>simp [intOf]
     | cons c cc=>
      have m:Yh false (c ::cc)=false:=rfl;go_wp2;have d:Hid (res=false):=hid (by rw [s.o,J.o,m];simp)
      clear m s;go_ret;exact⟨by rw [d.o];rfl,u.o.Rw⟩
    ·cases s3 with
     | nil=>
      have m:Yh true []=false:=rfl;go_wp2;have d:Hid (res=false):=hid (by rw [s.o,J.o,m];simp)
      clear m s;go_ret;exact⟨by rw [d.o];rfl,u.o.Rw⟩
     | cons c cc=>
      have D:Yh true (c ::cc)=Zw (c ::cc):=rfl;clear u;go_wp2_with fail;refine(K.o _).mono ?_
      rintro e W5 ⟨rfl,m2,rfl⟩;have u:=hid (E.o.drewN m2)
      cases hnn:Zw (c ::cc)
      ·have m:Yh true (c ::cc)=false:=D.trans hnn;clear K hnn D;go_wp2;have d:Hid (res=false):=hid (by rw [s.o,J.o,m];simp)
       clear m s;go_ret;exact⟨by rw [d.o];rfl,u.o.Rw⟩
      ·have I:Yh true (c ::cc)=true:=D.trans hnn;clear K hnn D;go_wp2;go_roundw
       case rel=>exact⟨4,by omega,by go_num,hid ⟨F.o.1∘(fun _=>by omega),F.o.2.1∘(fun _=>by omega),F.o.2.2.1∘(fun _=>by omega),fun _=>I⟩,u⟩
       case measure=>simp [intOf]
  ·obtain rfl:j=4:=by omega
   have an:Hid (uo=true):=hid (by rw [J.o,F.o.1 (by omega),F.o.2.1 (by omega),F.o.2.2.1 (by omega),F.o.2.2.2 (by omega)];rfl);have d:Hid (res=me):=hid (by rw [s.o,an.o];simp)
   clear s J an F hlt hj;have C:=hid E.o.cm;have M:=hid E.o.Rw;clear E;have ao:(x.Z3.length == 0)=((x.Z3.length:Int) == 0):=by rw [Bool.eq_iff_iff];simp
   have ap:(x.Z3.length == 1)=((x.Z3.length:Int) == 1):=by rw [Bool.eq_iff_iff];simp;omega
   rw [ao,ap] at L;clear ao ap;generalize hk0:((x.Z3.length:Int) == 0)=l0 at*;generalize hk1:((x.Z3.length:Int) == 1)=l1 at*;generalize hr0:(x.right == 0)=r0 at*;generalize hr1:(x.right == 1)=r1 at*;generalize hr2:(x.right == 2)=r2 at*;generalize x.Zq=op at*;generalize x.ZV=kk at*;have cellsOf: ∀ W,ZP W w.heap.size 43 [i6 kk,sT x.ZH,sT s0,sT s1,sT s2,sT s3,sl A x.Z3 k,sT x.ZX.name,i6 x.ZX.ZV,sl B x.ZX.Z3 n,i6 x.ZX.low,i6 x.ZX.ZB,sT x.ZX.Z9,sT x.ZX.ZZ,sT x.ZX.key,i6 x.right,.bool op]->W.cell? (aN w 0)=some (i6 kk)/\W.cell? (aN w 6)=some (sl A x.Z3 k)/\W.cell? (aN w 15)=some (i6 x.right)/\W.cell? (aN w 16)=some (.bool op):=fun W h=>⟨h.cell 0,h.cell 6,h.cell 15,h.cell 16⟩
   have T:=hid cellsOf;have CB:=hid cB;clear cellsOf cB;obtain⟨q0,q6,ac,ad⟩:=T.o _ C.o;have p7:=ce C 7;have p8:=ce C 8;have p9:=ce C 9;have ar:=ce C 10;have au:=ce C 11;have av:=ce C 12;have aw:=ce C 13;have ax:=ce C 14;by_cases h3:kk=3
   ·subst h3;have G:Hid (res=(br && r0 && !op)):=hid (by rw [d.o,L.o];simp)
    clear d L
    cases br <;> cases r0 <;> cases op
    all_goals (have O:=G.o;clear G;subst O)
    all_goals go_wp2_with fail
    all_goals first
     |(go_ret
       exact⟨rfl,M.o⟩)
     |(refine(CB.o _).mono ?_
       rintro e W6 ⟨rfl,hb⟩;have N:=bt M hb;obtain⟨af,ag,aa,ab⟩:=T.o _ (C.o.below hb C.o.lt);clear hb q0 q6 ac ad;go_wp2;go_ret;exact⟨rfl,N.o⟩)
   by_cases h5:kk=5
   ·subst h5;have G:Hid (res=(br && r0 && !op && l1)):=hid (by rw [d.o,L.o];simp)
    clear d L
    cases br <;> cases r0 <;> cases op <;> cases l1
    all_goals (have O:=G.o;clear G;subst O)
    all_goals go_wp2_with fail
    all_goals first
     |(go_ret
       exact⟨rfl,M.o⟩)
     |(refine(CB.o _).mono ?_
       rintro e W6 ⟨rfl,hb⟩;have N:=bt M hb;obtain⟨af,ag,aa,ab⟩:=T.o _ (C.o.below hb C.o.lt);clear hb q0 q6 ac ad;go_wp2;go_ret;exact⟨rfl,N.o⟩)
   by_cases h7:kk=7
   ·subst h7;have G:Hid (res=(l0 && r0 && !op)):=hid (by rw [d.o,L.o];simp)
    clear d L
    cases l0 <;> cases r0 <;> cases op
    all_goals (have O:=G.o;clear G;subst O)
    all_goals go_wp2_with fail
    all_goals first
     |(go_ret
       exact⟨rfl,M.o⟩)
     |(refine(CB.o _).mono ?_
       rintro e W6 ⟨rfl,hb⟩;have N:=bt M hb;obtain⟨af,ag,aa,ab⟩:=T.o _ (C.o.below hb C.o.lt);clear hb q0 q6 ac ad;go_wp2;go_ret;exact⟨rfl,N.o⟩)
   by_cases h14:kk=14
   ·subst h14;have G:Hid (res=((r1 || r2) && br && l0 && (true || !op))):=hid (by rw [d.o,L.o];simp)
    clear d L
    cases r1 <;> cases r2 <;> cases br <;> cases l0
    all_goals (have O:=G.o;clear G;subst O)
    all_goals go_wp2_with fail
    all_goals first
     |(go_ret
       exact⟨rfl,M.o⟩)
     |(refine(CB.o _).mono ?_
       rintro e W6 ⟨rfl,hb⟩;have N:=bt M hb;obtain⟨af,ag,aa,ab⟩:=T.o _ (C.o.below hb C.o.lt);clear hb q0 q6 ac ad;go_wp2;go_ret;exact⟨rfl,N.o⟩)
   by_cases h15:kk=15
   ·subst h15;have G:Hid (res=((r1 || r2) && br && l0 && (false || !op))):=hid (by rw [d.o,L.o];simp)
    clear d L
    cases r1 <;> cases r2 <;> cases br <;> cases l0 <;> cases op
    all_goals (have O:=G.o;clear G;subst O)
    all_goals go_wp2_with fail
    all_goals first
     |(go_ret
       exact⟨rfl,M.o⟩)
     |(refine(CB.o _).mono ?_
       rintro e W6 ⟨rfl,hb⟩;have N:=bt M hb;obtain⟨af,ag,aa,ab⟩:=T.o _ (C.o.below hb C.o.lt);clear hb q0 q6 ac ad;go_wp2;go_ret;exact⟨rfl,N.o⟩)
   have G:Hid (res=(br && l0 && r0 && !op)):=hid (by rw [d.o,L.o];simp [h3,h5,h7,h14,h15]);have g3:(kk == 3)=false:=by simpa using h3
   have g5:(kk == 5)=false:=by simpa using h5
   have g7:(kk == 7)=false:=by simpa using h7
   have g14:(kk == 14)=false:=by simpa using h14
   have g15:(kk == 15)=false:=by simpa using h15
   clear h3 h5 h7 h14 h15;clear d L
   cases br <;> cases l0 <;> cases r0 <;> cases op
   all_goals (have O:=G.o;clear G;subst O)
   all_goals go_wp2_with fail
   all_goals first
    |(go_ret
      exact⟨rfl,M.o⟩)
    |(refine(CB.o _).mono ?_
      rintro e W6 ⟨rfl,hb⟩;have N:=bt M hb;obtain⟨af,ag,aa,ab⟩:=T.o _ (C.o.below hb C.o.lt);clear hb q0 q6 ac ad;go_wp2;go_ret;exact⟨rfl,N.o⟩)
theorem Jb (s:Sc)(g:Nat)(t:List UInt8)(w:World)(j:g<w.heap.size)(h:w.cell? ⟨g,2,none⟩=some (.string (Z2 t))):
  Calls prog 32 #[.agg s.cs.toArray,.pointer (some ⟨g,0,none⟩)] w fun e w'=>e= .returned (.bool (s.name == t))/\Below w.heap.size w w':=by
 have d:Hid (Below w.heap.size w (w.alloc (.cells #[.string (Z2 s.name),.string (Z2 s.ZN)] 89))):=hid (br.alloc lr _);have m:(w.alloc (.cells #[.string (Z2 s.name),.string (Z2 s.ZN)] 89)).cell? ⟨g,2,none⟩=some (.string (Z2 t)):=((d.out).cell (p:=⟨g,2,none⟩) j).trans h;unfold Sc.cs;go_enter func32,ntmps32
 go_wp2;go_ret;exact⟨rfl,d.out⟩
theorem Mz (s:Sc)(g:Nat)(t:List UInt8)(w:World)(j:g<w.heap.size)(h:w.cell? ⟨g,2,none⟩=some (.string (Z2 t))):
  Calls prog 73 #[.agg s.cs.toArray,.pointer (some ⟨g,0,none⟩)] w fun e w'=>e= .returned (.bool (s.name == t))/\Below w.heap.size w w':=by
 have d:Hid (Below w.heap.size w (w.alloc (.cells #[.string (Z2 s.name),.string (Z2 s.ZN)] 89))):=hid (br.alloc lr _);have m:(w.alloc (.cells #[.string (Z2 s.name),.string (Z2 s.ZN)] 89)).cell? ⟨g,2,none⟩=some (.string (Z2 t)):=((d.out).cell (p:=⟨g,2,none⟩) j).trans h;unfold Sc.cs;go_enter func73,ntmps73
 go_wp2;go_ret;exact⟨rfl,d.out⟩
def Ca.new:Ca:=⟨0,0,⟨[],[]⟩,⟨[Yi],[]⟩,[]⟩
theorem MY (w:World):Calls prog 6 #[] w fun e w'=> ∃ A,e= .returned (.agg (Ca.new.cs A).toArray)/\Ta w' Ca.new A/\Below w.heap.size w w':=by
 go_enter func6,ntmps6
 go_wp2;have D:(w.alloc (.cells #[.int .i64 0,.int .i64 0,.slice none 0 0,.slice none 0 0,.slice (some ⟨w.heap.size+1,0,none⟩) 1 1,.slice none 0 0,.slice none 0 0] 33)).heap.size=w.heap.size+1:=by simp
 have B0:ZP ((w.alloc (.cells #[.int .i64 0,.int .i64 0,.slice none 0 0,.slice none 0 0,.slice (some ⟨w.heap.size+1,0,none⟩) 1 1,.slice none 0 0,.slice none 0 0] 33)).alloc (.cells #[.string ⟨#[114,111,111,116]⟩] 9)) w.heap.size 33 [.int .i64 0,.int .i64 0,.slice none 0 0,.slice none 0 0,.slice (some ⟨w.heap.size+1,0,none⟩) 1 1,.slice none 0 0,.slice none 0 0]:=(ZP.new w _ _).alloc _;have B1:ZP ((w.alloc (.cells #[.int .i64 0,.int .i64 0,.slice none 0 0,.slice none 0 0,.slice (some ⟨w.heap.size+1,0,none⟩) 1 1,.slice none 0 0,.slice none 0 0] 33)).alloc (.cells #[.string ⟨#[114,111,111,116]⟩] 9)) (w.heap.size+1) 9 [.string ⟨#[114,111,111,116]⟩]:=by
  have h:=ZP.new (w.alloc (.cells #[.int .i64 0,.int .i64 0,.slice none 0 0,.slice none 0 0,.slice (some ⟨w.heap.size+1,0,none⟩) 1 1,.slice none 0 0,.slice none 0 0] 33)) 9 [.string ⟨#[114,111,111,116]⟩];rwa [D] at h
 have C:Below w.heap.size w ((w.alloc (.cells #[.int .i64 0,.int .i64 0,.slice none 0 0,.slice none 0 0,.slice (some ⟨w.heap.size+1,0,none⟩) 1 1,.slice none 0 0,.slice none 0 0] 33)).alloc (.cells #[.string ⟨#[114,111,111,116]⟩] 9)):=(br.alloc lr _).alloc (by omega) _;have s:=iN 33 7;refine bodyPost_ret (Tz rfl _ _ w.heap.size rfl (hid B0) rfl underlying33 rfl s) rfl ?_
 refine⟨⟨none,0,none,0,some ⟨w.heap.size+1,0,none⟩,1,none,0,none,0⟩,rfl,⟨ZT.nil,ZT.nil,?_,ZT.nil,ZT.nil⟩,C⟩
 intro _;refine⟨_,rfl,⟨9,by decide,B1.Xr⟩,fun j d hd=> ?_⟩
 cases j with
 | succ j=>cases hd
 | zero=>
  obtain rfl: [Da.Z2 Yi]=d:=Option.some.inj hd;refine⟨[.string (Z2 Yi)],ZE.one (Yv.YO _),fun i u m=> ?_⟩
  cases i with
  | succ i=>cases m
  | zero=>
   obtain rfl:Value.string (Z2 Yi)=u:=Option.some.inj m;exact B1.cell 0
theorem Mw (w:World)(a b:lV)(t u:TypeId):ZP ((w.alloc (.cells a.toArray t)).alloc (.cells b.toArray u)) w.heap.size t a/\ZP ((w.alloc (.cells a.toArray t)).alloc (.cells b.toArray u)) (w.heap.size+1) u b/\Below w.heap.size w ((w.alloc (.cells a.toArray t)).alloc (.cells b.toArray u)):=by
 have d:(w.alloc (.cells a.toArray t)).heap.size=w.heap.size+1:=by simp
 refine⟨(ZP.new w _ _).alloc _,?_,(br.alloc lr _).alloc (by omega) _⟩
 have h:=ZP.new (w.alloc (.cells a.toArray t)) u b;rwa [d] at h
theorem My (c:Ca)(A:Wd)(x:Cm)(X:oA)(k:Nat)(Y:oA)(n:Nat)(w:World)(hc:UH w w.heap.size c A)(ht:c.Zo 1099511627776)
  (hS:PT x.ZV=1->(c.ob.Z7.any fun s=>s.name == x.Z9)=true):
  cQ 33 #[.agg (c.cs A).toArray,.agg (x.cs X k Y n).toArray] w fun e w'=>e= .returned (.bool (Vh c x))/\Bw w w':=by
 have L:=hid hc;have U:=hid ht;have HS:=hid hS;have ah:=iN 33 7;have N:Hid (Vh c x=if PT x.ZV=1 then Jt c.ro x.ZH Yi || Jt c.ro x.ZH (LE c x.Z9)
 else if PT x.ZV=2 then VK c x.ZH x.Z9 x.ZZ
 else if PT x.ZV=3 then true
 else Jt c.ro x.ZH Yi):=hid rfl
 clear hc ht hS;generalize Vh c x=res at*;unfold Ca.cs Cm.cs;obtain⟨b0,b1,hb⟩:=Mw w [i6 c.ZO,i6 c.ZR,sl A.a0 c.ob.Z7 A.k0,sl A.a1 c.ob.Z8 A.k1,sl A.a2 c.ro.ZU A.k2,sl A.a3 c.ro.ZY A.k3,sl A.a4 c.Z4 A.k4] [i6 x.ZV,sT x.ZH,sT x.Z9,sT x.ZZ,sT x.name,sT x.ZQ,sl X x.Z3 k,sT x.ZX.name,i6 x.ZX.ZV,sl Y x.ZX.Z3 n,i6 x.ZX.low,i6 x.ZX.ZB,sT x.ZX.Z9,sT x.ZX.ZZ,sT x.ZX.key,i6 x.right,.bool x.Zq] 33 43;have P0:=hid b0;have X0:=hid b1;have T:=hid hb;clear b0 b1 hb;go_enter func33,ntmps33
 go_wp2_with fail;generalize ((w.alloc (.cells #[i6 c.ZO,i6 c.ZR,sl A.a0 c.ob.Z7 A.k0,sl A.a1 c.ob.Z8 A.k1,sl A.a2 c.ro.ZU A.k2,sl A.a3 c.ro.ZY A.k3,sl A.a4 c.Z4 A.k4] 33)).alloc (.cells #[i6 x.ZV,sT x.ZH,sT x.Z9,sT x.ZZ,sT x.name,sT x.ZQ,sl X x.Z3 k,sT x.ZX.name,i6 x.ZX.ZV,sl Y x.ZX.Z3 n,i6 x.ZX.low,i6 x.ZX.ZB,sT x.ZX.Z9,sT x.ZX.ZZ,sT x.ZX.key,i6 x.right,.bool x.Zq] 43))=W0 at*;refine(Hh c.ro A.a2 A.k2 A.a3 A.k3 x.ZH Yi W0 (L.o.later T.o).nm (L.o.later T.o).mb U.o.2.1).mono ?_
 rintro e W1 ⟨rfl,hb⟩;have I:=bt T hb;have V:=bl P0 hb;have G:=bl X0 hb;clear hb T P0 X0 W0;have x0:=ce G 0;have x1:=ce G 1;have x2:=ce G 2;have x3:=ce G 3;have p2:=ce V 2;go_wp2_with fail;refine(Fc x.ZV W1).mono ?_
 rintro e af ⟨rfl,rfl⟩;generalize PT x.ZV=bk at*;by_cases h3:bk=3
 ·subst h3;have E:Hid (res=true):=hid N.o;go_wp2;go_ret;exact⟨by rw [E.o];rfl,I.o⟩
 by_cases h2:bk=2
 ·subst h2;have E:Hid (res=VK c x.ZH x.Z9 x.ZZ):=hid N.o;have cB:=Ol c A x.ZH x.Z9 x.ZZ af (L.o.later I.o) U.o;unfold Ca.cs at cB;go_wp2_with (first | (refine lO V ah underlying33 ?_) | fail);refine cB.mono ?_
  rintro e C ⟨rfl,hb⟩;have F:=bt I hb;clear hb cB;go_wp2;go_ret;exact⟨by rw [E.o];rfl,F.o⟩
 by_cases h1:bk=1
 ·subst h1;have E:Hid (res=(Jt c.ro x.ZH Yi || Jt c.ro x.ZH (LE c x.Z9))):=hid N.o;have ae:=hid (HS.o rfl);clear HS N h3 h2;obtain⟨i,aa⟩: ∃ i,Xd c.ob.Z7 x.Z9=some i:=Option.isSome_iff_exists.1 (by unfold Xd;rw [List.findIdx?_isSome];exact ae.o);obtain⟨hi,hf⟩:=Wt aa;have HO:Hid (LE c x.Z9=c.ob.Z7[i].ZN):=hid (by unfold LE;rw [hf];rfl)
  have ac:=hid aa;have aj:c.ob.Z7.length<=1099511627776:=U.o.1.1;clear hf aa ae;go_wp2_with fail;have cI:=Uh (fun d=>tx d 0 == x.Z9) 73 #[pT (w.heap.size+1)] (c.ob.Z7.map Sc.da) A.a0 A.k0 af (enters_of func73 (by kernel_rfl) rfl) (L.o.later I.o).sc (by simpa using aj) (by
   intro W' d vs hb _ O;obtain⟨q,rfl,rfl⟩:=Sc.YG O;exact Mz q (w.heap.size+1) x.Z9 W' (Nat.lt_of_lt_of_le G.o.lt hb.size) ((G.o.below hb G.o.lt).cell 2))
  rw [List.length_map,Te,ac.o] at cI;refine cI.mono ?_
  rintro e C ⟨rfl,hb⟩;rw [show WS (some i)=(i:Int) from rfl];have F:=bt I hb;have M:=bl V hb;have X2:=bl G hb;clear hb cI I V G x0 x1 x2 x3 p2 ac;obtain⟨D,vs,ha,O,hr⟩:=(L.o.later F.o).sc.at_ (j:=i) (by simpa using hi);rw [List.getElem_map] at O;generalize c.ob.Z7[i]=sc at*;obtain⟨q,ab,rfl⟩:=Sc.YG O;obtain rfl:sc=q:=by
   obtain⟨a,b⟩:=sc;obtain⟨a',b'⟩:=q;unfold Sc.da at ab;injection ab with e1 e2
   injection e1 with e1
   injection e2 with e2 _
   injection e2 with e2
   dsimp only at e1 e2;rw [e1,e2]
  have a1:=ef (m:=i*2) hr 1;have ak:(D.add (i*2)).block<C.heap.size:=World.block_lt_of_cell? _ ⟨(D.add (i*2)).block,(D.add (i*2)).off+1,none⟩ a1;have HV:=hid ak;have hi':(0:Int)<=(i:Int):=by omega
  have am:(i:Int)< (c.ob.Z7.length:Int):=by omega
  have p2:C.cell? (aN w 2)=some (sl (some D) c.ob.Z7 A.k0):=by rw [<-ha];exact M.o.cell 2
  have ag:=fun W h=>Hh c.ro A.a2 A.k2 A.a3 A.k3 x.ZH sc.ZN W h
  clear O hr ab ha
  cases hroot:Jt c.ro x.ZH Yi
  ·rw [hroot] at E;clear hroot;go_wp2_with fail;refine wp_region_held_drew (S:=fun w'=>Bw C w'/\w'.cell? (aN w 4)=some (sl A.a2 c.ro.ZU A.k2)/\w'.cell? (aN w 5)=some (sl A.a3 c.ro.ZY A.k3)/\w'.cell? (aN w 2)=some (sl (some D) c.ob.Z7 A.k0)/\w'.cell? (aD (w.heap.size+1) 1)=some (sT x.ZH)/\w'.cell? ⟨(D.add (i*2)).block,(D.add (i*2)).off+1,none⟩=some (sT sc.ZN)) (by kernel_rfl) (⟨(Below.refl C.heap.size C).drew,cb M ((Below.refl C.heap.size C).drew) 4,cb M ((Below.refl C.heap.size C).drew) 5,(((Below.refl C.heap.size C).drew).cell (p:=(aN w 2)) M.o.lt).trans p2,cb X2 ((Below.refl C.heap.size C).drew) 1,(((Below.refl C.heap.size C).drew).cell (p:=⟨(D.add (i*2)).block,(D.add (i*2)).off+1,none⟩) HV.o).trans a1⟩) (fun u=> ?_)
   (try simp only [pp]);refine tb 0 22 (.bool false) u ?_;refine tb 1 23 (.bool false) u ?_;refine tk 2 24 u ?_;refine tk 3 25 u ?_;refine tk 4 26 u ?_;refine tk 5 27 u ?_;refine tk 6 28 u ?_;refine tk 7 29 u ?_;refine tk 8 30 u ?_;refine tk 9 31 u ?_;refine tk 10 32 u ?_;refine tk 11 33 u ?_;refine tk 12 34 u ?_;refine on 13 35 fun K hK=> ?_
   go_simp;refine(ag _ (L.o.later (F.o.trans (u.1.mono F.o.size))).nm (L.o.later (F.o.trans (u.1.mono F.o.size))).mb U.o.2.1).mono ?_
   rintro e W5 ⟨rfl,hb⟩;have J:=u.1.trans (hb.mono u.1.size);refine hK.out _ _ ⟨J,cb M (J) 4,cb M (J) 5,((J).cell (p:=(aN w 2)) M.o.lt).trans p2,cb X2 (J) 1,((J).cell (p:=⟨(D.add (i*2)).block,(D.add (i*2)).off+1,none⟩) HV.o).trans a1⟩ (fun u=> ?_);clear hb J;clear hK K;(try simp only [pp])
   refine tk 14 36 u ?_;refine tk 15 4 u ?_;refine wpAnyH_done (by kernel_rfl) ?_ _
   have Z:=bt F u.1;have ai:Hid (res=Jt c.ro x.ZH sc.ZN):=hid (by rw [E.o,HO.o];rfl)
   clear u;go_wp2;go_ret;exact⟨by rw [ai.o];rfl,Z.o⟩
  ·rw [hroot] at E;clear hroot ag;go_wp2_with fail;refine wp_region_held_drew (S:=fun w'=>Bw C w') (by kernel_rfl) ((Below.refl C.heap.size C).drew) (fun u=> ?_)
   (try simp only [pp]);refine tb 0 22 (.bool true) u ?_;refine tb 1 23 (.bool true) u ?_;refine sk 2 24 u ?_;refine sk 3 25 u ?_;refine sk 4 26 u ?_;refine sk 5 27 u ?_;refine sk 6 28 u ?_;refine sk 7 29 u ?_;refine sk 8 30 u ?_;refine sk 9 31 u ?_;refine sk 10 32 u ?_;refine sk 11 33 u ?_;refine sk 12 34 u ?_;refine sk 13 35 u ?_;refine tk 14 36 u ?_;refine tk 15 4 u ?_;refine wpAnyH_done (by kernel_rfl) ?_ _
   have Z:=bt F u;clear u;go_wp2;go_ret;exact⟨by rw [E.o];rfl,Z.o⟩
 have g1:(bk == 1)=false:=by simpa using h1
 have g2:(bk == 2)=false:=by simpa using h2
 have g3:(bk == 3)=false:=by simpa using h3
 have E:Hid (res=Jt c.ro x.ZH Yi):=hid (by rw [N.o,if_neg h1,if_neg h2,if_neg h3]);clear h1 h2 h3;go_wp2;go_ret;exact⟨by rw [E.o];rfl,I.o⟩
theorem P8 (w:World)(o:Obj)(a b:List Value)(t u:TypeId):ZP (((w.alloc o).alloc (.cells a.toArray t)).alloc (.cells b.toArray u)) (w.heap.size+1) t a/\ZP (((w.alloc o).alloc (.cells a.toArray t)).alloc (.cells b.toArray u)) (w.heap.size+1+1) u b/\Below w.heap.size w (((w.alloc o).alloc (.cells a.toArray t)).alloc (.cells b.toArray u)):=by
 have m:(w.alloc o).heap.size=w.heap.size+1:=by simp
 obtain⟨d,h,j⟩:=Mw (w.alloc o) a b t u;rw [m] at d h j;exact⟨d,h,(br.alloc lr _).trans (j.mono (by omega))⟩
theorem TB (r:Ro)(h:Option Addr)(k0:Nat)(j:Option Addr)(k1:Nat)(x:Cm)(X:Option Addr)(k:Nat)(Y:Option Addr)(n:Nat)(w:World)(V:ZT w (· < w.heap.size) [.Z2] (YV r.ZU) h)(T:ZT w (· < w.heap.size) YM (r.ZY.map Mb.da) j)(Z:r.Zo 1099511627776):
  Calls prog 85 #[.agg #[.slice h r.ZU.length k0,.slice j r.ZY.length k1],.agg (x.cs X k Y n).toArray] w (Jf w):=by
 have L:=hid V;have K:=hid T;have M:=hid Z;have u:=iN 30 2;clear V T Z;unfold Cm.cs;obtain⟨b0,O,hb⟩:=P8 w (.cells #[.slice h r.ZU.length k0,.slice j r.ZY.length k1] 30) [.int .i64 x.ZV,.string (Z2 x.ZH),.string (Z2 x.Z9),.string (Z2 x.ZZ),.string (Z2 x.name),.string (Z2 x.ZQ),.slice X x.Z3.length k,.string (Z2 x.ZX.name),.int .i64 x.ZX.ZV,.slice Y x.ZX.Z3.length n,.int .i64 x.ZX.low,.int .i64 x.ZX.ZB,.string (Z2 x.ZX.Z9),.string (Z2 x.ZX.ZZ),.string (Z2 x.ZX.key),.int .i64 x.right,.bool x.Zq] [.slice none 0 0,.slice none 0 0] 43 30;have C:=hid O;have d:=hid hb;clear b0 O hb;go_enter func85,ntmps85
 generalize x.ZV=kk at*;by_cases h10:kk=10
 ·subst h10;go_wp2_with fail;generalize (((w.alloc (.cells #[.slice h r.ZU.length k0,.slice j r.ZY.length k1] 30)).alloc (.cells #[.int .i64 10,.string (Z2 x.ZH),.string (Z2 x.Z9),.string (Z2 x.ZZ),.string (Z2 x.name),.string (Z2 x.ZQ),.slice X x.Z3.length k,.string (Z2 x.ZX.name),.int .i64 x.ZX.ZV,.slice Y x.ZX.Z3.length n,.int .i64 x.ZX.low,.int .i64 x.ZX.ZB,.string (Z2 x.ZX.Z9),.string (Z2 x.ZX.ZZ),.string (Z2 x.ZX.key),.int .i64 x.right,.bool x.Zq] 43)).alloc (.cells #[.slice none 0 0,.slice none 0 0] 30))=W0 at*;refine(GM r h k0 j k1 x.ZQ W0 (L.out.later d.out) (K.out.later d.out) M.out).mono ?_
  rintro e N ⟨I,J,B0,l0,B1,l1,rfl,m,hb,s⟩;have D:=bt d hb;have G:=bl C hb;have E:=hid m;have F:=hid s;clear hb m s d C;go_wp2_with (first | (refine sO G u ?_;intro w9 U) | fail);refine bodyPost_ret (Zr rfl _ _ (w.heap.size+1+1) rfl (hid U.out.YK) rfl underlying30 rfl u) rfl ?_
  exact⟨I,J,B0,l0,B1,l1,rfl,E.out.keeps U.out.keeps (by decide),U.out.below D.out (by omega),F.out⟩
 have g10:(kk == 10)=false:=by simpa using h10
 by_cases h12:kk=12
 ·subst h12;go_wp2_with fail;generalize (((w.alloc (.cells #[.slice h r.ZU.length k0,.slice j r.ZY.length k1] 30)).alloc (.cells #[.int .i64 12,.string (Z2 x.ZH),.string (Z2 x.Z9),.string (Z2 x.ZZ),.string (Z2 x.name),.string (Z2 x.ZQ),.slice X x.Z3.length k,.string (Z2 x.ZX.name),.int .i64 x.ZX.ZV,.slice Y x.ZX.Z3.length n,.int .i64 x.ZX.low,.int .i64 x.ZX.ZB,.string (Z2 x.ZX.Z9),.string (Z2 x.ZX.ZZ),.string (Z2 x.ZX.key),.int .i64 x.right,.bool x.Zq] 43)).alloc (.cells #[.slice none 0 0,.slice none 0 0] 30))=W0 at*;refine(IJ r h k0 j k1 x.ZQ x.name W0 (L.out.later d.out) (K.out.later d.out) M.out).mono ?_
  rintro e N ⟨I,J,B0,l0,B1,l1,rfl,m,hb,s⟩;have D:=bt d hb;have G:=bl C hb;have E:=hid m;have F:=hid s;clear hb m s d C;go_wp2_with (first | (refine sO G u ?_;intro w9 U) | fail);refine bodyPost_ret (Zr rfl _ _ (w.heap.size+1+1) rfl (hid U.out.YK) rfl underlying30 rfl u) rfl ?_
  exact⟨I,J,B0,l0,B1,l1,rfl,E.out.keeps U.out.keeps (by decide),U.out.below D.out (by omega),F.out⟩
 have g12:(kk == 12)=false:=by simpa using h12
 clear h10 h12;go_wp2_with fail;generalize (((w.alloc (.cells #[.slice h r.ZU.length k0,.slice j r.ZY.length k1] 30)).alloc (.cells #[.int .i64 kk,.string (Z2 x.ZH),.string (Z2 x.Z9),.string (Z2 x.ZZ),.string (Z2 x.name),.string (Z2 x.ZQ),.slice X x.Z3.length k,.string (Z2 x.ZX.name),.int .i64 x.ZX.ZV,.slice Y x.ZX.Z3.length n,.int .i64 x.ZX.low,.int .i64 x.ZX.ZB,.string (Z2 x.ZX.Z9),.string (Z2 x.ZX.ZZ),.string (Z2 x.ZX.key),.int .i64 x.right,.bool x.Zq] 43)).alloc (.cells #[.slice none 0 0,.slice none 0 0] 30))=W0 at*;refine(JY r h k0 j k1 x.ZQ x.name W0 (L.out.later d.out) (K.out.later d.out) M.out).mono ?_
 rintro e N ⟨I,J,B0,l0,B1,l1,rfl,m,hb,s⟩;have D:=bt d hb;have G:=bl C hb;have E:=hid m;have F:=hid s;clear hb m s d C;go_wp2_with (first | (refine sO G u ?_;intro w9 U) | fail);refine bodyPost_ret (Zr rfl _ _ (w.heap.size+1+1) rfl (hid U.out.YK) rfl underlying30 rfl u) rfl ?_
 exact⟨I,J,B0,l0,B1,l1,rfl,E.out.keeps U.out.keeps (by decide),U.out.below D.out (by omega),F.out⟩
theorem Kt (l:List Sc)(A:Option Addr)(k g:Nat)(t:List UInt8)(w:World)(u:ZT w (· < w.heap.size) Ze (l.map Sc.da) A)(C:l.length<=1099511627776){T:TypeId}{cs:List Value}(j:ZP w g T cs)(m:cs[2]?=some (.string (Z2 t))):
  Calls prog 31 #[.slice A l.length k,.func (.func 32) #[] #[.pointer (some ⟨g,0,none⟩)]] w fun e w'=>e= .returned (.bool (l.any fun s=>s.name == t))/\Below w.heap.size w w':=by
 have c:=Ps (fun d=>tx d 0 == t) 32 #[.pointer (some ⟨g,0,none⟩)] (l.map Sc.da) A k w (enters_of func32 (by kernel_rfl) rfl) u (by simpa using C) (by
  intro W d E hb _ D;obtain⟨q,rfl,rfl⟩:=Sc.YG D;have h:=j.below hb j.lt;exact Jb q g t W h.lt ((h.cell 2).trans m))
 rw [List.length_map,List.any_map] at c;exact c
def Qy (x:Cm)(boss:Bool)(g:Gr):Bool:=g.Z9 == x.Z9 && g.ZZ == x.ZZ && g.right == x.right && g.to == x.ZQ && (boss || g.ZM == x.ZH)
def RO (x:Cm)(g:Gr):Bool:=g.Z9 == x.Z9 && g.ZZ == x.ZZ
theorem J4 (x:Cm)(g:Gr)(p:Nat)(q:Nat)(d:Bool)(w:World)(j:p<w.heap.size)(u:w.cell? ⟨p,1,none⟩=some (.string (Z2 x.ZH)))(C:w.cell? ⟨p,2,none⟩=some (.string (Z2 x.Z9)))(D:w.cell? ⟨p,3,none⟩=some (.string (Z2 x.ZZ)))(E:w.cell? ⟨p,5,none⟩=some (.string (Z2 x.ZQ)))(m:w.cell? ⟨p,15,none⟩=some (.int .i64 x.right))(F:q<w.heap.size)(hb:w.cell? ⟨q,0,none⟩=some (.bool d)):
  Calls prog 134 #[.agg #[.string (Z2 g.Z9),.string (Z2 g.ZZ),.int .i64 g.right,.string (Z2 g.ZM),.string (Z2 g.to),.bool g.Zq],.pointer (some ⟨p,0,none⟩),.pointer (some ⟨q,0,none⟩)] w fun e w'=>e= .returned (.bool (Qy x d g))/\Below w.heap.size w w':=by
 have h:Hid (Below w.heap.size w (w.alloc (.cells #[.string (Z2 g.Z9),.string (Z2 g.ZZ),.int .i64 g.right,.string (Z2 g.ZM),.string (Z2 g.to),.bool g.Zq] 53))):=hid (br.alloc lr _);have k1:(w.alloc (.cells #[.string (Z2 g.Z9),.string (Z2 g.ZZ),.int .i64 g.right,.string (Z2 g.ZM),.string (Z2 g.to),.bool g.Zq] 53)).cell? ⟨p,1,none⟩=some (.string (Z2 x.ZH)):=ct u h.out j;have k2:(w.alloc (.cells #[.string (Z2 g.Z9),.string (Z2 g.ZZ),.int .i64 g.right,.string (Z2 g.ZM),.string (Z2 g.to),.bool g.Zq] 53)).cell? ⟨p,2,none⟩=some (.string (Z2 x.Z9)):=ct C h.out j;have k3:(w.alloc (.cells #[.string (Z2 g.Z9),.string (Z2 g.ZZ),.int .i64 g.right,.string (Z2 g.ZM),.string (Z2 g.to),.bool g.Zq] 53)).cell? ⟨p,3,none⟩=some (.string (Z2 x.ZZ)):=ct D h.out j;have I:(w.alloc (.cells #[.string (Z2 g.Z9),.string (Z2 g.ZZ),.int .i64 g.right,.string (Z2 g.ZM),.string (Z2 g.to),.bool g.Zq] 53)).cell? ⟨p,5,none⟩=some (.string (Z2 x.ZQ)):=ct E h.out j;have DE:(w.alloc (.cells #[.string (Z2 g.Z9),.string (Z2 g.ZZ),.int .i64 g.right,.string (Z2 g.ZM),.string (Z2 g.to),.bool g.Zq] 53)).cell? ⟨p,15,none⟩=some (.int .i64 x.right):=ct m h.out j;have J:(w.alloc (.cells #[.string (Z2 g.Z9),.string (Z2 g.ZZ),.int .i64 g.right,.string (Z2 g.ZM),.string (Z2 g.to),.bool g.Zq] 53)).cell? ⟨q,0,none⟩=some (.bool d):=ct hb h.out F;clear hb F;have s:Hid (Qy x d g=(g.Z9 == x.Z9 && g.ZZ == x.ZZ && g.right == x.right && g.to == x.ZQ && (d || g.ZM == x.ZH))):=hid rfl;generalize Qy x d g=res at*;generalize eb1:(g.Z9 == x.Z9)=b1 at*;generalize eb2:(g.ZZ == x.ZZ)=b2 at*;generalize eb3:(g.right == x.right)=b3 at*;generalize eb4:(g.to == x.ZQ)=b4 at*;generalize eb5:(g.ZM == x.ZH)=b5 at*;clear u C D E m j;go_enter func134,ntmps134
 cases b1 <;> cases b2 <;> cases b3 <;> cases b4 <;> cases d <;> cases b5
 all_goals (have G:=s.out;clear s;subst G)
 all_goals go_wp2
 all_goals go_ret
 all_goals exact⟨rfl,h.out⟩
theorem OA (x:Cm)(g:Gr)(p:Nat) (w:World)(h:p<w.heap.size)(m:w.cell? ⟨p,2,none⟩=some (.string (Z2 x.Z9)))(s:w.cell? ⟨p,3,none⟩=some (.string (Z2 x.ZZ))):
  Calls prog 126 #[.agg #[.string (Z2 g.Z9),.string (Z2 g.ZZ),.int .i64 g.right,.string (Z2 g.ZM),.string (Z2 g.to),.bool g.Zq],.pointer (some ⟨p,0,none⟩)] w fun e w'=>e= .returned (.bool (RO x g))/\Below w.heap.size w w':=by
 have d:Hid (Below w.heap.size w (w.alloc (.cells #[.string (Z2 g.Z9),.string (Z2 g.ZZ),.int .i64 g.right,.string (Z2 g.ZM),.string (Z2 g.to),.bool g.Zq] 53))):=hid (br.alloc lr _);have k2:(w.alloc (.cells #[.string (Z2 g.Z9),.string (Z2 g.ZZ),.int .i64 g.right,.string (Z2 g.ZM),.string (Z2 g.to),.bool g.Zq] 53)).cell? ⟨p,2,none⟩=some (.string (Z2 x.Z9)):=ct m d.out h;have k3:(w.alloc (.cells #[.string (Z2 g.Z9),.string (Z2 g.ZZ),.int .i64 g.right,.string (Z2 g.ZM),.string (Z2 g.to),.bool g.Zq] 53)).cell? ⟨p,3,none⟩=some (.string (Z2 x.ZZ)):=ct s d.out h;have j:Hid (RO x g=(g.Z9 == x.Z9 && g.ZZ == x.ZZ)):=hid rfl;generalize RO x g=res at*;generalize eb1:(g.Z9 == x.Z9)=b1 at*;generalize eb2:(g.ZZ == x.ZZ)=b2 at*;clear m s h;go_enter func126,ntmps126
 cases b1 <;> cases b2
 all_goals (have u:=j.out;clear j;subst u)
 all_goals go_wp2
 all_goals go_ret
 all_goals exact⟨rfl,d.out⟩
theorem Nc (x:Cm)(s:Sc)(p:Nat)(w:World)(j:p<w.heap.size)(h:w.cell? ⟨p,5,none⟩=some (.string (Z2 x.ZQ))):
  Calls prog 128 #[.agg #[.string (Z2 s.name),.string (Z2 s.ZN)],.pointer (some ⟨p,0,none⟩)] w fun e w'=>e= .returned (.bool (s.ZN == x.ZQ))/\Below w.heap.size w w':=by
 have d:Hid (Below w.heap.size w (w.alloc (.cells #[.string (Z2 s.name),.string (Z2 s.ZN)] 89))):=hid (br.alloc lr _);have m:(w.alloc (.cells #[.string (Z2 s.name),.string (Z2 s.ZN)] 89)).cell? ⟨p,5,none⟩=some (.string (Z2 x.ZQ)):=ct h d.out j;generalize eb1:(s.ZN == x.ZQ)=b1 at*;clear h j;go_enter func128,ntmps128
 cases b1
 all_goals go_wp2
 all_goals go_ret
 all_goals exact⟨rfl,d.out⟩
theorem Nb (x:Cm)(t:Tb)(X:Option Addr)(k:Nat)(Y:Option Addr)(n:Nat)(p:Nat)(w:World)(j:p<w.heap.size)(h:w.cell? ⟨p,5,none⟩=some (.string (Z2 x.ZQ))):
  Calls prog 130 #[.agg #[.string (Z2 t.Z9),.string (Z2 t.name),.string (Z2 t.ZN),.slice X t.Z3.length k,.slice Y t.ZW.length n],.pointer (some ⟨p,0,none⟩)] w fun e w'=>e= .returned (.bool (t.ZN == x.ZQ))/\Below w.heap.size w w':=by
 have d:Hid (Below w.heap.size w (w.alloc (.cells #[.string (Z2 t.Z9),.string (Z2 t.name),.string (Z2 t.ZN),.slice X t.Z3.length k,.slice Y t.ZW.length n] 73))):=hid (br.alloc lr _);have m:(w.alloc (.cells #[.string (Z2 t.Z9),.string (Z2 t.name),.string (Z2 t.ZN),.slice X t.Z3.length k,.slice Y t.ZW.length n] 73)).cell? ⟨p,5,none⟩=some (.string (Z2 x.ZQ)):=ct h d.out j;generalize eb1:(t.ZN == x.ZQ)=b1 at*;clear h j;go_enter func130,ntmps130
 cases b1
 all_goals go_wp2
 all_goals go_ret
 all_goals exact⟨rfl,d.out⟩
theorem Na (x:Cm)(g:Gr)(p:Nat)(w:World)(j:p<w.heap.size)(h:w.cell? ⟨p,5,none⟩=some (.string (Z2 x.ZQ))):
  Calls prog 131 #[.agg #[.string (Z2 g.Z9),.string (Z2 g.ZZ),.int .i64 g.right,.string (Z2 g.ZM),.string (Z2 g.to),.bool g.Zq],.pointer (some ⟨p,0,none⟩)] w fun e w'=>e= .returned (.bool (g.ZM == x.ZQ || g.to == x.ZQ))/\Below w.heap.size w w':=by
 have d:Hid (Below w.heap.size w (w.alloc (.cells #[.string (Z2 g.Z9),.string (Z2 g.ZZ),.int .i64 g.right,.string (Z2 g.ZM),.string (Z2 g.to),.bool g.Zq] 53))):=hid (br.alloc lr _);have m:(w.alloc (.cells #[.string (Z2 g.Z9),.string (Z2 g.ZZ),.int .i64 g.right,.string (Z2 g.ZM),.string (Z2 g.to),.bool g.Zq] 53)).cell? ⟨p,5,none⟩=some (.string (Z2 x.ZQ)):=ct h d.out j;generalize eb1:(g.ZM == x.ZQ)=b1 at*;generalize eb2:(g.to == x.ZQ)=b2 at*;clear h j;go_enter func131,ntmps131
 cases b1 <;> cases b2
 all_goals go_wp2
 all_goals go_ret
 all_goals exact⟨rfl,d.out⟩
theorem Zu.behind {P:Program}{ops:Array Oper}{Q:Exit->Act->World->Prop}{md:Region.Mode}{S:World->Prop}{last:Nat}{i:Nat}{o:Oper}{n:Nat}{l:Array Bool}{a:Act}{w:World}(u:Region.ready md ops l= [i])(_hi:(i == last)=false)(F:ops[i]?=some o)
  (h: ∀ d:Act->World->Prop,Shut (∀ a w,Zu P md ops Q S last n true (l.setIfInBounds i true) a w->d a w)->if Region.wanted o (yielded ops a.tmps)=true then Oper.wp P o a w d Q else d (a.put o.dst undef) w):Zu P md ops Q S last (n+1) true l a w:=by
 refine⟨fun m=>(by rw [u] at m;cases m),fun j s=> ?_⟩
 rw [u] at s;obtain rfl:=List.mem_singleton.1 s;simp only [Bool.true_or];exact wpOp_step F fun d C=>h d fun a w D=>C a w ⟨fun E=>(by cases E),D⟩
theorem H9 (c:Ca)(A:Wd)(w:World)(hc:UH w w.heap.size c A)(ht:c.Zo 1099511627776):
  cQ 34 #[.agg (c.cs A).toArray] w fun e w'=> ∃ E:Wd,e= .returned (.agg (c.cs E).toArray)/\Ta w' c E/\Bw w w':=by
 obtain⟨a0,k0,a1,k1,a2,k2,a3,k3,a4,k4⟩:=A;have cf:Hid (rA w Ze (c.ob.Z7.map Sc.da) a0):=hid hc.sc;have ch:Hid (rA w Zn (c.ob.Z8.map Tb.da) a1):=hid hc.tb;have b7:Hid (rA w [.Z2] (YV c.ro.ZU) a2):=hid hc.nm;have b4:Hid (rA w YM (c.ro.ZY.map Mb.da) a3):=hid hc.mb;have b0:Hid (rA w Ya (c.Z4.map Gr.da) a4):=hid hc.gr;have HT:=hid ht;have cF:=ht.1.1;have cO:=ht.1.2.1;have cA:=ht.2.1.1;have cz:=ht.2.1.2.1;have cw:=ht.2.2;have aQ:=iN 33 7;have bi:=iN 73 5;clear hc ht;unfold Ca.cs;dsimp only;go_enter func34,ntmps34
 go_wp2_with fail;refine Zi _ fun W L=> ?_
 have az:=bQ L;have P1:=nD L;have Q1:=nF L;clear L;refine(Um a0 k0 c.ob.Z7 W (Sc.Yn (cf.o.later az.o)) cF).mono ?_
 rintro e W2 ⟨B0,l0,rfl,F,hb⟩;have bd:=bt az hb;have bu:=hid (F.Yp az.o.size);have P2:=bl P1 hb;have Q2:=bl Q1 hb;clear F hb az P1 Q1;have p2:=ce P2 2;have p3:=ce P2 3;have f2:=P2.o.frozen 2;have f3:=P2.o.frozen 3;go_wp2_with fail;refine Wh _ fun W5 L=> ?_
 have aF:Hid (ZS [33] W2 W5):=hid (by rw [L];exact(ZS.Zx P2.o.Xr (by simp) _).trans (ZS.Zx (P2.o.Xr.setCell _ _) (by simp) _));have T:Hid (Bw w W5):=hid (by rw [L];exact(bd.o.setCell lr _).setCell lr _);have P5:Hid (ZP W5 w.heap.size 33 [i6 c.ZO,i6 c.ZR,sl B0 c.ob.Z7 l0,sN,sl a2 c.ro.ZU k2,sl a3 c.ro.ZY k3,sl a4 c.Z4 k4]):=hid (by rw [L];exact(P2.o.Zx 2 _).Zx 3 _);have Q5:Hid (ZP W5 (w.heap.size+1) 33 [i6 0,i6 0,sN,sN,sN,sN,sN]):=hid (by rw [L];exact(Q2.o.WT (by show _≠w.heap.size;omega) _).WT (by show _≠w.heap.size;omega) _)
 have aq:=hid (bu.o.keeps aF.o (by decide));clear L bd P2 Q2 bu aF p2 p3 f2 f3;go_loopw [18] (fun i wr=> ∃ (j:Nat) (ts:List YX) (B1:oA) (l1:Nat),j<=c.ob.Z8.length/\i=i6 j/\Hid (ts.map (·.1)=c.ob.Z8.take j)/\Hid (wr.ownsRow w.heap.size 89 2 (sl B0 c.ob.Z7 l0) c.ob.Z7.length (c.ob.Z7.flatMap Sc.cs))/\Hid (wr.ownsRow w.heap.size 73 5 (.slice B1 j l1) j (ts.flatMap YX.cs))/\Hid (∀ t∈ts,ZE wr (Xs wr Gj) Zn t.1.da (YX.cs t))/\Hid (Bw w wr)/\Hid (ZP wr w.heap.size 33 [i6 c.ZO,i6 c.ZR,sl B0 c.ob.Z7 l0,.slice B1 j l1,sl a2 c.ro.ZU k2,sl a3 c.ro.ZY k3,sl a4 c.Z4 k4])/\Hid (ZP wr (w.heap.size+1) 33 [i6 0,i6 0,sN,sN,sN,sN,sN])) (fun i _=>c.ob.Z8.length - (intOf i).toNat)
 case atStart=>exact⟨0,[],none,0,Nat.zero_le _,rfl,hid (by simp),aq,hid (World.ownsRow_nil _ _ _ _),hid (fun t h=>absurd h (by simp)),T,P5,Q5⟩
 case round=>
  clear T P5 Q5 aq;obtain⟨j,ts,B1,l1,hj,rfl,HD,aW,aZ,aP,ac,HP,HQ⟩:=hrel;by_cases hlt:j<c.ob.Z8.length
  ·obtain⟨C,cG⟩: ∃ C,C=wr:=⟨_,rfl⟩
   subst cG;have aK:=HT.o.1.2.2 c.ob.Z8[j] (List.getElem_mem hlt);have ci:Hid (c.ob.Z8.take (j+1)=c.ob.Z8.take j ++ [c.ob.Z8[j]]):=hid (List.take_succ_eq_append_getElem hlt);obtain⟨ad,vs,rfl,hv,hr⟩:=(ch.o.later ac.o).at_ (j:=j) (by simpa using hlt);rw [List.getElem_map] at hv;generalize c.ob.Z8[j]=t at*;obtain⟨X,x,Y,y,rfl,hX,hY⟩:=Tb.YY hv;have cn:=hid (Cl.Yn hX);obtain⟨bc,ba,bS,bT⟩:=Ru.Yn hY;have bs:=hid ba;have bp:=hid bS;have bq:=hid bT;have cv:=aK.1;have cN:=aK.2.1;have cj:=hid aK.2.2;have cD:bc.length=t.ZW.length:=by rw [<-ba,List.length_map]
   have HG:Hid (∀ i u,(t.cs X x Y y)[i]?=some u->C.cell? ((ad.add (j*5)).add i)=some u):=hid fun i u hu=>by rw [ZG];exact hr i u hu
   clear hv hr hX hY aK ba bS bT;unfold Tb.cs at HG;have HL:Hid ((prog.info? 73).map (·.size)=some ([sT t.Z9,sT t.name,sT t.ZN,sl X t.Z3 x,sl Y t.ZW y]:lV).length):=bi;have cM:=HP.o.lt;have cB:=HQ.o.lt;go_wp2_with (first | (with_reducible refine ZK rfl 73 _ rfl (ad.add (j*5)) rfl [sT t.Z9,sT t.name,sT t.ZN,sl X t.Z3 x,sl Y t.ZW y] _ HG.o underlying73 rfl HL.o ?_) | fail);refine Wh _ fun Wl L=> ?_
   have aA:=bP L;have T5:=nC L;clear L HG HL;have aw:Wl.drew.cell? (aN C 3)=some (sl X t.Z3 x)/\Wl.drew.cell? (aN C 4)=some (sl Y t.ZW y):=⟨T5.o.drew.cell 3,T5.o.drew.cell 4⟩
   refine Zp 7 (S:=fun w'=>w'.cell? (aN C 3)=some (sl X t.Z3 x)/\w'.cell? (aN C 4)=some (sl Y t.ZW y)) (by kernel_rfl) aw (fun d=> ?_)
   (try simp only [pp]);refine YU 0 22 d ?_;refine YU 1 23 d ?_;refine YU 3 25 d ?_;refine YU 4 26 d ?_;refine OH 2 24 fun K s=> ?_
   go_simp;refine(Sp X x t.Z3 Wl.drew (cn.o.later aA.o.drew) cv).mono ?_
   rintro e V1 ⟨I,O,rfl,F,hb⟩;have be:=hid (F.Yp (show C.heap.size<=Wl.drew.heap.size from aA.o.size));have aj:Hid (Bw Wl V1):=hid (br.drew.trans hb);have aH:=bt aA aj.o;have T1:=bl T5 aj.o;have ai:V1.cell? (aN C 3)=some (sl X t.Z3 x)/\V1.cell? (aN C 4)=some (sl Y t.ZW y):=⟨T1.o.cell 3,T1.o.cell 4⟩
   clear F hb T5;refine s.out _ _ ai ?_
   clear s K;(try simp only [pp])
   clear d;have d:=ai;refine YU 6 28 d ?_;refine OH 5 27 fun K s=> ?_
   go_simp;have a7:=SN Y y bc V1 (bp.o.later aH.o) (by omega);rw [cD] at a7;refine a7.mono ?_
   rintro e V2 ⟨G,D,rfl,F,hb⟩;have bv:=bt aH hb;have ao:=hid (F.Yp aH.o.size);have bf:=hid (be.o.ZC hb);have T2:=bl T1 hb;have aa:V2.cell? (aN C 3)=some (sl X t.Z3 x)/\V2.cell? (aN C 4)=some (sl Y t.ZW y):=⟨T2.o.cell 3,T2.o.cell 4⟩
   clear F hb a7 T1 be;refine s.out _ _ aa ?_
   clear s K;(try simp only [pp])
   clear d;have d:=aa;refine Zu.WR (i:=7) (o:=⟨none,_,_,_,_,_⟩) (by kernel_rfl) (by kernel_rfl) rfl (fun K s=> ?_)
   have e3:V2.cell? (aN C 3)=some (sl X t.Z3 x):=aa.1;have e4:V2.cell? (aN C 4)=some (sl Y t.ZW y):=aa.2;have f3:=T2.o.frozen 3;have f4:=T2.o.frozen 4;go_simp;refine s.out _ _ ?_
   clear s K;(try simp only [pp])
   refine Zu.behind (i:=8) (o:=⟨some 29,_,_,_,_,_⟩) (by kernel_rfl) (by kernel_rfl) rfl (fun K s=> ?_)
   go_simp;refine s.out _ _ ?_
   clear s K;(try simp only [pp])
   refine Zu.behind (i:=9) (o:=⟨none,_,_,_,_,_⟩) (by kernel_rfl) (by kernel_rfl) rfl (fun K s=> ?_)
   go_simp;refine s.out _ _ (Zu.done (by kernel_rfl) ?_ _);clear s K d aa ai aw e3 e4 f3 f4;refine Qv _ fun V3 hV=> ?_
   have aS:Hid (ZS [73] V2 V3):=hid (by rw [hV];exact(ZS.Zx T2.o.Xr (by simp) _).trans (ZS.Zx (T2.o.Xr.setCell _ _) (by simp) _));have T3:Hid (ZP V3 C.heap.size 73 [sT t.Z9,sT t.name,sT t.ZN,sl I t.Z3 O,sl G t.ZW D]):=hid (by rw [hV];exact(T2.o.Zx 3 _).Zx 4 _);have bz:Hid (Bw C V3):=hid (by rw [hV];exact(bv.o.setCell lr _).setCell lr _);clear hV;have ap:=hid (ao.o.keeps aS.o (by decide));have bg:=hid (bf.o.keeps aS.o (by decide));clear T2 bv ao bf aS aH aj aA;have p4:=ce T3 4;go_wp2;go_loopw [33] (fun i wr=> ∃ (m:Nat) (rs:List YH),m<=t.ZW.length/\i=i6 m/\Hid (rs.map (·.1)=t.ZW)/\Hid (wr.ownsRow C.heap.size 40 8 (sl G t.ZW D) t.ZW.length (rs.flatMap YH.cs))/\Hid (wr.ownsRow C.heap.size 119 3 (sl I t.Z3 O) t.Z3.length (t.Z3.flatMap Cl.cs))/\
  Hid (∀ (i:Nat) (h:i<rs.length),i<m->ZT wr (Nw wr C.heap.size [9]) [.Z2] (YV rs[i].1.Z3) rs[i].2.1/\Qo rs[i].1)/\Hid (∀ (i:Nat) (h:i<rs.length),m<=i->rA C [.Z2] (YV rs[i].1.Z3) rs[i].2.1/\Qo rs[i].1)/\Hid (Bw C wr)/\Hid (ZP wr C.heap.size 73 [sT t.Z9,sT t.name,sT t.ZN,sl I t.Z3 O,sl G t.ZW D])) (fun i _=>t.ZW.length - (intOf i).toNat)
   case atStart=>exact⟨0,bc,Nat.zero_le _,rfl,bs,ap,bg,hid (fun i h h0=>absurd h0 (by omega)),hid (fun i h _=>bq.o _ (List.getElem_mem h)),bz,T3⟩
   case round=>
    clear ap bg bz T3 p4 bs bp bq;obtain⟨m,rs,hm,rfl,an,am,aB,aC,HE,Z,au⟩:=hrel;have cC:rs.length=t.ZW.length:=by rw [<-an.o,List.length_map]
    by_cases hlt2:m<t.ZW.length
    ·have ay:m<rs.length:=by omega
     obtain⟨bM,bF⟩:=HE.o m ay lr;have bk:=hid (XS bM);have bV:=hid bF;have cE:=(cj.o rs[m].1 (by rw [<-an.o];exact List.mem_map.2 ⟨_,List.getElem_mem ay,rfl⟩)).1;obtain⟨g,rfl⟩: ∃ g,G=some (aD g 0):=by
      obtain⟨g,cap,hv,_,_⟩:=am.o.form (by omega);exact⟨g,by injection hv⟩
     obtain⟨cL,a8,bI,bJ,bK⟩:=ZJ am.o;have ab:=bK (m*8+2) (.slice rs[m].2.1 rs[m].1.Z3.length rs[m].2.2) (by rw [Zl YH.k rs m 2 ay (by omega)];rfl)
     have bH:=bJ (m*8+2);have bh:=hid bI;have ar:=hid (fun(E:oA) (J:Nat)=>X7 YH.k rs m 2 ay (by omega) (.slice E rs[m].1.Z3.length J) ((rs[m].1,E,J):YH) rfl);clear bM bF bI bJ bK;generalize hr:rs[m]=r at*;have p4:=ce au 4;have bN:=au.o.lt;have cK:(m:Int)< (t.ZW.length:Int):=by omega
     go_wp2_with fail;have aw:Bw wr wr.drew/\wr.drew.cell? (aN C 4)=some (sl (some (aD g 0)) t.ZW D)/\wr.drew.cell? (aD g (m*8+2))=some (sl r.2.1 r.1.Z3 r.2.2):=⟨br.drew,p4,ab⟩
     have ah:Hid (∀ w',Bw wr w'->(fun w'=>Bw wr w'/\w'.cell? (aN C 4)=some (sl (some (aD g 0)) t.ZW D)/\w'.cell? (aD g (m*8+2))=some (sl r.2.1 r.1.Z3 r.2.2)) w'):=hid fun w' h=>⟨h,ct p4 h bN,ct ab h a8⟩
     refine Ys 12 (S:=fun w'=>Bw wr w'/\w'.cell? (aN C 4)=some (sl (some (aD g 0)) t.ZW D)/\w'.cell? (aD g (m*8+2))=some (sl r.2.1 r.1.Z3 r.2.2)) (by kernel_rfl) aw (fun d=> ?_)
     (try simp only [pp]);refine WZ 0 36 d ?_;refine WZ 1 37 d ?_;refine WZ 2 38 d ?_;refine WZ 3 39 d ?_;refine WZ 4 40 d ?_;refine WZ 5 41 d ?_;refine WZ 6 42 d ?_;refine WZ 7 43 d ?_;refine WZ 8 44 d ?_;refine UK 9 45 fun K s=> ?_
     go_simp;have bC:Bw wr wr.drew:=br.drew;refine(Xk r.2.1 r.2.2 r.1.Z3 wr.drew (bk.o.below Z.o |>.Fk (by simpa using Z.o.size)) cE).mono ?_
     rintro e w5 ⟨E,J,rfl,bO,hb⟩;have T:Hid (Bw wr w5):=hid (bC.trans hb);have aq:=hid (RK bO);clear hb bO;have d:=ah.o _ T.o;refine s.out _ _ d ?_
     clear s K;(try simp only [pp])
     refine UK 10 46 fun K s=> ?_
     go_simp;refine s.out _ _ d ?_
     clear s K;(try simp only [pp])
     refine UK 11 47 fun K s=> ?_
     go_simp;refine s.out _ _ d ?_
     clear s K;(try simp only [pp])
     refine Yt.WR (i:=12) (o:=⟨none,_,_,_,_,_⟩) (by kernel_rfl) rfl rfl (fun K s=> ?_)
     have e5:w5.cell? (aD g (m*8+2))=some (sl r.2.1 r.1.Z3 r.2.2):=d.2.2;have f5:w5.frozen? (aD g (m*8+2))=false:=(T.o.frozen (p:=(aD g (m*8+2))) a8).trans bH;go_simp;refine s.out _ _ (Yt.done (by kernel_rfl) ?_ _);clear s K;have R1:=hid (am.o.ZC (by exact T.o));have cy:m*8+2< (rs.flatMap YH.cs).length:=by rw [Zm YH.k];omega
     have R2:Hid ((w5.setCell (aD g (m*8+2)) (sl E r.1.Z3 J)).ownsRow C.heap.size 40 8 (sl (some (aD g 0)) t.ZW D) t.ZW.length ((rs.set m (r.1,E,J)).flatMap YH.cs)):=hid (by
      rw [<-ar.o E J];exact XG R1.o cy _)
     have av:ZS [40] w5 (w5.setCell (aD g (m*8+2)) (sl E r.1.Z3 J)):=ZS.Zx (bh.o.RN (T.o.block g a8)) (by simp) _;have C2:=hid ((aB.o.ZC (by exact T.o)).keeps av (by decide));have D2:=hid (Ml (a:=((r.1,E,J):YH)) (P:=fun z=>ZT (w5.setCell (aD g (m*8+2)) (sl E r.1.Z3 J)) (Nw (w5.setCell (aD g (m*8+2)) (sl E r.1.Z3 J)) C.heap.size [9]) [.Z2] (YV z.1.Z3) z.2.1/\Qo z.1)
      (fun i h bL=>⟨((aC.o i h bL).1.Ph (by exact T.o)).VI av (by decide),(aC.o i h bL).2⟩)
      ⟨(aq.o.Tk (by simpa using Z.o.size) (fun _ h=>h)).VI av (by decide),bV.o⟩)
     have E2:=hid (Lv (l:=rs) (j:=m) (P:=fun z:YH=>rA C [.Z2] (YV z.1.Z3) z.2.1/\Qo z.1) (a:=((r.1,E,J):YH)) HE.o);have M2:Hid ((rs.set m (r.1,E,J)).map (·.1)=t.ZW):=hid (by rw [List.map_set,<-an.o,<-hr,<-List.getElem_map (f:=fun x:YH=>x.1) (h:=by simpa using ay),List.set_getElem_self]);have B2:Hid (Below C.heap.size C (w5.setCell (aD g (m*8+2)) (sl E r.1.Z3 J))):=hid ((Z.o.trans (T.o.mono Z.o.size)).setCell (by show C.heap.size<=g;omega) _)
     have cp:=hid ((au.o.below T.o bN).keeps av (by decide));clear an am aB aC HE Z au d R1 ah aw p4 ab bH e5 f5 T aq av bC bk ar bh;go_wp2;go_roundw
     case rel=>exact⟨m+1,rs.set m (r.1,E,J),by omega,by go_num,M2,R2,C2,D2,E2,B2,cp⟩
     case measure=>simp [intOf];omega
    ·obtain rfl:m=t.ZW.length:=by omega
     have bo:=bl HP Z.o;have cP:=ce bo 3;have b9:Hid (ZP (wr.alloc (.cells #[sT t.Z9,sT t.name,sT t.ZN,sl I t.Z3 O,sl G t.ZW D] 73)) w.heap.size 33 [i6 c.ZO,i6 c.ZR,sl B0 c.ob.Z7 l0,.slice B1 j l1,sl a2 c.ro.ZU k2,sl a3 c.ro.ZY k3,sl a4 c.Z4 k4]):=hid (bo.o.alloc _);have aG:=hid ((aZ.o.ZC Z.o).ZC ((Below.refl wr.heap.size wr).alloc lr (.cells #[sT t.Z9,sT t.name,sT t.ZN,sl I t.Z3 O,sl G t.ZW D] 73)));have aU:=hid (ZP.news (ZP.new wr 73 [sT t.Z9,sT t.name,sT t.ZN,sl I t.Z3 O,sl G t.ZW D]));obtain⟨i0,cx,cH,cI,cJ⟩:=info_parts Vc;have bG:w.heap.size<=(wr.alloc (.cells #[sT t.Z9,sT t.name,sT t.ZN,sl I t.Z3 O,sl G t.ZW D] 73)).heap.size:=by have:=Z.o.size;simp;omega
     go_wp2_with (first | (refine lO au bi underlying73 ?_) | (at_builtin;refine Zb rfl _ _ _ rfl w.heap.size 73 i0 _ 5 96 underlying24 cx cH cI cJ rfl (by decide) (.slice B1 j l1) j _ rfl aG.o (aN wr 0) 1 1 [sT t.Z9,sT t.name,sT t.ZN,sl I t.Z3 O,sl G t.ZW D] rfl rfl aU.o (by simp [Value.oneCell']) (by unfold maxLen;omega) (by omega) bG ?_;intro U V N b8 ax;have R9:=hid (b9.o.keeps (ZS.grown aG.o ax.o (by simp) ax.o.size) (by decide:33∉ [73]));have k9:N.cell? (aN w 3)=some (.slice B1 j l1):=R9.o.cell 3;have f9:N.frozen? (aN w 3)=false:=R9.o.frozen 3) | fail);have aR:Hid (ZS [73] (wr.alloc (.cells #[sT t.Z9,sT t.name,sT t.ZN,sl I t.Z3 O,sl G t.ZW D] 73)) N):=hid (ZS.grown aG.o ax.o (by simp) ax.o.size);have aO:Hid (Below C.heap.size C (wr.alloc (.cells #[sT t.Z9,sT t.name,sT t.ZN,sl I t.Z3 O,sl G t.ZW D] 73))):=hid (Z.o.alloc Z.o.size _);have bU:Hid (Bw w N):=hid ((ac.o.trans (aO.o.mono ac.o.size)).grown ax.o bG (ZD aG.o));have aT:Hid (ZS [33] N (N.setCell (aN w 3) (.slice U (j+1) V))):=hid (ZS.Zx R9.o.Xr (by simp) _);have bj:Hid (ZS [73,33] C (N.setCell (aN w 3) (.slice U (j+1) V))):=hid (((ZS.ZA aO.o lr).trans (aR.o.X6 (by simp))).trans (aT.o.X6 (by simp)));have ca:Hid (ZP (N.setCell (aN w 3) (.slice U (j+1) V)) w.heap.size 33 [i6 c.ZO,i6 c.ZR,sl B0 c.ob.Z7 l0,.slice U (j+1) V,sl a2 c.ro.ZU k2,sl a3 c.ro.ZY k3,sl a4 c.Z4 k4]):=hid (R9.o.Zx 3 _);have cc:Hid (ZP (N.setCell (aN w 3) (.slice U (j+1) V)) (w.heap.size+1) 33 [i6 0,i6 0,sN,sN,sN,sN,sN]):=hid (((HQ.o.below aO.o cB).keeps aR.o (by decide)).WT (by show _≠w.heap.size;omega) _)
     have bW:Hid (Below w.heap.size w (N.setCell (aN w 3) (.slice U (j+1) V))):=hid (bU.o.setCell lr _);have cg:=hid (aW.o.keeps bj.o (by decide));have ck:Hid ((N.setCell (aN w 3) (.slice U (j+1) V)).ownsRow w.heap.size 73 5 (.slice U (j+1) V) (j+1) ((ts ++ [((t,I,O,G,D):YX)]).flatMap YX.cs)):=hid (by
      rw [List.flatMap_append];simpa [YX.cs,Tb.cs] using b8.o.keeps aT.o (by decide))
     have bY:Hid ((ts ++ [((t,I,O,G,D):YX)]).map (·.1)=c.ob.Z8.take (j+1)):=hid (by rw [List.map_append,HD.o,ci.o];rfl);have aX:Hid (XT wr C.heap.size wr.heap.size (t,I,O,G,D)):=hid ⟨aB.o,fun k M=>YB aB.o M,⟨rs,an.o,am.o,fun r hr=>by
      obtain⟨i,hi,rfl⟩:=List.getElem_of_mem hr;obtain⟨h1,h2⟩:=aC.o i hi (by omega);exact⟨h1.YW (fun k M=>⟨M,M.lt⟩) (fun _ _=>rfl),h2⟩⟩,fun k M=>YB am.o M⟩
     have b2:Hid (ZS [73,33] wr (N.setCell (aN w 3) (.slice U (j+1) V))):=hid (((ZS.ZA ((Below.refl wr.heap.size wr).alloc lr _) lr).trans (aR.o.X6 (by simp))).trans (aT.o.X6 (by simp)));have bX:Hid (∀ z∈ts ++ [((t,I,O,G,D):YX)],ZE (N.setCell (aN w 3) (.slice U (j+1) V)) (Xs (N.setCell (aN w 3) (.slice U (j+1) V)) Gj) Zn z.1.da (YX.cs z)):=hid (by
      intro z hz;rcases List.mem_append.1 hz with h1 | h1
      ·exact(aP.o z h1).keeps bj.o (by decide)
      ·rw [List.mem_singleton.1 h1];exact ZE.YW (fun k M=>M.Rp (fun _ h=>h)) (fun _ _=>rfl) _ _ _ ((aX.o.keeps b2.o (by decide) (by decide) (by decide)).VW))
     go_roundw
     case rel=>exact⟨j+1,_,U,V,by omega,by go_num,bY,cg,ck,bX,bW,ca,cc⟩
     case measure=>simp [intOf];omega
  ·obtain rfl:j=c.ob.Z8.length:=by omega
   rw [List.take_length] at HD;have bb:ts.length=c.ob.Z8.length:=by rw [<-HD.o,List.length_map]
   have aY:Hid (ZT wr (Xs wr CT) Zn (c.ob.Z8.map Tb.da) B1):=hid (by
    have h1:=Ye (S:=Xs wr CT) (sh:=Zn) Tb.da (·.1) YX.k aZ.o bb.symm (fun a ha=>ZE.YW (fun _ ⟨t,ht,hp⟩=>⟨t,(by decide: ∀ t,t∈Gj->t∈CT) t ht,hp⟩) (fun _ _=>rfl) _ _ _ (aP.o a ha));rw [HD.o] at h1;exact h1.YW (fun k M=>by
     rcases M with M | M
     ·exact M
     ·exact M.Rp (by decide)) (fun _ _=>rfl))
   have aV:Hid (ZT wr (Xs wr CT) Ze (c.ob.Z7.map Sc.da) B0):=hid (MU aW.o);clear aZ aP aW HD hlt;go_wp2_with fail;have bE:wr.drew.cell? (aN w 4)=some (sl a2 c.ro.ZU k2)/\wr.drew.cell? (aN w 5)=some (sl a3 c.ro.ZY k3):=⟨HP.o.cell 4,HP.o.cell 5⟩
   refine Zp 10 (S:=fun w'=>w'.cell? (aN w 4)=some (sl a2 c.ro.ZU k2)/\w'.cell? (aN w 5)=some (sl a3 c.ro.ZY k3)) (by kernel_rfl) bE (fun d=> ?_)
   (try simp only [pp]);refine YU 0 58 d ?_;refine YU 1 59 d ?_;refine YU 2 60 d ?_;refine YU 4 62 d ?_;refine YU 5 63 d ?_;refine YU 6 64 d ?_;refine OH 3 61 fun K s=> ?_
   go_simp;refine(Xk a2 k2 c.ro.ZU wr.drew (XS (b7.o.later ac.o.drew)) cA).mono ?_
   rintro e V1 ⟨B2,l2,rfl,F,hb⟩;have b5:=hid (F.Yp (show w.heap.size<=wr.drew.heap.size from ac.o.size));have af:Hid (Bw wr V1):=hid (br.drew.trans hb);have bA:=bl HP af.o;have ai:V1.cell? (aN w 4)=some (sl a2 c.ro.ZU k2)/\V1.cell? (aN w 5)=some (sl a3 c.ro.ZY k3):=⟨bA.o.cell 4,bA.o.cell 5⟩
   clear F hb;refine s.out _ _ ai ?_
   clear s K;(try simp only [pp])
   clear d;have d:=ai;refine OH 7 65 fun K s=> ?_
   go_simp;refine(Xc a3 k3 c.ro.ZY V1 (Mb.Yn (b4.o.later (ac.o.trans (af.o.mono ac.o.size)))) cz).mono ?_
   rintro e V2 ⟨B3,l3,rfl,F,hb⟩;have ag:=bt af hb;have bm:=hid (F.Yp (Nat.le_trans ac.o.size af.o.size));have bn:=hid (b5.o.ZC hb);have ak:=bl HP ag.o;have aa:V2.cell? (aN w 4)=some (sl a2 c.ro.ZU k2)/\V2.cell? (aN w 5)=some (sl a3 c.ro.ZY k3):=⟨ak.o.cell 4,ak.o.cell 5⟩
   clear F hb;refine s.out _ _ aa ?_
   clear s K;(try simp only [pp])
   clear d;have d:=aa;refine TU 8 66 (fun _=>d) ?_;refine TU 9 67 (fun _=>d) ?_;refine Zu.WR (i:=10) (o:=⟨none,_,_,_,_,_⟩) (by kernel_rfl) (by kernel_rfl) rfl (fun K s=> ?_)
   have e4:V2.cell? (aN w 4)=some (sl a2 c.ro.ZU k2):=aa.1;have e5:V2.cell? (aN w 5)=some (sl a3 c.ro.ZY k3):=aa.2;have f4:=ak.o.frozen 4;have f5:=ak.o.frozen 5;go_simp;refine s.out _ _ (Zu.done (by kernel_rfl) ?_ _);clear s K d aa ai bE e4 e5 f4 f5;refine Qv _ fun V3 hV=> ?_
   have aE:Hid (ZS [33] V2 V3):=hid (by rw [hV];exact(ZS.Zx ak.o.Xr (by simp) _).trans (ZS.Zx (ak.o.Xr.setCell _ _) (by simp) _));have a6:Hid (ZP V3 w.heap.size 33 [i6 c.ZO,i6 c.ZR,sl B0 c.ob.Z7 l0,sl B1 c.ob.Z8 l1,sl B2 c.ro.ZU l2,sl B3 c.ro.ZY l3,sl a4 c.Z4 k4]):=hid (by rw [hV];exact(ak.o.Zx 4 _).Zx 5 _);have bB:Hid (ZP V3 (w.heap.size+1) 33 [i6 0,i6 0,sN,sN,sN,sN,sN]):=hid (by rw [hV];exact((HQ.o.below ag.o HQ.o.lt).WT (by show _≠w.heap.size;omega) _).WT (by show _≠w.heap.size;omega) _)
   have ae:Hid (Bw w V3):=hid (by rw [hV];exact((ac.o.trans (ag.o.mono ac.o.size)).setCell lr _).setCell lr _);clear hV;have g6:=ce a6 6;go_wp2_with fail;refine(UT a4 k4 c.Z4 V3 (Gr.Yn (b0.o.later ae.o)) cw).mono ?_
   rintro e V4 ⟨B4,l4,rfl,F,hb⟩;have bZ:=hid (F.Yp ae.o.size);have aL:=bt ae hb;have aI:=bl a6 hb;have cr:=bl bB hb;have b1:Hid (ZS [33] wr V4):=hid (((ZS.ZA ag.o lr).trans aE.o).trans (ZS.ZA hb lr));have b6:=hid ((bn.o.keeps aE.o (by decide)).ZC hb);have b3:=hid ((bm.o.keeps aE.o (by decide)).ZC hb);clear F hb g6 a6 bB bn bm aE ae;have g6:=ce aI 6;have f6:=aI.o.frozen 6;have cq:Hid (ZP (V4.setCell (aN w 6) (sl B4 c.Z4 l4)) w.heap.size 33 [i6 c.ZO,i6 c.ZR,sl B0 c.ob.Z7 l0,sl B1 c.ob.Z8 l1,sl B2 c.ro.ZU l2,sl B3 c.ro.ZY l3,sl B4 c.Z4 l4]):=hid (aI.o.Zx 6 _);have cu:Hid (ZP (V4.setCell (aN w 6) (sl B4 c.Z4 l4)) (w.heap.size+1) 33 [i6 0,i6 0,sN,sN,sN,sN,sN]):=hid (cr.o.WT (by show _≠w.heap.size;omega) _)
   have aM:Hid (Below w.heap.size w (V4.setCell (aN w 6) (sl B4 c.Z4 l4))):=hid (aL.o.setCell lr _);have aF:Hid (ZS [33] V4 (V4.setCell (aN w 6) (sl B4 c.Z4 l4))):=hid (ZS.Zx aI.o.Xr (by simp) _);go_wp2_with (first | (refine lO cq aQ underlying33 ?_) | ((refine sO cu aQ ?_);intro wZ HZ) | fail);refine bodyPost_ret (rS (hid HZ.o.YK) underlying33 aQ) rfl ?_
   have aJ:=aF.o.trans HZ.o.keeps;have bD:=b1.o.trans aJ;exact⟨⟨B0,l0,B1,l1,B2,l2,B3,l3,B4,l4⟩,rfl,⟨ZI aV.o bD (by decide),ZI aY.o bD (by decide),ZI (UR (us:=CT) b6.o) aJ (by decide),ZI (Qp (us:=CT) b3.o) aJ (by decide),ZI (Xn (us:=CT) bZ.o) aJ (by decide)⟩,HZ.o.below aM.o (by omega)⟩
end Go.Proofs.YtnhmoibjlakhjaaGreat
