/- Lemmas, each under its own conditions. -/
import Derived.Test.YtnhmoibjlakhjaaGreatW47
import Derived.Test.YtnhmoibjlakhjaaGreatW41
import Derived.Test.YtnhmoibjlakhjaaGreatW55
set_option linter.all false
namespace Go.Proofs.YtnhmoibjlakhjaaGreat
open Go.Proofs.Tryz
open Lib (hid)
set_option maxRecDepth 100000
set_option maxHeartbeats 16000000
open Go.RowKit
def Fj (c:Ca)(x:Cm)(er:Int)(c':Ca):Prop:=
 (Vt c x≠0/\er=Vt c x)∨(Vt c x=0/\er≠0/\ ∃ c1,Vj c x er c1)∨(Vt c x=0/\Sa c x=true/\er=92)∨
 (er=0/\Vt c x=0/\Sa c x=false/\ ∃ c1 l,Vj c x 0 c1/\l.Perm (Vd c1)/\c'=⟨c.ZO+ (if Ul x=true then 1 else 0),c.ZR+1,c1.ob,c1.ro,l⟩)
def EI (c:Ca)(x:Cm)(w:World)(e:Ending)(w':World):Prop:=
 ∃ er c' A',e= .returned (.tuple #[.agg (c'.cs A').toArray,i6 er])/\Fj c x er c'/\(er=0->Ta w' c' A')/\Bw w w'
section
variable {c : Ca} {x : Cm}
theorem Ep (h:Xy c≠0):Vt c x=Xy c:=by
 unfold Vt;rw [if_pos h];unfold Xy at h ⊢;split at h
 ·exact absurd rfl h
 ·rename_i d;rw [if_neg d]
theorem Eo (d:Xy c=0)(h:TC x=false):Vt c x=90:=by unfold Vt;rw [if_neg (by simp [d]),if_pos h]
theorem En (d:Xy c=0)(h:TC x=true)(j:c.ro.ZU.contains x.ZH=false):Vt c x=71:=by unfold Vt;rw [if_neg (by simp [d]),if_neg (by simp [h]),if_pos j]
theorem Em (d:Xy c=0)(h:TC x=true)(j:c.ro.ZU.contains x.ZH=true)(m:U7 c x=false):Vt c x=61:=by unfold Vt;rw [if_neg (by simp [d]),if_neg (by simp [h]),if_neg (by rw [j];simp),if_pos m]
theorem El (d:Xy c=0)(h:TC x=true)(j:c.ro.ZU.contains x.ZH=true)(m:U7 c x=true)(s:U6 c x≠0):Vt c x=U6 c x:=by unfold Vt;rw [if_neg (by simp [d]),if_neg (by simp [h]),if_neg (by rw [j];simp),if_neg (by simp [m]),if_pos s]
theorem pre6 (d:Xy c=0)(h:TC x=true)(j:c.ro.ZU.contains x.ZH=true)(m:U7 c x=true)(s:U6 c x=0)(u:Vh c x=false):Vt c x=91:=by unfold Vt;rw [if_neg (by simp [d]),if_neg (by simp [h]),if_neg (by rw [j];simp),if_neg (by simp [m]),if_neg (by simp [s]),if_pos u]
theorem DA (d:Xy c=0)(h:TC x=true)(j:c.ro.ZU.contains x.ZH=true)(m:U7 c x=true)(s:U6 c x=0)(u:Vh c x=true):Vt c x=0:=by unfold Vt;rw [if_neg (by simp [d]),if_neg (by simp [h]),if_neg (by rw [j];simp),if_neg (by simp [m]),if_neg (by simp [s]),if_neg (by simp [u])]
theorem FR (h:TC x=true)(d:x.ZV=5):x.Z3.length=1:=by
 unfold TC Pk at h;rw [if_neg (by omega),if_pos d] at h;simp only [Bool.and_eq_true,beq_iff_eq] at h;exact h.2.2
theorem GU {s:lU}(h:Zw s=true):s≠ []:=by rintro rfl;cases h
theorem I8 (d:TC x=true)(m:U7 c x=true)(hb:PT x.ZV=1):(c.ob.Z7.any fun s=>s.name == x.Z9)=true:=by
 have C:x.ZV=2∨x.ZV=3:=by
  unfold PT at hb;split at hb
  ·assumption
  ·split at hb
   ·cases hb
   ·split at hb <;> cases hb
 have D:x.Z9≠ []:=by
  unfold TC Ra at d;simp only [Bool.and_eq_true] at d;have j:=d.1.2.1.1.1;have E:(Vy x.ZV).1=true:=by rcases C with h | h <;> rw [h] <;> rfl
  rw [E] at j;intro e;rw [e] at j
  cases j
 have u:x.ZV≠1:=by omega
 unfold U7 at m;simpa [D,u] using m
theorem FO (h:false=(!(x.Z9 == []) && !(x.ZV == 1))):U7 c x=true:=by
 unfold U7
 cases h1:(x.Z9 == []) <;> cases h2:(x.ZV == 1) <;> rw [h1,h2] at h <;> first | rfl | cases h
theorem FN (h:true=(!(x.Z9 == []) && !(x.ZV == 1))):U7 c x=c.ob.Z7.any fun s=>s.name == x.Z9:=by
 unfold U7
 cases h1:(x.Z9 == []) <;> cases h2:(x.ZV == 1) <;> rw [h1,h2] at h <;> first | rfl | cases h
theorem FM (h:false=(!(x.ZZ == []) && !(x.ZV == 3))):U6 c x=0:=by
 unfold U6
 cases h1:(x.ZZ == []) with
 | true=>rw [if_pos (Or.inl (by simpa using h1))]
 | false=>
  cases h2:(x.ZV == 3) with
  | true=>rw [if_pos (Or.inr (by simpa using h2))]
  | false=>rw [h1,h2] at h;cases h
theorem FL (h:true=(!(x.ZZ == []) && !(x.ZV == 3))):U6 c x=Sk c.ob x.Z9 x.ZZ:=by
 unfold U6
 cases h1:(x.ZZ == []) with
 | true=>rw [h1] at h;cases h
 | false=>
  cases h2:(x.ZV == 3) with
  | true=>rw [h1,h2] at h;cases h
  | false=>rw [if_neg (by rintro(h3 | h3) <;> simp_all)];rfl
theorem F2 {c1:Ca}(h:Vj c x 0 c1):c1.ZO=c.ZO/\c1.ZR=c.ZR:=by
 unfold Vj at h;split at h
 ·obtain⟨_,_,rfl⟩:=h;exact⟨rfl,rfl⟩
 split at h
 ·rcases h with ⟨h,_⟩ | ⟨_,_,_,rfl⟩
  ·cases h
  ·exact⟨rfl,rfl⟩
 split at h
 ·rcases h with h | ⟨_,_,_,rfl⟩
  ·exact absurd rfl h
  ·exact⟨rfl,rfl⟩
 split at h
 ·rcases h with h | ⟨_,_,_,rfl⟩
  ·exact absurd rfl h
  ·exact⟨rfl,rfl⟩
 split at h
 ·rcases h with ⟨h,_⟩ | ⟨_,_,rfl⟩
  ·cases h
  ·exact⟨rfl,rfl⟩
 split at h
 ·rcases h with h | ⟨_,_,_,rfl⟩
  ·exact absurd rfl h
  ·exact⟨rfl,rfl⟩
 ·obtain⟨_,_,rfl⟩:=h;exact⟨rfl,rfl⟩
end
theorem Ri {P:Program}{C:Func}{t u:Tmp}{j s:TypeId}(h:C.results= #[.cell t j,.cell u s])(tmps:Array Value)(w:World)(b m:Nat)(hb:tmps.getD t undef=pT b)(F:tmps.getD u undef=pT m)
  {t':TypeId} {cs:lV} {v:Value} (I:Hid (ZP w b t' cs)) {n:Nat} (L:cs.length=n) {d:TypeDesc} (M:P.underlying j=some d) (hd:d.isRow=true) (J:Hid ((P.info? j).map (·.size)=some n))
  (G:(loadVar s (aD m 0)).run P w= .ok v w):(results C tmps).run P w= .ok (.tuple #[.agg cs.toArray,v]) w:=by
 have K:=run_loadVar_mid w b 0 j cs d I.o.Yz M hd (L▸J.o);have E:tmps[t]?.getD undef=pT b:=by simpa using hb
 have D:tmps[u]?.getD undef=pT m:=by simpa using F
 simp [results,h,E,K,D,G,asAddr]
theorem SL (w:World)(b:Nat)(E:Int)(h:w.cell? (aD b 0)=some (i6 E)):(loadVar 45 (aD b 0)).run prog w= .ok (i6 E) w:=by
 simp [go_sem,h]
theorem XW (tmps:Array Value)(R:Ending->World->Prop)(base h d:Nat)(E:Int)(j:lV)(u:Int)(W:World){s:Fn}{cap m:Array Value}
  (I:tmps.getD 4 undef=pT h) (J:tmps.getD 5 undef=pT d) (T:(invoke (.fn s cap) m).run prog W= .ok (.enter 25 #[pT h,pT d]) W)
  (N:Hid (ZP W h 33 j)) (U:j.length=7) (M:Hid (ZP W d 45 [i6 u])) (D:base<=h) (F:base<=d) (G:h≠d)
  (O: ∀ w',Below base W w'->R (.returned (.tuple #[.agg (Ca.zero.cs Wd.zero).toArray,i6 E])) w'):
  Leaves prog Tryz.f9 tmps R [{ target:= .fn s cap,args:=m}] (.panicking (Sl E)) W:=by
 have C:=iN 33 7;refine leaves_cons (f:=25) (args:= #[pT h,pT d]) (by simp) T ?_
 refine(Ja base h d E j u W N.o U M.o D F G).mono ?_
 rintro e V w' ⟨rfl,rfl,K,L,hb⟩;refine⟨_,Ri Tryz.results9 tmps w' h d I J (hid K) rfl underlying33 rfl C (SL w' d E (L.cell 0)),O w' hb⟩
theorem Hv (w:World)(a b d e:lV)(t u v y:TypeId)(W:World)(j:W=(((w.alloc (.cells a.toArray t)).alloc (.cells b.toArray u)).alloc (.cells d.toArray v)).alloc (.cells e.toArray y)):
  ZP W w.heap.size t a/\ZP W (w.heap.size+1) u b/\ZP W (w.heap.size+1+1) v d/\ZP W (w.heap.size+1+1+1) y e/\Bw w W:=by
 subst j;have m:(w.alloc (.cells a.toArray t)).heap.size=w.heap.size+1:=by simp
 have s:((w.alloc (.cells a.toArray t)).alloc (.cells b.toArray u)).heap.size=w.heap.size+1+1:=by simp
 have C:(((w.alloc (.cells a.toArray t)).alloc (.cells b.toArray u)).alloc (.cells d.toArray v)).heap.size=w.heap.size+1+1+1:=by simp
 refine⟨(((ZP.new w t a).alloc _).alloc _).alloc _,?_,?_,?_,?_⟩
 ·have h:=((ZP.new (w.alloc (.cells a.toArray t)) u b).alloc (.cells d.toArray v)).alloc (.cells e.toArray y);rwa [m] at h
 ·have h:=(ZP.new ((w.alloc (.cells a.toArray t)).alloc (.cells b.toArray u)) v d).alloc (.cells e.toArray y);rwa [s] at h
 ·have h:=ZP.new (((w.alloc (.cells a.toArray t)).alloc (.cells b.toArray u)).alloc (.cells d.toArray v)) y e;rwa [C] at h
 ·exact(((br.alloc lr _).alloc (by omega) _).alloc (by omega) _).alloc (by omega) _
theorem WK (c:Ca)(A:Wd)(x:Cm)(X:oA)(k:Nat)(Y:oA)(n:Nat)(w:World)(hc:UH w w.heap.size c A)(ht:c.Zo 1099511627776)
  (hX:rA w Zz (x.Z3.map Cl.da) X) (hY:rA w [.Z2] (YV x.ZX.Z3) Y) (hx:x.Zo 549755813888) (bz:Qo x.ZX):
  cQ 9 #[.agg (c.cs A).toArray,.agg (x.cs X k Y n).toArray] w (EI c x w):=by
 have HC:=hid hc;have ar:=hid ht;have HX:=hid hX;have HY:=hid hY;have bE:=hid hx;have bo:Hid (x.Zo 1099511627776):=hid ⟨Nat.le_trans hx.1 (by omega),Nat.le_trans hx.2.1 (by omega),Nat.le_trans hx.2.2.1 (by omega),Nat.le_trans hx.2.2.2.1 (by omega),Nat.le_trans hx.2.2.2.2.1 (by omega),Nat.le_trans hx.2.2.2.2.2.1 (by omega),hx.2.2.2.2.2.2.1.up (by omega),Nat.le_trans hx.2.2.2.2.2.2.2 (by omega)⟩;have bD:=hid bz;have ad:=iN 33 7;have ae:=iN 43 17;clear hc ht hX hY hx bz;obtain⟨W4,aV⟩: ∃ W4,W4=((((w.alloc (.cells (zC c A).toArray 33)).alloc (.cells (zX x X k Y n).toArray 43)).alloc (.cells #[i6 0,i6 0,sN,sN,sN,sN,sN] 33)).alloc (.cells #[i6 0] 45)):=⟨_,rfl⟩
 obtain⟨p0,x0,q0,e0,hb⟩:=Hv w _ _ _ _ _ _ _ _ W4 aV;have D:=hid p0;have d:=hid x0;have m:=hid q0;have C:=hid e0;have u:=hid hb;clear p0 x0 q0 e0 hb;unfold Cm.cs Ca.cs;go_enter_defers func9,ntmps9
 go_wp2_with (first | (refine lO D ad underlying33 ?_) | fail);try (rw [<-aV])
 clear aV;have bi:Hid (UH W4 W4.heap.size c A):=hid (HC.o.later u.o);have cC:=KT c A W4 bi.o ar.o;unfold Ca.cs at cC;refine cC.mono ?_
 rintro e W5 ⟨rfl,hb⟩;clear cC;have J:=bl D hb;have G:=bl d hb;have K:=bl m hb;have I:=bl C hb;have F:=bt u hb;clear hb D d m C u;have D:=J;have d:=G;have m:=K;have C:=I;have u:=F;clear J G K I F;clear bi;by_cases h1:Xy c=0
 case neg=>
  go_wp2_with fail;have cM:=YE (Xy c) W5;rw [if_neg h1] at cM;refine cM.mono ?_
  rintro e W9 ⟨rfl,rfl⟩;refine XW _ _ w.heap.size (w.heap.size+1+1) (w.heap.size+1+1+1) (Xy c) _ 0 _ (by simp) (by simp) (by simp [go_sem]) m rfl C (by omega) (by omega) (by omega) (fun w' ab=> ?_)
  exact⟨Xy c,Ca.zero,Wd.zero,rfl,Or.inl ⟨by rw [Ep h1];exact h1,(Ep h1).symm⟩,fun h=>absurd h h1,u.o.trans ab⟩
 rw [h1];have H1:=hid h1;go_wp2_with fail;have cM:=YE 0 W5;rw [if_pos rfl] at cM;refine cM.mono ?_
 rintro e W6 ⟨rfl,rfl⟩;clear cM h1;go_wp2_with (first | (refine lO d ae underlying43 ?_) | fail);have cY:=Gk x X k Y n W6 bo.o;unfold Cm.cs at cY;refine cY.mono ?_
 rintro e W7 ⟨rfl,hb⟩;clear cY;have J:=bl D hb;have G:=bl d hb;have K:=bl m hb;have I:=bl C hb;have F:=bt u hb;clear hb D d m C u;have D:=J;have d:=G;have m:=K;have C:=I;have u:=F;clear J G K I F
 cases h2:TC x
 case false=>
  go_wp2_with fail;refine(Ym false 90 W7).mono ?_
  rintro e W9 ⟨rfl,rfl⟩;refine XW _ _ w.heap.size (w.heap.size+1+1) (w.heap.size+1+1+1) 90 _ 0 _ (by simp) (by simp) (by simp [go_sem]) m rfl C (by omega) (by omega) (by omega) (fun w' ab=> ?_)
  exact⟨90,Ca.zero,Wd.zero,rfl,Or.inl ⟨by rw [Eo H1.o h2];decide,(Eo H1.o h2).symm⟩,fun h=>absurd h (by decide),u.o.trans ab⟩
 have H2:=hid h2;clear h2;go_wp2_with fail;refine(Ym true 90 W7).mono ?_
 rintro e W8 ⟨rfl,rfl⟩;have q4:=ce D 4;have r1:=ce d 1;have bK:=ar.o.2.1.1;go_wp2_with fail;refine(Zf c.ro.ZU A.a2 A.k2 x.ZH W8 (HC.o.later u.o).nm bK).mono ?_
 rintro e bp ⟨rfl,rfl⟩;clear q4 r1
 cases h3:c.ro.ZU.contains x.ZH
 case false=>
  go_wp2_with fail;refine(Ym false 71 bp).mono ?_
  rintro e W9 ⟨rfl,rfl⟩;refine XW _ _ w.heap.size (w.heap.size+1+1) (w.heap.size+1+1+1) 71 _ 0 _ (by simp) (by simp) (by simp [go_sem]) m rfl C (by omega) (by omega) (by omega) (fun w' ab=> ?_)
  exact⟨71,Ca.zero,Wd.zero,rfl,Or.inl ⟨by rw [En H1.o H2.o h3];decide,(En H1.o H2.o h3).symm⟩,fun h=>absurd h (by decide),u.o.trans ab⟩
 have H3:=hid h3;clear h3;go_wp2_with fail;refine(Ym true 71 bp).mono ?_
 rintro e bF ⟨rfl,rfl⟩;have HS:Hid (U7 c x=(x.Z9 == [] || x.ZV == 1 || c.ob.Z7.any fun s=>s.name == x.Z9)):=hid rfl;have bm:Hid (U6 c x=if x.ZZ= []∨x.ZV=3 then 0 else Sk c.ob x.Z9 x.ZZ):=hid rfl;go_upto_region 5 with fail
 have r2:=ce d 2;have r0:=ce d 0;go_cut [29] from 6 to 91 (fun v W=> ∃ b,v= .bool b/\Hid (b=(!(x.Z9 == []) && !(x.ZV == 1)))/\Hid (W=bF))
 case first=>
  cases hs:(x.Z9 == [])
  ·have aZ:x.Z9.isEmpty=false:=by simpa using hs
   have a6:(x.Z9 != [])=true:=by simpa using hs
   cases hk:(x.ZV == 1)
   ·have aY:(x.ZV != 1)=true:=by simpa using hk
    go_wp2;go_meet
    case rel=>exact⟨true,rfl,hid (by rw [hs,hk];rfl),hid rfl⟩
   ·have aY:(x.ZV != 1)=false:=by simpa using hk
    go_wp2;go_meet
    case rel=>exact⟨false,rfl,hid (by rw [hs,hk];rfl),hid rfl⟩
  ·have aZ:x.Z9.isEmpty=true:=by simpa using hs
   have a6:(x.Z9 != [])=false:=by simpa using hs
   go_wp2;go_meet
   case rel=>exact⟨false,rfl,hid (by rw [hs];rfl),hid rfl⟩
 case rest=>
 clear r2 r0;obtain⟨b,rfl,ag,aH⟩:=hcut;have aW:=aH.o;subst aW;clear aH;go_upto_if 29 with fail
 go_cut [] from 6 to 91 (fun W=>Hid (ZP W w.heap.size 33 (zC c A))/\Hid (ZP W (w.heap.size+1) 43 (zX x X k Y n))/\Hid (ZP W (w.heap.size+1+1) 33 [i6 0,i6 0,sN,sN,sN,sN,sN])/\Hid (ZP W (w.heap.size+1+1+1) 45 [i6 0])/\Hid (Bw w W)/\Hid (U7 c x=true))
 case first=>
  cases b
  ·go_wp2;go_meet
   case rel=>exact⟨D,d,m,C,u,hid (FO ag.o)⟩
  ·have aQ:Hid (U7 c x=c.ob.Z7.any fun s=>s.name == x.Z9):=hid (FN ag.o);clear HS ag;have q2:=ce D 2;have bM:=ar.o.1.1;go_wp2_with fail;have cH:=Kt c.ob.Z7 A.a0 A.k0 (w.heap.size+1) x.Z9 wc (HC.o.later u.o).sc bM d.o rfl;refine cH.mono ?_
   rintro e bq ⟨rfl,hb⟩;clear cH q2;have J:=bl D hb;have G:=bl d hb;have K:=bl m hb;have I:=bl C hb;have F:=bt u hb;clear hb D d m C u;have D:=J;have d:=G;have m:=K;have C:=I;have u:=F;clear J G K I F;rw [<-aQ.o]
   cases h4:U7 c x
   case false=>
    go_wp2_with fail;refine(Ym false 61 bq).mono ?_
    rintro e W9 ⟨rfl,rfl⟩;refine XW _ _ w.heap.size (w.heap.size+1+1) (w.heap.size+1+1+1) 61 _ 0 _ (by simp) (by simp) (by simp [go_sem]) m rfl C (by omega) (by omega) (by omega) (fun w' ab=> ?_)
    exact⟨61,Ca.zero,Wd.zero,rfl,Or.inl ⟨by rw [Em H1.o H2.o H3.o h4];decide,(Em H1.o H2.o H3.o h4).symm⟩,fun h=>absurd h (by decide),u.o.trans ab⟩
   have H4:=hid h4;clear h4;go_wp2_with fail;refine(Ym true 61 bq).mono ?_
   rintro e bU ⟨rfl,rfl⟩;go_wp2;go_meet
   case rel=>exact⟨D,d,m,C,u,H4⟩
 case rest=>
 clear HS ag D d m C u;obtain⟨D,d,m,C,u,H4⟩:=hcut;generalize wc=W14 at*;go_upto_region 7 with fail
 have r2:=ce d 3;have r0:=ce d 0;go_cut [43] from 6 to 91 (fun v W=> ∃ b,v= .bool b/\Hid (b=(!(x.ZZ == []) && !(x.ZV == 3)))/\Hid (W=W14))
 case first=>
  cases hs:(x.ZZ == [])
  ·have aZ:x.ZZ.isEmpty=false:=by simpa using hs
   have a6:(x.ZZ != [])=true:=by simpa using hs
   cases hk:(x.ZV == 3)
   ·have aY:(x.ZV != 3)=true:=by simpa using hk
    go_wp2;go_meet
    case rel=>exact⟨true,rfl,hid (by rw [hs,hk];rfl),hid rfl⟩
   ·have aY:(x.ZV != 3)=false:=by simpa using hk
    go_wp2;go_meet
    case rel=>exact⟨false,rfl,hid (by rw [hs,hk];rfl),hid rfl⟩
  ·have aZ:x.ZZ.isEmpty=true:=by simpa using hs
   have a6:(x.ZZ != [])=false:=by simpa using hs
   go_wp2;go_meet
   case rel=>exact⟨false,rfl,hid (by rw [hs];rfl),hid rfl⟩
 case rest=>
 clear r2 r0;obtain⟨b,rfl,ag,aH⟩:=hcut;have aW:=aH.o;subst aW;clear aH;go_upto_if 43 with fail
 go_cut [] from 6 to 91 (fun W=>Hid (ZP W w.heap.size 33 (zC c A))/\Hid (ZP W (w.heap.size+1) 43 (zX x X k Y n))/\Hid (ZP W (w.heap.size+1+1) 33 [i6 0,i6 0,sN,sN,sN,sN,sN])/\Hid (ZP W (w.heap.size+1+1+1) 45 [i6 0])/\Hid (Bw w W)/\Hid (U6 c x=0))
 case first=>
  cases b
  ·go_wp2;go_meet
   case rel=>exact⟨D,d,m,C,u,hid (FM ag.o)⟩
  ·have aQ:Hid (U6 c x=Sk c.ob x.Z9 x.ZZ):=hid (FL ag.o);clear bm ag;have q2:=ce D 2;have q3:=ce D 3;have r2:=ce d 2;have r3:=ce d 3;go_wp2_with fail;refine(TL c.ob A.a0 A.k0 A.a1 A.k1 x.Z9 x.ZZ wc (HC.o.later u.o).sc (HC.o.later u.o).tb ar.o.1).mono ?_
   rintro e bG ⟨t',X',k',Y',n',er,rfl,bA,hb,_⟩;clear q2 q3 r2 r3;have aM:Hid (er=U6 c x):=hid (bA.trans aQ.o.symm);clear bA;unfold Tb.cs;have J:=bl D hb;have G:=bl d hb;have K:=bl m hb;have I:=bl C hb;have F:=bt u hb;clear hb D d m C u;have D:=J;have d:=G;have m:=K;have C:=I;have u:=F;clear J G K I F;go_wp2_with fail;refine Zi _ fun aR hW=> ?_
   have aC:Hid (Bw bG aR):=hid (by rw [hW];repeat (first | exact Below.refl _ _ | refine Below.setCell ?_ lr _ | refine Below.alloc ?_ lr _));clear hW;have hb:=aC.o;clear aC;have J:=bl D hb;have G:=bl d hb;have K:=bl m hb;have I:=bl C hb;have F:=bt u hb;clear hb D d m C u;have D:=J;have d:=G;have m:=K;have C:=I;have u:=F;clear J G K I F;by_cases h5:er=0
   case neg=>
    have cM:=YE er aR;rw [if_neg h5] at cM;refine cM.mono ?_
    rintro e W9 ⟨rfl,rfl⟩;have aU:U6 c x≠0:=by rw [<-aM.o];exact h5
    refine XW _ _ w.heap.size (w.heap.size+1+1) (w.heap.size+1+1+1) er _ 0 _ (by simp) (by simp) (by simp [go_sem]) m rfl C (by omega) (by omega) (by omega) (fun w' ab=> ?_)
    exact⟨er,Ca.zero,Wd.zero,rfl,Or.inl ⟨by rw [El H1.o H2.o H3.o H4.o aU];exact aU,by rw [El H1.o H2.o H3.o H4.o aU,aM.o]⟩,fun h=>absurd h h5,u.o.trans ab⟩
   subst h5;have cM:=YE 0 aR;rw [if_pos rfl] at cM;refine cM.mono ?_
   rintro e bV ⟨rfl,rfl⟩;clear cM;go_wp2;go_meet
   case rel=>exact⟨D,d,m,C,u,hid aM.o.symm⟩
 case rest=>
 clear bm ag D d m C u;obtain⟨D,d,m,C,u,H5⟩:=hcut;generalize wc=W18 at*;go_wp2_with (first | (refine lO D ad underlying33 ?_) | (refine lO d ae underlying43 ?_) | fail);have cA:=My c A x X k Y n W18 (HC.o.later u.o) ar.o (I8 H2.o H4.o);unfold Ca.cs Cm.cs at cA;refine cA.mono ?_
 rintro e bs ⟨rfl,hb⟩;clear cA;have J:=bl D hb;have G:=bl d hb;have K:=bl m hb;have I:=bl C hb;have F:=bt u hb;clear hb D d m C u;have D:=J;have d:=G;have m:=K;have C:=I;have u:=F;clear J G K I F
 cases h6:Vh c x
 case false=>
  go_wp2_with fail;refine(Ym false 91 bs).mono ?_
  rintro e W9 ⟨rfl,rfl⟩;refine XW _ _ w.heap.size (w.heap.size+1+1) (w.heap.size+1+1+1) 91 _ 0 _ (by simp) (by simp) (by simp [go_sem]) m rfl C (by omega) (by omega) (by omega) (fun w' ab=> ?_)
  exact⟨91,Ca.zero,Wd.zero,rfl,Or.inl ⟨by rw [pre6 H1.o H2.o H3.o H4.o H5.o h6];decide,(pre6 H1.o H2.o H3.o H4.o H5.o h6).symm⟩,fun h=>absurd h (by decide),u.o.trans ab⟩
 have af:Hid (Vt c x=0):=hid (DA H1.o H2.o H3.o H4.o H5.o h6);clear h6;go_wp2_with fail;refine(Ym true 91 bs).mono ?_
 rintro e bH ⟨rfl,rfl⟩;go_wp2_with (first | (refine lO D ad underlying33 ?_) | fail);have cO:=H9 c A bH (HC.o.later u.o) ar.o;unfold Ca.cs at cO;refine cO.mono ?_
 rintro e bW ⟨A1,rfl,hT,hb⟩;have ac:=hid hT;clear cO hT;have J:=bl D hb;have G:=bl d hb;have K:=bl m hb;have I:=bl C hb;have F:=bt u hb;clear hb D d m C u;have D:=J;have d:=G;have m:=K;have C:=I;have u:=F;clear J G K I F;go_wp2_with (first | ((with_reducible refine Zv rfl 33 _ _ rfl (w.heap.size+1+1) (Ca.cs c A1) rfl rfl m (n:=7) rfl rfl ad (by simp [Ca.cs,Value.oneCell']) ?_);intro bu U;have G:=hid (U.o.other d.o (by omega))) | (refine lO G ae underlying43 ?_) | fail);have J:=hid (U.o.other D.o (by omega));have I:=hid (U.o.other C.o (by omega));have F:Hid (Bw w bu):=hid (U.o.below u.o (by omega));have K:=hid U.o.YK;have V:=hid (ac.o.keeps U.o.keeps (by decide));have bL:=K.o.lt;clear U D d m C u ac;have cD:=DG c A1 x X k Y n (w.heap.size+1+1) bu K.o V.o ar.o (HX.o.later F.o) (HY.o.later F.o) bo.o bD.o (FR H2.o);unfold Cm.cs at cD;refine cD.mono ?_
 rintro e bv ⟨aJ,hd⟩;clear cD;have D:=hid (aJ.YK J.o J.o.lt (fun q=>by injection q with q;omega))
 have d:=hid (aJ.YK G.o G.o.lt (fun q=>by injection q with q;omega));have C:=hid (aJ.YK I.o I.o.lt (fun q=>by injection q with q;omega))
 have u:Hid (Bw w bv):=hid (F.o.trans (aJ.low (by omega) (fun q hq=>by injection hq with hq;omega)));clear aJ J G I F K V bL;rcases hd with ⟨c1,j,rfl,hR,hB,hT⟩ | ⟨E,c1,h0,rfl,hR,vs,hB,bS⟩
 case inr=>
  have QE:=hid hB;refine XW _ _ w.heap.size (w.heap.size+1+1) (w.heap.size+1+1+1) E vs 0 _ (by simp) (by simp) (by simp [go_sem]) QE bS C (by omega) (by omega) (by omega) (fun w' ab=> ?_)
  exact⟨E,Ca.zero,Wd.zero,rfl,Or.inr (Or.inl ⟨af.o,h0,c1,hR⟩),fun h=>absurd h h0,u.o.trans ab⟩
 have HR:=hid hR;have m:=hid hB;have ac:=hid hT;have bB:=F2 hR;clear hR hB hT;obtain⟨bX,bT,O,T,aI⟩:=c1;dsimp only at bB;obtain⟨rfl,rfl⟩:=bB;have aG:Hid ((⟨c.ZO,c.ZR,O,T,aI⟩:Ca).Zo 1099511627776):=hid (Ca.Zo.up (JC (M:=549755813888) (by omega) (QL (TY (Un H1.o).1).1) bE.o HR.o) (by omega));obtain⟨_,bI,bJ,bN,bO⟩:=Un H1.o;have ah:Hid (Sa c x= !(decide (c.ZR<1000000000) && (!Ul x || decide (c.ZO<1000)))):=hid rfl;obtain⟨fx,aL⟩: ∃ fx,fx=Ul x:=⟨_,rfl⟩
 rw [<-aL] at ah;have bj:=hid aL;have cF:Hid (∀ W,cQ 36 #[.agg (zX x X k Y n).toArray] W fun e w'=>e= .returned (.bool fx)/\Bw W w'):=hid (fun W=>by rw [aL];exact KJ x X k Y n W);clear aL;have v1:=ce D 1;have v0:=ce D 0;by_cases hv:c.ZR<1000000000
 case neg=>
  have aa:Hid (Sa c x=true):=hid (by rw [ah.o];simp [hv]);clear ah;go_wp2_with fail;refine(Ym false 92 bv).mono ?_
  rintro e W9 ⟨rfl,rfl⟩;refine XW _ _ w.heap.size (w.heap.size+1+1) (w.heap.size+1+1+1) 92 _ 0 _ (by simp) (by simp) (by simp [go_sem]) m rfl C (by omega) (by omega) (by omega) (fun w' ab=> ?_)
  exact⟨92,Ca.zero,Wd.zero,rfl,Or.inr (Or.inr (Or.inl ⟨af.o,aa.o,rfl⟩)),fun h=>absurd h (by decide),u.o.trans ab⟩
 cases fx
 ·have a7:=ce d 0;have a8:=ce d 1;have ba:=ce d 2;have bb:=ce d 3;have bc:=ce d 4;have bd:=ce d 5;have be:=ce d 6;have bf:=ce d 7;have bg:=ce d 8;have bh:=ce d 9;have av:=ce d 10;have aw:=ce d 11;have ax:=ce d 12;have ay:=ce d 13;have az:=ce d 14;have aA:=ce d 15;have aB:=ce d 16;go_wp2_with fail;clear a7 a8 ba bb bc bd be bf bg bh av aw ax ay az aA aB;refine(cF.o _).mono ?_
  rintro e aK ⟨rfl,hb⟩;have V:=hid (ac.o.later hb);clear ac;have ac:=V;clear V v0 v1;have J:=bl D hb;have G:=bl d hb;have K:=bl m hb;have I:=bl C hb;have F:=bt u hb;clear hb D d m C u;have D:=J;have d:=G;have m:=K;have C:=I;have u:=F;clear J G K I F;have aa:Hid (Sa c x=false):=hid (by rw [ah.o];simp [hv]);clear ah;go_wp2_with fail;refine(Ym true 92 aK).mono ?_
  rintro e aS ⟨rfl,rfl⟩;skip
  go_wp2_with (first | (refine lO m ad underlying33 ?_) | fail);have au:=Pq ⟨c.ZO,c.ZR,O,T,aI⟩ j aS ac.o.VE aG.o;unfold Ca.cs at au;refine au.mono ?_
  rintro e Z ⟨l,L,N,rfl,hp,ho,hb⟩;clear au;have aP:=hid hp;have aE:=hid ho;have V:=hid (ac.o.later hb);clear ac hp ho;have J:=bl D hb;have G:=bl d hb;have K:=bl m hb;have I:=bl C hb;have F:=bt u hb;clear hb D d m C u;have D:=J;have d:=G;have m:=K;have C:=I;have u:=F;clear J G K I F;have Qa:Hid (ZP (Z.setCell (aD (w.heap.size+1+1) 6) (sl L l N)) (w.heap.size+1+1) 33 [i6 c.ZO,i6 c.ZR,sl j.a0 O.Z7 j.k0,sl j.a1 O.Z8 j.k1,sl j.a2 T.ZU j.k2,sl j.a3 T.ZY j.k3,sl L l N]):=hid (m.o.Zx 6 _);have Qb:Hid (ZP ((Z.setCell (aD (w.heap.size+1+1) 6) (sl L l N)).setCell (aD (w.heap.size+1+1) 1) (i6 (c.ZR+1))) (w.heap.size+1+1) 33 [i6 c.ZO,i6 (c.ZR+1),sl j.a0 O.Z7 j.k0,sl j.a1 O.Z8 j.k1,sl j.a2 T.ZU j.k2,sl j.a3 T.ZY j.k3,sl L l N]):=hid (Qa.o.Zx 1 _);have e6:=ce m 6;have f6:=m.o.frozen 6;have e1:(Z.setCell (aD (w.heap.size+1+1) 6) (sl L l N)).cell? (aD (w.heap.size+1+1) 1)=some (i6 c.ZR):=Qa.o.cell 1;have f1:=Qa.o.frozen 1;have Xb:Hid (ZP ((Z.setCell (aD (w.heap.size+1+1) 6) (sl L l N)).setCell (aD (w.heap.size+1+1) 1) (i6 (c.ZR+1))) (w.heap.size+1) 43 (zX x X k Y n)):=hid ((d.o.WT (by dsimp only;omega) _).WT (by dsimp only;omega) _)
  have Eb:Hid (ZP ((Z.setCell (aD (w.heap.size+1+1) 6) (sl L l N)).setCell (aD (w.heap.size+1+1) 1) (i6 (c.ZR+1))) (w.heap.size+1+1+1) 45 [i6 0]):=hid ((C.o.WT (by dsimp only;omega) _).WT (by dsimp only;omega) _);have am:Hid (Below w.heap.size w ((Z.setCell (aD (w.heap.size+1+1) 6) (sl L l N)).setCell (aD (w.heap.size+1+1) 1) (i6 (c.ZR+1)))):=hid ((u.o.setCell (by dsimp only;omega) _).setCell (by dsimp only;omega) _)
  have ap:Hid (ZS [33] Z ((Z.setCell (aD (w.heap.size+1+1) 6) (sl L l N)).setCell (aD (w.heap.size+1+1) 1) (i6 (c.ZR+1)))):=hid ((ZS.Zx m.o.Xr (by simp) _).trans (ZS.Zx (m.o.Xr.setCell _ _) (by simp) _));have aq:=hid (V.o.keeps ap.o (by decide));have ao:=hid (aE.o.keeps ap.o (by decide));go_wp2_with (first | (refine lO Xb ae underlying43 ?_) | fail);clear e6 f6 e1 f1 V aE ap Qa m d C D u;refine Zi _ fun aT hW=> ?_
  rw [<-hW] at Qb Xb Eb am aq ao;clear hW;refine(cF.o aT).mono ?_
  rintro e ak ⟨rfl,hb⟩;have m:=bl Qb hb;have C:=bl Eb hb;have u:=bt am hb;have V:=hid (aq.o.later hb);have aF:=hid (ao.o.ZC hb);clear hb Qb Eb Xb am aq ao cF;have an:Hid (∀ W,ZS [33,45] ak W->Ta W ⟨c.ZO,c.ZR+1,O,T,l⟩ ⟨j.a0,j.k0,j.a1,j.k1,j.a2,j.k2,j.a3,j.k3,L,N⟩):=hid (fun W hk=>by
   have aj:=V.o.keeps hk (by decide);exact⟨aj.sc,aj.tb,aj.nm,aj.mb,Xn (us:=CT) (aF.o.keeps hk (by decide))⟩)
  clear V aF;go_wp2_with (first | (refine lO m ad underlying33 ?_) | ((refine sO m ad ?_);intro ai U;have Ed:=hid (U.o.other C.o (by omega));have g0:ai.cell? (aD (w.heap.size+1+1+1) 0)=some (i6 0):=Ed.o.cell 0;have g1:ai.frozen? (aD (w.heap.size+1+1+1) 0)=false:=Ed.o.frozen 0) | fail);have Qd:Hid (ZP (ai.setCell (aD (w.heap.size+1+1+1) 0) (i6 0)) (w.heap.size+1+1) 33 [i6 c.ZO,i6 (c.ZR+1),sl j.a0 O.Z7 j.k0,sl j.a1 O.Z8 j.k1,sl j.a2 T.ZU j.k2,sl j.a3 T.ZY j.k3,sl L l N]):=hid (U.o.YK.WT (by dsimp only;omega) _)
  have Ee:Hid (ZP (ai.setCell (aD (w.heap.size+1+1+1) 0) (i6 0)) (w.heap.size+1+1+1) 45 [i6 0]):=hid (Ed.o.Zx 0 _);refine leaves_cons (f:=25) (args:= #[pT (w.heap.size+1+1),pT (w.heap.size+1+1+1)]) (by simp) (by simp [go_sem]) ?_
  refine(Qf _ _ _).mono ?_
  rintro e u' w'' ⟨rfl,rfl,rfl⟩;refine⟨_,Ri Tryz.results9 _ _ (w.heap.size+1+1) (w.heap.size+1+1+1) (by simp) (by simp) Qd rfl underlying33 rfl ad (SL _ (w.heap.size+1+1+1) 0 (Ee.o.cell 0)),?_⟩
  refine⟨0,⟨c.ZO,c.ZR+1,O,T,l⟩,⟨j.a0,j.k0,j.a1,j.k1,j.a2,j.k2,j.a3,j.k3,L,N⟩,rfl,Or.inr (Or.inr (Or.inr ⟨rfl,af.o,aa.o,⟨c.ZO,c.ZR,O,T,aI⟩,l,HR.o,aP.o,?_⟩)),fun _=>an.o _ ?_,?_⟩
  ·rw [if_neg (by rw [<-bj.o];simp)];simp
  ·exact(U.o.keeps.X6 (by simp)).trans (ZS.Zx Ed.o.Xr (by simp) _)
  ·exact(U.o.below u.o (by omega)).setCell (by dsimp only;omega) _
 ·have a7:=ce d 0;have a8:=ce d 1;have ba:=ce d 2;have bb:=ce d 3;have bc:=ce d 4;have bd:=ce d 5;have be:=ce d 6;have bf:=ce d 7;have bg:=ce d 8;have bh:=ce d 9;have av:=ce d 10;have aw:=ce d 11;have ax:=ce d 12;have ay:=ce d 13;have az:=ce d 14;have aA:=ce d 15;have aB:=ce d 16;go_wp2_with fail;clear a7 a8 ba bb bc bd be bf bg bh av aw ax ay az aA aB;refine(cF.o _).mono ?_
  rintro e aK ⟨rfl,hb⟩;have V:=hid (ac.o.later hb);clear ac;have ac:=V;clear V v0 v1;have J:=bl D hb;have G:=bl d hb;have K:=bl m hb;have I:=bl C hb;have F:=bt u hb;clear hb D d m C u;have D:=J;have d:=G;have m:=K;have C:=I;have u:=F;clear J G K I F;have v0:=ce D 0;by_cases he:c.ZO<1000
  case neg=>
   have aa:Hid (Sa c x=true):=hid (by rw [ah.o];simp [he]);clear ah;go_wp2_with fail;refine(Ym _ 92 aK).mono ?_
   rintro e W9 ⟨aX,rfl⟩;obtain rfl:e= .panicked (Sl 92):=by rw [aX,decide_eq_false (show ¬ c.ZO<1000 by omega)];rfl
   refine XW _ _ w.heap.size (w.heap.size+1+1) (w.heap.size+1+1+1) 92 _ 0 _ (by simp) (by simp) (by simp [go_sem]) m rfl C (by omega) (by omega) (by omega) (fun w' ab=> ?_)
   exact⟨92,Ca.zero,Wd.zero,rfl,Or.inr (Or.inr (Or.inl ⟨af.o,aa.o,rfl⟩)),fun h=>absurd h (by decide),u.o.trans ab⟩
  have aa:Hid (Sa c x=false):=hid (by rw [ah.o];simp [he,hv]);clear ah;go_wp2_with fail;refine(Ym _ 92 aK).mono ?_
  rintro e aS ⟨aX,rfl⟩;obtain rfl:e= .returned (.tuple #[]):=by rw [aX];first | rfl | (rw [decide_eq_true (show c.ZO<1000 by omega)];rfl)
  go_wp2_with (first | (refine lO m ad underlying33 ?_) | fail);have au:=Pq ⟨c.ZO,c.ZR,O,T,aI⟩ j aS ac.o.VE aG.o;unfold Ca.cs at au;refine au.mono ?_
  rintro e Z ⟨l,L,N,rfl,hp,ho,hb⟩;clear au;have aP:=hid hp;have aE:=hid ho;have V:=hid (ac.o.later hb);clear ac hp ho;have J:=bl D hb;have G:=bl d hb;have K:=bl m hb;have I:=bl C hb;have F:=bt u hb;clear hb D d m C u;have D:=J;have d:=G;have m:=K;have C:=I;have u:=F;clear J G K I F;have Qa:Hid (ZP (Z.setCell (aD (w.heap.size+1+1) 6) (sl L l N)) (w.heap.size+1+1) 33 [i6 c.ZO,i6 c.ZR,sl j.a0 O.Z7 j.k0,sl j.a1 O.Z8 j.k1,sl j.a2 T.ZU j.k2,sl j.a3 T.ZY j.k3,sl L l N]):=hid (m.o.Zx 6 _);have Qb:Hid (ZP ((Z.setCell (aD (w.heap.size+1+1) 6) (sl L l N)).setCell (aD (w.heap.size+1+1) 1) (i6 (c.ZR+1))) (w.heap.size+1+1) 33 [i6 c.ZO,i6 (c.ZR+1),sl j.a0 O.Z7 j.k0,sl j.a1 O.Z8 j.k1,sl j.a2 T.ZU j.k2,sl j.a3 T.ZY j.k3,sl L l N]):=hid (Qa.o.Zx 1 _);have e6:=ce m 6;have f6:=m.o.frozen 6;have e1:(Z.setCell (aD (w.heap.size+1+1) 6) (sl L l N)).cell? (aD (w.heap.size+1+1) 1)=some (i6 c.ZR):=Qa.o.cell 1;have f1:=Qa.o.frozen 1;have Xb:Hid (ZP ((Z.setCell (aD (w.heap.size+1+1) 6) (sl L l N)).setCell (aD (w.heap.size+1+1) 1) (i6 (c.ZR+1))) (w.heap.size+1) 43 (zX x X k Y n)):=hid ((d.o.WT (by dsimp only;omega) _).WT (by dsimp only;omega) _)
  have Eb:Hid (ZP ((Z.setCell (aD (w.heap.size+1+1) 6) (sl L l N)).setCell (aD (w.heap.size+1+1) 1) (i6 (c.ZR+1))) (w.heap.size+1+1+1) 45 [i6 0]):=hid ((C.o.WT (by dsimp only;omega) _).WT (by dsimp only;omega) _);have am:Hid (Below w.heap.size w ((Z.setCell (aD (w.heap.size+1+1) 6) (sl L l N)).setCell (aD (w.heap.size+1+1) 1) (i6 (c.ZR+1)))):=hid ((u.o.setCell (by dsimp only;omega) _).setCell (by dsimp only;omega) _)
  have ap:Hid (ZS [33] Z ((Z.setCell (aD (w.heap.size+1+1) 6) (sl L l N)).setCell (aD (w.heap.size+1+1) 1) (i6 (c.ZR+1)))):=hid ((ZS.Zx m.o.Xr (by simp) _).trans (ZS.Zx (m.o.Xr.setCell _ _) (by simp) _));have aq:=hid (V.o.keeps ap.o (by decide));have ao:=hid (aE.o.keeps ap.o (by decide));go_wp2_with (first | (refine lO Xb ae underlying43 ?_) | fail);clear e6 f6 e1 f1 V aE ap Qa m d C D u;refine Zi _ fun aT hW=> ?_
  rw [<-hW] at Qb Xb Eb am aq ao;clear hW;refine(cF.o aT).mono ?_
  rintro e ak ⟨rfl,hb⟩;have m:=bl Qb hb;have C:=bl Eb hb;have u:=bt am hb;have V:=hid (aq.o.later hb);have aF:=hid (ao.o.ZC hb);clear hb Qb Eb Xb am aq ao cF;have e0:=ce m 0;have f0:=m.o.frozen 0;have Qc:Hid (ZP (ak.setCell (aD (w.heap.size+1+1) 0) (i6 (c.ZO+1))) (w.heap.size+1+1) 33 [i6 (c.ZO+1),i6 (c.ZR+1),sl j.a0 O.Z7 j.k0,sl j.a1 O.Z8 j.k1,sl j.a2 T.ZU j.k2,sl j.a3 T.ZY j.k3,sl L l N]):=hid (m.o.Zx 0 _);have Ec:Hid (ZP (ak.setCell (aD (w.heap.size+1+1) 0) (i6 (c.ZO+1))) (w.heap.size+1+1+1) 45 [i6 0]):=hid (C.o.WT (by dsimp only;omega) _)
  have bC:Hid (Below w.heap.size w (ak.setCell (aD (w.heap.size+1+1) 0) (i6 (c.ZO+1)))):=hid (u.o.setCell (by dsimp only;omega) _);have aO:Hid (ZS [33] ak (ak.setCell (aD (w.heap.size+1+1) 0) (i6 (c.ZO+1)))):=hid (ZS.Zx m.o.Xr (by simp) _);have bn:=hid (V.o.keeps aO.o (by decide));have bk:=hid (aF.o.keeps aO.o (by decide));clear V aF aO m C u;have an:Hid (∀ W,ZS [33,45] (ak.setCell (aD (w.heap.size+1+1) 0) (i6 (c.ZO+1))) W->Ta W ⟨c.ZO+1,c.ZR+1,O,T,l⟩ ⟨j.a0,j.k0,j.a1,j.k1,j.a2,j.k2,j.a3,j.k3,L,N⟩):=hid (fun W hk=>by
   have aj:=bn.o.keeps hk (by decide);exact⟨aj.sc,aj.tb,aj.nm,aj.mb,Xn (us:=CT) (bk.o.keeps hk (by decide))⟩)
  clear bn bk;go_wp2_with (first | (refine lO Qc ad underlying33 ?_) | ((refine sO Qc ad ?_);intro ai U;have Ed:=hid (U.o.other Ec.o (by omega));have g0:ai.cell? (aD (w.heap.size+1+1+1) 0)=some (i6 0):=Ed.o.cell 0;have g1:ai.frozen? (aD (w.heap.size+1+1+1) 0)=false:=Ed.o.frozen 0) | fail);have Qd:Hid (ZP (ai.setCell (aD (w.heap.size+1+1+1) 0) (i6 0)) (w.heap.size+1+1) 33 [i6 (c.ZO+1),i6 (c.ZR+1),sl j.a0 O.Z7 j.k0,sl j.a1 O.Z8 j.k1,sl j.a2 T.ZU j.k2,sl j.a3 T.ZY j.k3,sl L l N]):=hid (U.o.YK.WT (by dsimp only;omega) _)
  have Ee:Hid (ZP (ai.setCell (aD (w.heap.size+1+1+1) 0) (i6 0)) (w.heap.size+1+1+1) 45 [i6 0]):=hid (Ed.o.Zx 0 _);refine leaves_cons (f:=25) (args:= #[pT (w.heap.size+1+1),pT (w.heap.size+1+1+1)]) (by simp) (by simp [go_sem]) ?_
  refine(Qf _ _ _).mono ?_
  rintro e u' w'' ⟨rfl,rfl,rfl⟩;refine⟨_,Ri Tryz.results9 _ _ (w.heap.size+1+1) (w.heap.size+1+1+1) (by simp) (by simp) Qd rfl underlying33 rfl ad (SL _ (w.heap.size+1+1+1) 0 (Ee.o.cell 0)),?_⟩
  refine⟨0,⟨(c.ZO+1),c.ZR+1,O,T,l⟩,⟨j.a0,j.k0,j.a1,j.k1,j.a2,j.k2,j.a3,j.k3,L,N⟩,rfl,Or.inr (Or.inr (Or.inr ⟨rfl,af.o,aa.o,⟨c.ZO,c.ZR,O,T,aI⟩,l,HR.o,aP.o,?_⟩)),fun _=>an.o _ ?_,?_⟩
  ·rw [if_pos bj.o.symm]
  ·exact(U.o.keeps.X6 (by simp)).trans (ZS.Zx Ed.o.Xr (by simp) _)
  ·exact(U.o.below bC.o (by omega)).setCell (by dsimp only;omega) _
def Wz:Cm:=⟨1,Yi,[115],[],[],[],[],⟨[],0,[],0,0,[],[],[]⟩,0,false⟩
def UI:Ca:=⟨0,1,⟨[⟨[115],Yi⟩],[]⟩,⟨[Yi],[]⟩,[]⟩
theorem GC:Vt Ca.new Wz=0:=by kernel_rfl
theorem IB:Sa Ca.new Wz=false:=by kernel_rfl
theorem Lq:(Zw Wz.Z9 && Zw Wz.ZH)=true:=by kernel_rfl
theorem Rg:Zc Ca.new.ob=true:=by kernel_rfl
theorem OU:Zc UI.ob=true:=by kernel_rfl
theorem LB {α:Type}{a:α}{l:List α}(h:l.Perm [a]):l= [a]:=List.perm_singleton.1 h
theorem LR (c:Ca)(h:c.Z4= []):Vd c= []:=by
 have:=NZ (c:=c);rw [h] at this;exact List.eq_nil_of_length_eq_zero (by simpa using this)
theorem Nx {m:Int}{D:Ca}(h:Fj Ca.new Wz m D):m=0/\D=UI:=by
 rcases h with ⟨h,_⟩ | ⟨_,h,c1,hd⟩ | ⟨_,h,_⟩ | ⟨h,_,_,c1,l,hd,E,rfl⟩
 ·exact absurd GC h
 ·exfalso
  have s:Fi Ca.new Wz m c1:=hd;obtain⟨F,j,_⟩:=s;unfold MM at j;rw [if_pos Rg] at j;obtain⟨I,C,_⟩:=j;have u:Vk Ca.new.ob Wz.Z9 Wz.ZH m I:=C;rcases u with ⟨_,⟨_,d⟩ | ⟨_,d⟩ | ⟨_,d⟩⟩ | ⟨d,_⟩
  ·rw [Lq] at d;cases d
  ·cases d
  ·exact absurd d (by decide)
  ·exact h d
 ·rw [IB] at h;cases h
 ·refine⟨h,?_⟩
  have s:Fi Ca.new Wz 0 c1:=hd;obtain⟨F,j,rfl⟩:=s;obtain⟨_,C⟩:=TO j;have u:Vk Ca.new.ob Wz.Z9 Wz.ZH 0 F:=C;rcases u with ⟨_,⟨d,_⟩ | ⟨d,_⟩ | ⟨d,_⟩⟩ | ⟨_,_,_,_,_,J,G,_,rfl⟩
  ·cases d
  ·cases d
  ·cases d
  ·have K:J= [⟨[115],Yi⟩]:=LB G;have L:l= []:=by
    rw [LR _ rfl] at E;exact E.eq_nil
   rw [K,L];rfl
theorem Q8 {m:Int}{s:Ca}(h:Fj UI Wz m s):m=60:=by
 have k:∀ m c1,Fi UI Wz m c1->m=60:=by
  intro m c1 ⟨_,j,_⟩;unfold MM at j;rw [if_pos OU] at j;obtain⟨_,C,_⟩:=j;have u:Vk UI.ob Wz.Z9 Wz.ZH m _:=C;rcases u with ⟨_,⟨_,d⟩ | ⟨d,_⟩ | ⟨_,d⟩⟩ | ⟨_,_,_,d,_⟩
  ·rw [Lq] at d;cases d
  ·exact d
  ·exact absurd d (by decide)
  ·rw [show Xd UI.ob.Z7 Wz.Z9=some 0 by kernel_rfl] at d;cases d
 rcases h with ⟨h,_⟩ | ⟨_,h,c,d⟩ | ⟨_,h,_⟩ | ⟨rfl,_,_,c,_,d,_⟩
 ·exact absurd (by kernel_rfl) h
 ·exact k m c d
 ·exact absurd h (by decide)
 ·exact k 0 c d
theorem Ga {c j:Ca}{x:Cm}(h:Fj c x 0 j)(M:Nat)(s:512<=M)(C:x.Zo M):j.Zo M:=by
 rcases h with ⟨h,m⟩ | ⟨_,h,_⟩ | ⟨_,_,h⟩ | ⟨_,h,_,c1,l,hd,u,rfl⟩
 ·exact absurd m.symm h
 ·exact absurd rfl h
 ·cases h
 ·have a:=JC s (QL (TY (Un (NK h).1).1).1) C hd;refine⟨a.1,a.2.1,?_⟩
  have b:=u.length_eq;have d:=NZ (c:=c1);have e:=a.2.2;show l.length<=M;omega
theorem F9 {c s:Ca}{x:Cm}(h:Fj c x 0 s)(j:Zc c.ob=true):Zc s.ob=true:=by
 rcases h with ⟨h,u⟩ | ⟨_,h,_⟩ | ⟨_,_,h⟩ | ⟨_,h,_,c1,l,hd,_,rfl⟩
 ·exact absurd u.symm h
 ·exact absurd rfl h
 ·cases h
 have m:=(NK h).2;show Zc c1.ob=true;unfold Vj at hd;split at hd
 ·obtain⟨o,d,rfl⟩:=hd;have k:=TO d;exact SK (L3 (Vf k.1) k.2)
 split at hd
 ·rename_i C
  rcases hd with ⟨h,_⟩ | ⟨_,o,d,rfl⟩
  ·cases h
  ·have k:=TO d;rcases k.2 with ⟨h,_⟩ | ⟨_,h⟩ | ⟨i,_,D⟩
   ·cases h
   ·cases h
   ·refine SK (KD (Vf k.1) ?_ D)
    unfold TC Ra at m;simp only [Bool.and_eq_true] at m;have a:=m.1.2.2;rw [C] at a;have b:Yh true x.ZQ=true:=by simpa [Vy] using a
    simp only [Yh,Bool.and_eq_true,Bool.or_eq_true,Bool.not_true,Bool.false_eq_true,false_or] at b;exact b.2
 split at hd
 ·rcases hd with h | ⟨_,_,_,rfl⟩
  ·exact absurd rfl h
  ·exact j
 split at hd
 ·rcases hd with h | ⟨_,_,_,rfl⟩
  ·exact absurd rfl h
  ·exact j
 split at hd
 ·rcases hd with ⟨h,_⟩ | ⟨_,_,rfl⟩
  ·cases h
  ·exact j
 split at hd
 ·rcases hd with h | ⟨_,_,_,rfl⟩
  ·exact absurd rfl h
  ·exact j
 obtain⟨o,d,rfl⟩:=hd;obtain⟨k,h⟩:=TO d;have f:=Vf k;apply SK;unfold EH at h;split at h
 ·exact KF f h
 split at h
 ·exact L4 f h
 split at h
 ·exact KE f h
 split at h
 ·rcases h with ⟨_,h⟩ | ⟨_,_,h⟩
  ·cases h
  ·exact Ma f h
 split at h
 ·rcases h with ⟨_,h⟩ | ⟨_,_,h⟩
  ·cases h
  ·exact M8 f h
 split at h
 ·rcases h with ⟨_,h⟩ | ⟨_,_,h⟩
  ·cases h
  ·exact KG f h
 ·rcases h with ⟨_,h⟩ | ⟨_,E,h⟩
  ·cases h
  ·exact L9 f E h
theorem Ht {o:Ob}(h:Zc o=true){t:Tb}(m:t∈o.Z8):Io o.Z8 t:=by
 have I:=Vf h;have d:=I.tb t m;have s:=TE.1 d.co;refine⟨((UU h).2.2 t m).up (by omega),PS h m,fun c C=> ?_,fun r j=> ?_,fun r j G=> ?_⟩
 ·have:=s.2.2.1 c C;unfold VR at this;exact GU (Bool.and_eq_true_iff.1 this).1
 ·obtain⟨_,K,F⟩:=LX (d.ru r j).1;exact⟨by have:=s.2.1;omega,F⟩
 ·obtain⟨u,J,D,E,_⟩:=(d.ru r j).2 G;exact⟨u,J,D,E⟩
def WL:Cm:=⟨3,Yi,[115],[116],[],[],[⟨[120],2,false⟩],⟨[],0,[],0,0,[],[],[]⟩,0,false⟩
def Gu:Tb:=⟨[115],[116],Yi,[⟨[120],2,false⟩],[]⟩
def Ef:Ca:=⟨0,2,⟨[⟨[115],Yi⟩],[Gu]⟩,⟨[Yi],[]⟩,[]⟩
theorem FA:Vt UI WL=0:=by kernel_rfl
theorem Gt:Sa UI WL=false:=by kernel_rfl
theorem EM:Kg (Zw WL.ZZ) (Zw WL.ZH) (Xd UI.ob.Z7 WL.Z9).isSome (XA UI.ob WL.Z9 WL.ZZ).isNone (X9 UI.ob WL.Z9) (YJ WL.Z3) true=true:=by kernel_rfl
theorem FB:VU Gu [⟨2,7,[]⟩]=0:=by kernel_rfl
theorem Iv:Zc Ef.ob=true:=by kernel_rfl
theorem Hb {m:Int}{D:Ca}(h:Fj UI WL m D):m=0/\D=Ef:=by
 rcases h with ⟨h,_⟩ | ⟨_,h,c1,hd⟩ | ⟨_,h,_⟩ | ⟨h,_,_,c1,l,hd,F,rfl⟩
 ·exact absurd FA h
 ·exfalso
  have s:Fi UI WL m c1:=hd;obtain⟨G,j,_⟩:=s;unfold MM at j;rw [if_pos OU] at j;obtain⟨J,C,_⟩:=j;have u:UL UI.ob ⟨WL.Z9,WL.ZZ,WL.ZH,WL.Z3,[]⟩ m J:=C;rcases u with ⟨_,_,d⟩ | ⟨d,_⟩
  ·have M:=EM;have E:Kg (Zw WL.ZZ) (Zw WL.ZH) (Xd UI.ob.Z7 WL.Z9).isSome (XA UI.ob WL.Z9 WL.ZZ).isNone (X9 UI.ob WL.Z9) (YJ WL.Z3) true=false:=d;rw [M] at E;cases E
  ·exact h d
 ·rw [Gt] at h;cases h
 ·refine⟨h,?_⟩
  have s:Fi UI WL 0 c1:=hd;obtain⟨G,j,rfl⟩:=s;obtain⟨_,C⟩:=TO j;have u:UL UI.ob ⟨WL.Z9,WL.ZZ,WL.ZH,WL.Z3,[]⟩ 0 G:=C;rcases u with ⟨d,_⟩ | ⟨_,_,_,_,_,_,_,_,ts',I,_,rfl⟩
  ·exact absurd rfl d
  ·have K:ts'= [Gu]:=LB I;have L:l= []:=by
    rw [LR _ rfl] at F;exact F.eq_nil
   rw [K,L];rfl
theorem Iw:WL.Zo 549755813888:=by
 refine⟨?_,?_,?_,?_,?_,?_,⟨?_,?_,?_,?_⟩,?_⟩ <;> simp [WL,Yi]
def Sf.pr (s:Sf):lV:= [pT s.p]
theorem Sf.pk (s:Sf):(Sf.pr s).length=1:=rfl
structure SO (w:World) (b:Nat) (ts:List Tb) (E:Prop) (ss:List Sf) (L:oA) (c:Nat):Prop where
 own:w.ownsRow b 110 1 (.slice L ss.length c) ss.length (ss.flatMap Sf.pr)
 sh: ∀ s∈ss,TV w b s
 nd:ss.Pairwise fun a b=>a.p≠b.p/\ ∀ k,(Value.slice a.R a.rs.length a.r).ownBlock=some k->(Value.slice b.R b.rs.length b.r).ownBlock≠some k
 tb:ss.map (·.t)=ts.take ss.length
 gd: ∀ s∈ss,s.rs.length<=64/\ ∀ r∈s.rs,XK s.t.Z3 r.1=true
 em:E-> ∀ s∈ss,s.rs= []
theorem SO.nil (w:World)(b:Nat)(ts:List Tb)(E:Prop):SO w b ts E [] none 0:=⟨World.ownsRow_nil w b _ 1,fun s d=>(by cases d),List.Pairwise.nil,by simp,fun s d=>(by cases d),fun _ s d=>(by cases d)⟩
theorem SO.later {w w':World}{b:Nat}{ts:List Tb}{E:Prop}{d:List Sf}{L:oA}{c:Nat}(h:SO w b ts E d L c)(hb:Bw w w'):SO w' b ts E d L c:=⟨h.own.ZC hb,fun s j=>(h.sh s j).later hb,h.nd,h.tb,h.gd,h.em⟩
theorem SO.add {m V C:World}{b:Nat}{ts:List Tb}{E:Prop}{j:List Sf}{L D:oA}{c F:Nat}(h:SO m b ts E j L c)(hb:Bw m V)(J:ZS [110] V C){s:Sf}(hj:j.length<ts.length)(ht:s.t=ts[j.length])(K:b<=m.heap.size)
  (u:TV V m.heap.size s) (N:s.rs.length<=64/\ ∀ r∈s.rs,XK s.t.Z3 r.1=true) (hO:C.ownsRow b 110 1 (.slice D (j.length+1) F) (j.length+1) (j.flatMap Sf.pr ++ [pT s.p])) (M:E->s.rs= []):SO C b ts E (j ++ [s]) D F:=by
 refine⟨?_,fun x d=> ?_,?_,?_,fun x d=> ?_,fun I x d=> ?_⟩
 ·simpa [Sf.pr] using hO
 ·rcases List.mem_append.1 d with d | d
  ·exact((h.sh x d).later hb).keeps J (by decide) (by decide) (by decide)
  ·rw [List.mem_singleton.1 d];exact(u.mono K).keeps J (by decide) (by decide) (by decide)
 ·rw [List.pairwise_append];refine⟨h.nd,List.pairwise_singleton _ _,fun a ha x d=> ?_⟩
  rw [List.mem_singleton.1 d];have G:=h.sh a ha;refine⟨fun e=> ?_,fun k O T=> ?_⟩
  ·have U:=G.YK.lt;have Z:=u.pb;omega
  ·have U:=YB G.own O;have Z:=ZD u.own k T;omega
 ·rw [List.map_append,h.tb,List.length_append,List.length_singleton,List.take_succ_eq_append_getElem hj,<-ht];rfl
 ·rcases List.mem_append.1 d with d | d
  ·exact h.gd x d
  ·rw [List.mem_singleton.1 d];exact N
 ·rcases List.mem_append.1 d with d | d
  ·exact h.em I x d
  ·rw [List.mem_singleton.1 d];exact M I
theorem SO.Dz {w:World}{b:Nat}{ts:List Tb}{E:Prop}{u:List Sf}{L:oA}{c:Nat}(h:SO w b ts E u L c):Qk w u L:=fun D=>by
 obtain⟨I,rfl,_,G⟩:=(YS h.own rfl) D;obtain⟨g,d⟩:=Xi h.own D;injection d with d
 subst d;refine⟨(aD g 0),rfl,⟨110,by simp,Yx h.own (by simp [Value.ownBlock])⟩,fun j s m=> ?_⟩
 obtain⟨F,m⟩:=List.getElem?_eq_some_iff.1 m
 have C:=G (j*1+0) _ (by rw [Zl Sf.pk u j 0 F (by decide)];rfl);rw [Nat.mul_one,Nat.add_zero,m] at C;exact C
theorem SO.done {w:World}{b base g:Nat}{o:Ob}{E:Prop}{I d:List Sf}{L:oA}{c:Nat}(C:WO w base g I)(h:SO w b o.Z8 E d L c)(J:d.length=o.Z8.length)(u:Zc o=true)(G:base<=b):
  WO (w.setCell (aD g 0) (.slice L d.length c)) base g d/\WQ d/\d.map (·.t)=o.Z8:=by
 obtain⟨K,c0,D,_⟩:=C.st;have F:ZS [109] w (w.setCell (aD g 0) (.slice L d.length c)):=ZS.Zx D.Xr (by simp) _;have j:d.map (·.t)=o.Z8:=by rw [h.tb,J,List.take_length]
 refine⟨⟨⟨L,c,D.Zx 0 _,h.Dz.keeps F (by decide)⟩,C.gb,fun s m=>((h.sh s m).keeps F (by decide) (by decide) (by decide)).mono G,h.nd⟩,⟨?_,fun s m=> ?_,h.gd⟩,j⟩
 ·have:=(Vv u).2.1;omega
 ·rw [j];exact Ht u (by rw [<-j];exact List.mem_map_of_mem m)
theorem XT.NF {w:World}{C u:Nat}{t:YX}(h:XT w C u t):ZT w (Xs w VT) Zz (t.1.Z3.map Cl.da) t.2.1/\ZT w (Xs w VT) YF (t.1.ZW.map Ru.da) t.2.2.2.1:=by
 obtain⟨X,x,Y,y,j,m,s⟩:=Tb.YY h.VW;have e:YX.cs t=t.1.cs X x Y y:=j;unfold YX.cs Tb.cs at e;injection e with _ e
 injection e with _ e
 injection e with _ e
 injection e with e1 e
 injection e with e2 e
 injection e1 with e1
 injection e2 with e2
 rw [e1,e2];exact⟨m.YW (fun k d=>d.Rp (by decide)) (fun _ _=>rfl),s.YW (fun k d=>d.Rp (by decide)) (fun _ _=>rfl)⟩
theorem Hi:(prog.info? 110).map (fun i=>(i.zero,i.size,i.bytes))=some (some (.pointer none),1,8):=by kernel_rfl
def Df (base g:Nat)(ss:List Sf)(o:Ob)(w:World)(e:Ending)(w':World):Prop:=e= .returned (i6 0)/\ ∃ ss',WO w' base g ss'/\WQ ss'/\ss'.map (·.t)=o.Z8/\ZS [109] w w'/\Below base w w'/\(ss= []-> ∀ s∈ss',s.rs= [])
theorem Lh (l d:List Cl)(row:List Vl):(Vz l d row).length=d.length:=by simp [Vz]
theorem RQ (base g:Nat)(ss:List Sf)(o:Ob)(A0:oA)(k0:Nat)(A1:oA)(k1:Nat)(w:World)(h:WO w base g ss)(hg:WQ ss)(aC:Zc o=true)(hS:ZT w (· < w.heap.size) Ze (o.Z7.map Sc.da) A0)(hT:ZT w (· < w.heap.size) Zn (o.Z8.map Tb.da) A1):
  cQ 16 #[pT g,.agg #[.slice A0 o.Z7.length k0,.slice A1 o.Z8.length k1]] w (Df base g ss o w):=by
 obtain⟨i0,bT,bV,bW,bX⟩:=info_parts Vo;obtain⟨j0,bA,bC,bD,bE⟩:=info_parts Hi;have bv:base<=w.heap.size:=by
  obtain⟨L,c,hB,_⟩:=h.st;exact Nat.le_trans h.gb (Nat.le_of_lt hB.lt)
 have ax:=hid h;have HG:=hid hg;have HS:=hid hS;have HT:=hid hT;have aI:=hid aC;have aX:Hid (o.Zo 1099511627776):=hid ((UU aC).up (by omega));have bU:o.Z8.length<=64:=(Vv aC).2.1;have HE:Hid (Sj o=0):=hid (by unfold Sj;rw [aC];rfl)
 have bg:=iN 26 2;have bh:=iN 73 5;clear h hg aC hS hT;go_enter func16,ntmps16
 go_upto_region 3 with fail
 refine Wh _ fun W0 hW=> ?_
 have aG:=bP hW;have P0:Hid (ZP W0 w.heap.size 26 [.slice A0 o.Z7.length k0,.slice A1 o.Z8.length k1]):=nC hW;clear hW;go_wp2_with (first | (refine lO P0 bg underlying26 ?_) | fail);have hC:=Vp o A0 k0 A1 k1 W0 (HS.o.later aG.o) (HT.o.later aG.o) aX.o;rw [HE.o] at hC;refine hC.mono ?_
 rintro e W ⟨rfl,hb⟩;have HB:=bt aG hb;have P1:=bl P0 hb;clear hC hb aG P0;have bN:base<=W.heap.size:=Nat.le_trans bv HB.o.size;have p1:=ce P1 1;go_wp2_with fail;clear p1;go_loopw [6,27] (fun v6 bY wr=> ∃ (d:List Sf) (Lp:oA) (lc:Nat),d.length<=o.Z8.length/\v6= .slice Lp d.length lc/\bY=i6 d.length/\Hid (SO wr W.heap.size o.Z8 (ss= []) d Lp lc)/\Hid (Bw W wr)) (fun _ i _=>o.Z8.length - (intOf i).toNat)
 case atStart=>exact⟨[],none,0,Nat.zero_le _,rfl,rfl,hid (SO.nil _ _ _ _),hid br⟩
 case round=>
  obtain⟨d,Lp,lc,hj,rfl,rfl,ap,ac⟩:=hrel;generalize wr=wo at*;by_cases hlt:d.length<o.Z8.length
  ·have b0:(d.length:Int)< (o.Z8.length:Int):=by omega
   have am:=bt HB ac.o;obtain⟨ad,vs,rfl,hv,D⟩:=(HT.o.below am.o).at_ (j:=d.length) (by simpa using hlt);have aY:=hid (Rb aI.o hlt);have aW:Hid (∀ t:Tb,t=o.Z8[d.length]->t=o.Z8[d.length]):=hid (fun _ h=>h);have aV:Hid (∀ (i:Nat) (hi:i<o.Z8.length) (t':Tb),XA o o.Z8[d.length].Z9 o.Z8[d.length].name=some i->t'=o.Z8[i]->t'=o.Z8[d.length]):=hid fun i hi t' h1 h2=>by
    rw [aY.o] at h1;injection h1 with h1
    subst h1;exact h2
   have aO:Hid (Sk o o.Z8[d.length].Z9 o.Z8[d.length].name=0):=hid (by unfold Sk;rw [aI.o,aY.o];rfl);have aP:=hid (List.getElem_mem hlt);rw [List.getElem_map] at hv;obtain⟨t,ht⟩: ∃ t,t=o.Z8[d.length]:=⟨_,rfl⟩
   have aW:=hid ht;rw [<-ht] at hv aV aO aP;clear ht aY;obtain⟨X,x,Y,y,rfl,hX,hY⟩:=Tb.YY hv;have bf:Hid (∀ i u,([sT t.Z9,sT t.name,sT t.ZN,.slice X t.Z3.length x,.slice Y t.ZW.length y]:lV)[i]?=some u->wo.cell? ((ad.add (d.length*5)).add i)=some u):=hid fun i u hu=>by rw [ZG];exact D i u hu
   have HL:Hid ((prog.info? 73).map (·.size)=some ([sT t.Z9,sT t.name,sT t.ZN,.slice X t.Z3.length x,.slice Y t.ZW.length y]:lV).length):=bh;clear hv D hX hY;go_upto_region 10 with (first | (with_reducible refine ZK rfl 73 _ rfl (ad.add (d.length*5)) rfl [sT t.Z9,sT t.name,sT t.ZN,.slice X t.Z3.length x,.slice Y t.ZW.length y] _ bf.o underlying73 rfl HL.o ?_) | fail)
   refine Wh _ fun V1 N=> ?_
   have T1:Hid (ZP V1 wo.heap.size 73 [sT t.Z9,sT t.name,sT t.ZN,.slice X t.Z3.length x,.slice Y t.ZW.length y]):=nC N;have aH:=bP N;clear N bf;have a6:=bt am aH.o;have P2:=bl P1 (bt ac aH.out).o;have t0:=ce T1 0;have t1:=ce T1 1;go_wp2_with (first | (refine lO P2 bg underlying26 ?_) | fail);have hF:=TL o A0 k0 (some ad) k1 t.Z9 t.name V1 (HS.o.later a6.o) (HT.o.later a6.o) aX.o;refine hF.mono ?_
   rintro e V2 ⟨t',T,U,Y2,y2,er,rfl,he,hb,-,-,bz⟩;rw [aO.o] at he;subst he;obtain⟨⟨i,hi,h1,h2⟩,bB⟩:=bz rfl;have bS:=(aV.o i hi t' h1 h2).symm;subst bS;have bo:=hid bB;have bd:=bt aH hb;have T2:=bl T1 hb;clear hF bz hb h1 h2 bB hi i t0 t1 P2 aV aO aH a6 T1;unfold Tb.cs;go_upto_region 11 with fail
   refine Wh _ fun m N=> ?_
   have O3:Hid (ZP m V2.heap.size 73 [sT t.Z9,sT t.name,sT t.ZN,.slice T t.Z3.length U,.slice Y2 t.ZW.length y2]):=nC N;have ah:=bt bd (bP N).o;have T3:=bl T2 (bP N).o;have ak:=hid (bo.o.below (bP N).o);have aL:=hid ak.o.NF.1;have bn:=hid ak.o.NF.2;clear N T2 bo ak bd;go_upto_region 12 with (first | (refine lO O3 bh underlying73 ?_) | fail)
   refine Wh _ fun V4 N=> ?_
   have B4:Hid (ZP V4 m.heap.size 112 [sT t.Z9,sT t.name,sT t.ZN,.slice T t.Z3.length U,.slice Y2 t.ZW.length y2,.slice none 0 0]):=nC N;have F:=bP N;have T4:=bl T3 F.o;clear N T3;have t0:=ce T4 0;have t1:=ce T4 1;have aA:=bt am ah.o;go_wp2_with fail;refine(Rf base g ss t.Z9 t.name V4 (ax.o.later (aA.o.trans (F.o.mono aA.o.size))) (by have:=HG.o.n;omega)).mono ?_
   rintro e I ⟨rfl,rfl⟩;clear t0 t1 T4
   cases hf:ss.find? (Ur t.Z9 t.name) with
   | none=>
    have Bx:=B4;have aw:=hid (World.ownsRow_nil I m.heap.size 61 1);have az:Hid (∀ r∈([]:List X3),ZT I (Xs I VT) Zh (r.1.map Vl.da) r.2.1):=hid (fun r D=>by cases D);have aJ:Hid (∀ r∈([]:List X3),XK t.Z3 r.1=true):=hid (fun r D=>by cases D);clear hf B4;dsimp only [Option.map];have aU:Hid (TV I wo.heap.size ⟨m.heap.size,t,T,U,Y2,y2,[],none,0⟩):=hid ⟨Bx.o,ah.o.size,ZI (ts:= []) aL.o (ZS.ZA F.o lr) (by simp),ZI (ts:= []) bn.o (ZS.ZA F.o lr) (by simp),aw.o.Yp ah.o.size,az.o⟩;have Z:=bt ah F.o;have aR:=hid (ap.o.later Z.o);have aE:d.length<=64:=by omega
    have G:Hid (Below I.heap.size I (I.alloc (.cells #[pT m.heap.size] 110))):=hid (br.alloc lr _);have aa:=hid (aR.o.own.ZC G.o);have au:Hid (ZP (I.alloc (.cells #[pT m.heap.size] 110)) I.heap.size 110 [pT m.heap.size]):=hid (ZP.new I _ _);have ag:W.heap.size<=(I.alloc (.cells #[pT m.heap.size] 110)).heap.size:=Nat.le_trans ac.o.size (Nat.le_trans Z.o.size G.o.size);go_wp2_with (first | (at_builtin;refine WC rfl _ _ _ rfl W.heap.size 110 j0 _ 1 8 underlying107 bA bC bD bE rfl (by decide) (.slice Lp d.length lc) d.length _ rfl aa.o (aD I.heap.size 0) 1 1 [pT m.heap.size] rfl rfl (ZP.news au.o) (by simp [Value.oneCell']) (by unfold maxLen;omega) (by omega) ag ?_;intro A7 c7 w7 av ab aB) | fail);have an:Hid (ZS [110] I w7):=hid ((ZS.ZA G.o lr).trans (ZS.grown aa.o ab.o (by simp) ab.o.size));have ar:Hid (Bw W w7):=hid ((bt ac (Z.o.trans (G.o.mono Z.out.size))).o.grown ab.o ag (ZD aa.o));have aQ:=hid (ap.o.add (s:=⟨m.heap.size,t,T,U,Y2,y2,[],none,0⟩) Z.o an.o (by omega) aW.o ac.o.size aU.o ⟨by simp,aJ.o⟩ av.o (fun _=>rfl));go_roundw
    case rel=>exact⟨d ++ [⟨m.heap.size,t,T,U,Y2,y2,[],none,0⟩],A7,c7,by simp;omega,by simp,by simp,aQ,ar⟩
    case measure=>simp [intOf];omega
   | some old=>
    have ao:=hid (List.mem_of_find?_eq_some hf);clear hf;dsimp only [Option.map];obtain⟨op,O,oX,ox,oY,oy,J,oR,a8⟩:=old;have ae:=hid ((ax.o.later (aA.o.trans (F.o.mono aA.o.size))).sh _ ao.o);have b3:J.length<=64:=(HG.o.r _ ao.o).1;have bH:Hid (∀ r∈J,XK O.Z3 r.1=true):=hid (HG.o.r _ ao.o).2;have be:Hid (Io (ss.map (·.t)) O):=hid (HG.o.t _ ao.o);have z5:I.cell? (aD op 5)=some (.slice oR J.length a8):=cd ae.o.YK 5;go_wp2_with fail;clear z5 ae;go_loopw [56] (fun bZ wq=> ∃ (C:List X3) (R:oA) (rc:Nat),C.length<=J.length/\bZ=i6 C.length/\Hid (Bw m wq)/\Hid (ZP wq m.heap.size 112 [sT t.Z9,sT t.name,sT t.ZN,.slice T t.Z3.length U,.slice Y2 t.ZW.length y2,.slice R C.length rc])/\Hid (wq.ownsRow m.heap.size 61 1 (.slice R C.length rc) C.length (C.flatMap X3.cs))/\Hid (∀ r∈C,ZT wq (Xs wq VT) Zh (r.1.map Vl.da) r.2.1)/\Hid (∀ r∈C,XK t.Z3 r.1=true)) (fun i _=>J.length - (intOf i).toNat)
    case atStart=>exact⟨[],none,0,Nat.zero_le _,rfl,F,B4,hid (World.ownsRow_nil I m.heap.size 61 1),hid (fun r D=>by cases D),hid (fun r D=>by cases D)⟩
    case round=>
     clear F B4;obtain⟨C,R,rc,hk,rfl,F,Bx,aw,az,aJ⟩:=hrel;by_cases hlk:C.length<J.length
     ·have b1:(C.length:Int)< (J.length:Int):=by omega
      have bp:=bt aA F.o;have ae:=hid ((ax.o.later bp.o).sh _ ao.o);have bk:Hid (wr.ownsRow base 61 1 (.slice oR J.length a8) J.length (J.flatMap X3.cs)):=hid ae.o.own;obtain⟨bM,rfl,_,af⟩:=(YS bk.o rfl) (by omega);have hc:=af (C.length*1+0) _ (by rw [Zl X3.k J C.length 0 hlk (by decide)];rfl)
      rw [Nat.mul_one,Nat.add_zero] at hc;have a7:=List.getElem_mem hlk;have bm:=hid ((ae.o.Rz _ a7).XJ);have aT:=hid (bH.o _ a7);clear af a7;generalize J[C.length]=row at*;have bs:Hid (ZT wr (· < wr.heap.size) Zz (O.Z3.map Cl.da) oX):=hid ae.o.I6;have ba:Hid (ZP wr op 112 [sT O.Z9,sT O.name,sT O.ZN,.slice oX O.Z3.length ox,.slice oY O.ZW.length oy,.slice (some bM) J.length a8]):=hid ae.o.YK;have bu:=bl O3 F.o;have bq:=hid ((ZI (ts:= []) aL.o (ZS.ZA F.o lr) (by simp)).XJ);have aj:Hid (∀ V,Bw wr V->(fun V=>Bw wr V/\V.cell? (aD op 3)=some (.slice oX O.Z3.length ox)/\V.cell? (aD V2.heap.size 3)=some (.slice T t.Z3.length U)) V):=hid fun V h=>⟨h,cb ba h 3,cb bu h 3⟩
      have bO:t.Z3.length<=1099511627776:=(aX.o.2.2 t aP.o).1;go_upto_region 17 with fail
      refine wp_region_held_drew (S:=fun V=>Bw wr V/\V.cell? (aD op 3)=some (.slice oX O.Z3.length ox)/\V.cell? (aD V2.heap.size 3)=some (.slice T t.Z3.length U)) (by kernel_rfl) (aj.o _ br.drew) (fun E=> ?_)
      (try simp only [pp]);refine tk 0 61 E ?_;refine tk 1 62 E ?_;refine tk 2 63 E ?_;refine tk 3 64 E ?_;refine tk 4 65 E ?_;refine tk 5 66 E ?_;refine tk 6 67 E ?_;refine tk 7 68 E ?_;refine on 8 69 fun K hK=> ?_
      go_simp;refine(Gp O.Z3 t.Z3 row.1 oX ox T U row.2.1 row.2.2 _ (bs.o.later E.1) (bq.o.later E.1) (bm.o.later E.1) be.o.tm.1 bO be.o.co (PS aI.o aP.o) aT.o).mono ?_
      rintro e M ⟨Bn,bc,rfl,ho,hb⟩;have aq:=E.1.trans (hb.mono E.1.size);refine hK.out _ _ (aj.o _ aq) (fun E=> ?_);clear hK K hb;(try simp only [pp])
      refine tk 9 60 E ?_;refine tk 10 70 E ?_;refine tk 11 71 E ?_;refine tk 12 15 E ?_;refine tk 13 16 E ?_;refine wpAnyH_done (by kernel_rfl) ?_ _
      have bL:Hid (ZT M (Xs M VT) Zh ((Vz O.Z3 t.Z3 row.1).map Vl.da) Bn):=hid (RJ (c:=bc) (by rw [Lh];exact ho) (by decide));have bK:=hid (QJ aT.o t.Z3);have ai:=bt F aq;have bb:=bl Bx aq;have aS:=hid (aw.o.ZC aq);have aZ:Hid (∀ r∈C,ZT M (Xs M VT) Zh (r.1.map Vl.da) r.2.1):=hid fun r D=>ZI (ts:= []) (az.o r D) (ZS.ZA aq lr) (by simp)
      clear E aj ho aq hc bp ae bk bm bs ba bu bq F Bx aw az aT;have x5:=ce bb 5;have G:Hid (Below M.heap.size M (M.alloc (.cells #[.slice Bn t.Z3.length bc] 61))):=hid (br.alloc lr _);have aa:=hid (aS.o.ZC G.o);have bF:=bl bb G.o;have au:Hid (ZP (M.alloc (.cells #[.slice Bn t.Z3.length bc] 61)) M.heap.size 61 [.slice Bn t.Z3.length bc]):=hid (ZP.new M _ _);have ag:m.heap.size<=(M.alloc (.cells #[.slice Bn t.Z3.length bc] 61)).heap.size:=Nat.le_trans ai.o.size G.o.size;go_wp2_with (first | (at_builtin;refine WC rfl _ _ _ rfl m.heap.size 61 i0 _ 1 24 underlying67 bT bV bW bX rfl (by decide) (.slice R C.length rc) C.length _ rfl aa.o (aD M.heap.size 0) 1 1 [.slice Bn t.Z3.length bc] rfl rfl (ZP.news au.o) (by simp [Value.oneCell']) (by unfold maxLen;omega) (by omega) ag ?_;intro A7 c7 w7 av ab aB;have an:=hid (ZS.grown (ts:= [61]) aa.o ab.o (by simp) ab.o.size);have aF:=hid (bF.o.keeps an.o (by decide));have x7:=ce aF 5;have f7:w7.frozen? (aD m.heap.size 5)=false:=aF.o.frozen 5) | fail);have ar:Hid (Bw m w7):=hid ((ai.o.trans (G.o.mono ai.o.size)).grown ab.o ag (ZD aa.o));have bj:Hid (ZS [112] w7 (w7.setCell (aD m.heap.size 5) (.slice A7 (C.length+1) c7))):=hid (ZS.Zx aF.o.Xr (by simp) _);have bi:Hid (ZS [112,61] M (w7.setCell (aD m.heap.size 5) (.slice A7 (C.length+1) c7))):=hid (((ZS.ZA G.o lr).trans (an.o.X6 (by simp))).trans (bj.o.X6 (by simp)));go_roundw
      case rel=>exact⟨C ++ [((Vz O.Z3 t.Z3 row.1,Bn,bc):X3)],A7,c7,by simp;omega,by simp,hid (ar.o.setCell (p:=(aD m.heap.size 5)) lr _),hid (by have h:=aF.o.Zx 5 (.slice A7 (C.length+1) c7);simpa using h),hid (by have h:=av.o.keeps bj.o (by decide);simpa [X3.cs,Lh] using h),hid (fun r D=>by
       rcases List.mem_append.1 D with D | D
       ·exact ZI (aZ.o r D) bi.o (by decide)
       ·rw [List.mem_singleton.1 D];exact ZI bL.o bi.o (by decide)),hid (fun r D=>by
       rcases List.mem_append.1 D with D | D
       ·exact aJ.o r D
       ·rw [List.mem_singleton.1 D];exact bK.o)⟩
      case measure=>simp [intOf];omega
     ·have b2:C.length=J.length:=by omega
      have aU:Hid (TV wr wo.heap.size ⟨m.heap.size,t,T,U,Y2,y2,C,R,rc⟩):=hid ⟨Bx.o,ah.o.size,ZI (ts:= []) aL.o (ZS.ZA F.o lr) (by simp),ZI (ts:= []) bn.o (ZS.ZA F.o lr) (by simp),aw.o.Yp ah.o.size,az.o⟩;have Z:=bt ah F.o;have aR:=hid (ap.o.later Z.o);have aE:d.length<=64:=by omega
      have G:Hid (Below wr.heap.size wr (wr.alloc (.cells #[pT m.heap.size] 110))):=hid (br.alloc lr _);have aa:=hid (aR.o.own.ZC G.o);have au:Hid (ZP (wr.alloc (.cells #[pT m.heap.size] 110)) wr.heap.size 110 [pT m.heap.size]):=hid (ZP.new wr _ _);have ag:W.heap.size<=(wr.alloc (.cells #[pT m.heap.size] 110)).heap.size:=Nat.le_trans ac.o.size (Nat.le_trans Z.o.size G.o.size);go_wp2_with (first | (at_builtin;refine WC rfl _ _ _ rfl W.heap.size 110 j0 _ 1 8 underlying107 bA bC bD bE rfl (by decide) (.slice Lp d.length lc) d.length _ rfl aa.o (aD wr.heap.size 0) 1 1 [pT m.heap.size] rfl rfl (ZP.news au.o) (by simp [Value.oneCell']) (by unfold maxLen;omega) (by omega) ag ?_;intro A7 c7 w7 av ab aB) | fail);have an:Hid (ZS [110] wr w7):=hid ((ZS.ZA G.o lr).trans (ZS.grown aa.o ab.o (by simp) ab.o.size));have ar:Hid (Bw W w7):=hid ((bt ac (Z.o.trans (G.o.mono Z.out.size))).o.grown ab.o ag (ZD aa.o));have aQ:=hid (ap.o.add (s:=⟨m.heap.size,t,T,U,Y2,y2,C,R,rc⟩) Z.o an.o (by omega) aW.o ac.o.size aU.o ⟨by show C.length<=64;omega,aJ.o⟩ av.o (fun h=>absurd ao.o (by rw [h];simp)))
      go_roundw
      case rel=>exact⟨d ++ [⟨m.heap.size,t,T,U,Y2,y2,C,R,rc⟩],A7,c7,by simp;omega,by simp,by simp,aQ,ar⟩
      case measure=>simp [intOf];omega
  ·have bI:=hid (show d.length=o.Z8.length by omega);have am:=bt HB ac.o;have ay:=hid (ax.o.later am.o);obtain⟨L,c,aK,_⟩:=ay.o.st;have q0:=aK.cell0;have qf:=aK.frozen 0;have aM:=hid (SO.done ay.o ap.o bI.o aI.o bN);have bJ:Hid (ZS [109] w (wo.setCell (aD g 0) (.slice Lp d.length lc))):=hid ((ZS.ZA am.o lr).trans (ZS.Zx aK.Xr (by simp) _));have bG:=hid ((am.o.mono bv).setCell (p:=(aD g 0)) ax.o.gb (.slice Lp d.length lc));clear aK;go_wp2;go_ret;exact⟨rfl,d,aM.o.1,aM.o.2.1,aM.o.2.2,bJ.o,bG.o,ap.o.em⟩
def DP (w:World)(rs:List YH):Prop:= ∀ r∈rs,ZT w (Xs w [9]) [.Z2] (YV r.1.Z3) r.2.1/\Qo r.1
theorem DP.keeps {us:List TypeId}{w w':World}{rs:List YH}(h:DP w rs)(j:ZS us w w')(hd:9∉us):DP w' rs:=fun r d=>⟨ZI (h r d).1 j (by simpa using hd),(h r d).2⟩
theorem Ru.Nl {w:World}{S:Nat->Prop}{r:YH}(h:ZT w S [.Z2] (YV r.1.Z3) r.2.1)(hb:Qo r.1):ZE w S YF r.1.da (YH.cs r):=by
 have j:=Yv.Wn (c:=r.2.2) h;have d:ZE w S YF r.1.da [sT r.1.name,i6 r.1.ZV,.slice r.2.1 (YV r.1.Z3).length r.2.2,i6 r.1.low,i6 r.1.ZB,sT r.1.Z9,sT r.1.ZZ,sT r.1.key]:=
  ZE.mk (Yv.YO _) (ZE.mk (Yv.Xo _) (ZE.mk j (ZE.mk (Yv.U8 hb.1) (ZE.mk (Yv.U8 hb.2) (ZE.mk (Yv.YO _) (ZE.mk (Yv.YO _) (ZE.one (Yv.YO _))))))))
 have e:(YV r.1.Z3).length=r.1.Z3.length:=by simp [YV]
 rw [e] at d;exact d
def DM (w:World)(ts:List YX):Prop:= ∀ t∈ts,ZT w (Xs w Gj) Zz (t.1.Z3.map Cl.da) t.2.1/\ZT w (Xs w Gj) YF (t.1.ZW.map Ru.da) t.2.2.2.1
theorem DM.keeps {us:List TypeId}{w w':World}{ts:List YX}(h:DM w ts)(d:ZS us w w')(hd: ∀ t,t∈Gj->t∉us):DM w' ts:=fun t j=>⟨ZI (h t j).1 d hd,ZI (h t j).2 d hd⟩
section
variable {w : World} {S : Nat -> Prop}
theorem Cm.YG {ds:List Da}{m:List Value}(h:ZE w S WU ds m): ∃ (x:Cm)(X:Option Addr)(k:Nat)(Y:Option Addr)(n:Nat),ds=x.da/\m=x.cs X k Y n/\ZT w S Zz (x.Z3.map Cl.da) X/\ZT w S [.Z2] (YV x.ZX.Z3) Y/\Qo x.ZX:=by
 obtain⟨d0,aC,v0,aU,rfl,rfl,h0,r0⟩:=h.cons;obtain⟨d1,aE,v1,aV,rfl,rfl,h1,r1⟩:=r0.cons;obtain⟨d2,aF,v2,aW,rfl,rfl,h2,r2⟩:=r1.cons;obtain⟨d3,aG,v3,aX,rfl,rfl,h3,r3⟩:=r2.cons;obtain⟨d4,aH,v4,aY,rfl,rfl,h4,r4⟩:=r3.cons;obtain⟨d5,aI,v5,aZ,rfl,rfl,h5,r5⟩:=r4.cons;obtain⟨d6,aJ,v6,a6,rfl,rfl,h6,r6⟩:=r5.cons;obtain⟨d7,aK,v7,a7,rfl,rfl,h7,r7⟩:=r6.cons;obtain⟨d8,aL,v8,a8,rfl,rfl,h8,r8⟩:=r7.cons;obtain⟨d9,aM,v9,ba,rfl,rfl,h9,r9⟩:=r8.cons;obtain⟨av,aa,aO,ah,rfl,rfl,C,K⟩:=r9.cons;obtain⟨aw,ab,aP,ai,rfl,rfl,D,L⟩:=K.cons;obtain⟨ax,ac,v12,aj,rfl,rfl,E,M⟩:=L.cons;obtain⟨ay,ad,aQ,ak,rfl,rfl,F,N⟩:=M.cons;obtain⟨az,ae,aR,am,rfl,rfl,G,O⟩:=N.cons;obtain⟨aA,af,aS,an,rfl,rfl,I,T⟩:=O.cons;obtain⟨aB,ag,aT,ao,rfl,rfl,J,U⟩:=T.cons;obtain⟨rfl,rfl⟩:=U.nil;obtain⟨z0,rfl,rfl⟩:=h0.num;obtain⟨z1,rfl,rfl⟩:=h1.T0;obtain⟨z2,rfl,rfl⟩:=h2.T0;obtain⟨z3,rfl,rfl⟩:=h3.T0;obtain⟨z4,rfl,rfl⟩:=h4.T0;obtain⟨z5,rfl,rfl⟩:=h5.T0;obtain⟨e6,X,k,rfl,rfl,d⟩:=h6.rows;obtain⟨z6,rfl⟩:=Cl.rows d;obtain⟨z7,rfl,rfl⟩:=h7.T0;obtain⟨z8,rfl,rfl⟩:=h8.num;obtain⟨e9,Y,n,rfl,rfl,j⟩:=h9.rows;obtain⟨z9,rfl⟩:=Ji j;obtain⟨V,rfl,rfl,s⟩:=C.Yo;obtain⟨Z,rfl,rfl,u⟩:=D.Yo;obtain⟨z12,rfl,rfl⟩:=E.T0;obtain⟨ap,rfl,rfl⟩:=F.T0;obtain⟨aq,rfl,rfl⟩:=G.T0;obtain⟨ar,rfl,rfl⟩:=I.num;obtain⟨au,rfl,rfl⟩:=J.YD;exact⟨⟨z0,z1,z2,z3,z4,z5,z6,⟨z7,z8,z9,V,Z,z12,ap,aq⟩,ar,au⟩,X,k,Y,n,rfl,by simp [Cm.cs,YV],d,j,s,u⟩
theorem Cm.rows {ds:List (List Da)}{A:Option Addr}(h:ZT w S WU ds A): ∃ l:List Cm,ds=l.map Cm.da:=
 Wm fun j d hd=>by
  obtain⟨u,m⟩:=h.UJ hd;obtain⟨x,X,k,Y,n,s,_⟩:=Cm.YG m;exact⟨x,s⟩
theorem Cm.Wu {a b:Cm}(h:a.da=b.da):a=b:=by
 obtain⟨a1,a2,a3,a4,u,C,D,⟨Z,r2,r3,r4,r5,r6,r7,r8⟩,E,m⟩:=a;obtain⟨F,G,I,J,K,L,M,⟨q1,q2,q3,q4,O,T,U,V⟩,N,s⟩:=b;simp only [Cm.da,List.cons.injEq,Da.Z2.injEq,Da.int.injEq,Da.rows.injEq,Da.YD.injEq,and_true] at h;obtain⟨rfl,rfl,rfl,rfl,rfl,rfl,j,rfl,rfl,d,rfl,rfl,rfl,rfl,rfl,rfl,rfl⟩:=h;rw [(List.map_inj_right fun _ _=>Cl.Wu).1 j,Lf d]
theorem Cm.YY {x:Cm}{d:List Value}(h:ZE w S WU x.da d): ∃ X k Y n,d=x.cs X k Y n/\ZT w S Zz (x.Z3.map Cl.da) X/\ZT w S [.Z2] (YV x.ZX.Z3) Y/\Qo x.ZX:=by
 obtain⟨y,X,k,Y,n,j,m,s⟩:=Cm.YG h;obtain rfl:=Cm.Wu j;exact⟨X,k,Y,n,m,s⟩
end
def EA (e:Ending):Prop:= ∃ b,e= .returned (.bool b)
theorem F7 (x:Cm)(X:Option Addr)(k:Nat)(Y:Option Addr)(n:Nat)(w:World):Calls prog 7 #[.agg (x.cs X k Y n).toArray] w fun e w'=>EA e/\Below w.heap.size w w':=by
 unfold Cm.cs;go_enter func7,ntmps7
 go_upto_region 1 with fail
 generalize e:w.alloc _=W
 have p:=nC e.symm;have q:=bP e.symm;have d:=ce p 6;have j:=ce p 9;by_cases h:(x.Z3.length:Int)>1000
 ·go_wp2;go_ret;exact⟨⟨_,rfl⟩,q.out⟩
 by_cases h2:(x.ZX.Z3.length:Int)>1000 <;> (go_wp2;go_ret;exact⟨⟨_,rfl⟩,q.out⟩)
theorem Ud (w:World):Calls prog 41 #[] w fun e w'=>e= .returned (.agg (Wz.cs none 0 none 0).toArray)/\Below w.heap.size w w':=by
 have d:=iN 43 17;go_enter func41,ntmps41
 go_wp2;refine bodyPost_ret (rS (hid (ZP.new w 43 [.int .i64 1,.string (Z2 Yi),.string (Z2 [115]),.string (Z2 []),.string (Z2 []),.string (Z2 []),.slice none 0 0,.string (Z2 []),.int .i64 0,.slice none 0 0,.int .i64 0,.int .i64 0,.string (Z2 []),.string (Z2 []),.string (Z2 []),.int .i64 0,.bool false])) underlying43 d) rfl ?_
 exact⟨rfl,br.alloc lr _⟩
theorem Uy:Wz.Zo 549755813888:=by
 refine⟨?_,?_,?_,?_,?_,?_,⟨?_,?_,?_,?_⟩,?_⟩ <;> simp [Wz,Yi]
theorem Pj:Ca.new.Zo 1099511627776:=by
 refine⟨⟨?_,?_,?_⟩,⟨?_,?_,?_,?_⟩,?_⟩ <;> simp [Ca.new,Yi]
theorem Tf:UI.Zo 1099511627776:=by
 refine⟨⟨?_,?_,?_⟩,⟨?_,?_,?_,?_⟩,?_⟩ <;> simp [UI,Yi]
theorem It (w:World):cQ 12 #[] w fun e w'=>e= .returned (.bool true)/\Bw w w':=by
 have ae:=iN 33 7;go_enter func12,ntmps12
 go_wp2_with fail;refine(MY w).mono ?_
 rintro e W1 ⟨A,rfl,Z,hb⟩;have ao:=hid Z;have ai:=hid hb;clear Z hb;go_wp2_with fail;refine(Ud W1).mono ?_
 rintro e W2 ⟨rfl,hb⟩;have ap:=hid (ao.o.later hb);have N:=bt ai hb;clear hb ao ai;go_wp2_with fail;refine(WK Ca.new A Wz none 0 none 0 W2 ap.o.VE Pj ZT.nil ZT.nil Uy ⟨⟨by decide,by decide⟩,⟨by decide,by decide⟩⟩).mono ?_
 rintro e W3 ⟨M,c1,d,rfl,T,Z,hb⟩;obtain⟨h0,ar⟩:=Nx T;subst h0;have aq:=hid (Z rfl);have aj:=bt N hb;have aa:=hid ar;clear T Z hb ar ap N;unfold Ca.cs;go_upto_region 2 with fail
 refine Wh _ fun u hW=> ?_
 have ag:=bP hW;have E:=nC hW;clear hW;have af:=hid (aq.o.later ag.o);have ak:=bt aj ag.o;clear aq aj ag;generalize W3.heap.size=g at*;have G:=E.out.lt;refine' Fa (F:=fun p M c2 m V=>Hid (ZP V g 33 (zC c1 d))/\Hid (Bw u V)/\Hid (M=60)) (fun key=>_) _
 rotate_left
 ·have j:Hid (Bw u u.drew):=hid br.drew;refine wp_region_held_drew (S:=fun w'=>w'.rangeAt g 0 (zC c1 d)) (by kernel_rfl) ((E.out.below j.out G).Yz) (fun C=> ?_)
  (try simp only [pp]);refine wpAnyH_take (i:=0) (oi:=⟨some 12,_,_,_,_,_⟩) (v:=_) rfl (by kernel_rfl) (by kernel_rfl) (by kernel_rfl) (fun _ _ _ h=>h) (yieldsIf_load_mid (by rfl) _ _ rfl (g) 0 rfl (zC c1 d) _ (fun _ h=>h) underlying33 rfl ae.o) C ?_
  (try simp only [pp]);refine wpAnyH_ready (rs:= [1,6]) (by kernel_rfl) (by simp) ?_
  refine AllReadyH.cons (o:=⟨some 13,_,_,_,_,_⟩) rfl (fun K s=> ?_) (AllReadyH.cons (o:=⟨some 3,_,_,_,_,_⟩) rfl (fun K s=> ?_) AllReadyH.nil)
  ·go_simp;refine(Ud u.drew).mono ?_
   rintro e D ⟨rfl,hb⟩;have I:=bt j hb;clear hb j;have j:=I;clear I;refine s.out _ _ ((E.out.below (j.out) G).Yz) (fun C=> ?_);clear s K;(try simp only [pp])
   refine wpAnyH_ready (rs:= [2,6]) (by kernel_rfl) (by simp) ?_
   refine AllReadyH.cons (o:=⟨some 14,_,_,_,_,_⟩) rfl (fun K s=> ?_) (AllReadyH.cons (o:=⟨some 3,_,_,_,_,_⟩) rfl (fun K s=> ?_) AllReadyH.nil)
   ·go_simp;refine((by have h:=WK c1 d Wz none 0 none 0 D (af.o.later (show Bw u D from j.out)).VE (by rw [aa.o];exact Tf) ZT.nil ZT.nil Uy ⟨⟨by decide,by decide⟩,⟨by decide,by decide⟩⟩;unfold Ca.cs at h;exact h:cQ 9 #[.agg (zC c1 d).toArray,.agg (Wz.cs none 0 none 0).toArray] D (EI c1 Wz D))).mono ?_
    rintro e L ⟨M,c2,m,rfl,T,Z,hb⟩;have I:=bt j hb;have HE:Hid (M=60):=hid (Q8 (by rw [<-aa.o];exact T));clear T Z;unfold Ca.cs;clear hb j;have j:=I;clear I;refine s.out _ _ ((E.out.below (j.out) G).Yz) (fun C=> ?_);clear s K;(try simp only [pp])
    refine tk 3 11 C ?_;refine tk 4 15 C ?_;refine tk 5 16 C ?_;refine on 6 3 fun K s=> ?_
    go_simp;have N:Hid (Below u.heap.size u (L.alloc (.cells #[.int .i64 0,.int .i64 0,sN,sN,sN,sN,sN] 33))):=hid (j.out.alloc j.out.size _);have J:Hid (ZP (L.alloc (.cells #[.int .i64 0,.int .i64 0,sN,sN,sN,sN,sN] 33)) L.heap.size 33 [.int .i64 0,.int .i64 0,sN,sN,sN,sN,sN]):=hid (ZP.new L _ _);have ac:Hid (u.heap.size<=L.heap.size):=hid j.out.size;have ah:Below L.heap.size L (L.alloc (.cells #[.int .i64 0,.int .i64 0,sN,sN,sN,sN,sN] 33)):=br.alloc lr _;clear ah j;generalize L.alloc (.cells #[.int .i64 0,.int .i64 0,sN,sN,sN,sN,sN] 33)=VA at*;generalize L.heap.size=p at*;have j:=N;clear N;refine s.out _ _ ((E.out.below (j.out) G).Yz) (fun C=> ?_);clear s K;(try simp only [pp])
    refine SR 7 fun K s=> ?_
    refine Zk rfl 33 _ _ rfl p (zC c2 m) rfl rfl J rfl rfl ae (by simp [Value.oneCell']) ?_
    intro w9 U;have O:Hid (Bw u w9):=hid (U.o.below j.out ac.o);refine s.out _ _ ((E.out.below (O.o) G).Yz) (fun C=> ?_);clear s K;(try simp only [pp])
    refine tk 8 4 C ?_;refine wpAnyH_done (by kernel_rfl) ?_ _
    exact key p M c2 m w9 ⟨hid (E.out.below O.o G),O,HE⟩
   ·go_simp;have N:Hid (Below u.heap.size u (D.alloc (.cells #[.int .i64 0,.int .i64 0,sN,sN,sN,sN,sN] 33))):=hid (j.out.alloc j.out.size _);have J:Hid (ZP (D.alloc (.cells #[.int .i64 0,.int .i64 0,sN,sN,sN,sN,sN] 33)) D.heap.size 33 [.int .i64 0,.int .i64 0,sN,sN,sN,sN,sN]):=hid (ZP.new D _ _);have ac:Hid (u.heap.size<=D.heap.size):=hid j.out.size;have ah:Below D.heap.size D (D.alloc (.cells #[.int .i64 0,.int .i64 0,sN,sN,sN,sN,sN] 33)):=br.alloc lr _;clear ah j;generalize D.alloc (.cells #[.int .i64 0,.int .i64 0,sN,sN,sN,sN,sN] 33)=VA at*;generalize D.heap.size=p at*;have j:=N;clear N;refine s.out _ _ ((E.out.below (j.out) G).Yz) (fun C=> ?_);clear s K;(try simp only [pp])
    refine on 2 14 fun K s=> ?_
    go_simp;refine((by have h:=WK c1 d Wz none 0 none 0 VA (af.o.later (show Bw u VA from j.out)).VE (by rw [aa.o];exact Tf) ZT.nil ZT.nil Uy ⟨⟨by decide,by decide⟩,⟨by decide,by decide⟩⟩;unfold Ca.cs at h;exact h:cQ 9 #[.agg (zC c1 d).toArray,.agg (Wz.cs none 0 none 0).toArray] VA (EI c1 Wz VA))).mono ?_
    rintro e L ⟨M,c2,m,rfl,T,Z,hb⟩;have ab:=bl J hb;clear J;have J:=ab;clear ab;have I:=bt j hb;have HE:Hid (M=60):=hid (Q8 (by rw [<-aa.o];exact T));clear T Z;unfold Ca.cs;clear hb j;have j:=I;clear I;refine s.out _ _ ((E.out.below (j.out) G).Yz) (fun C=> ?_);clear s K;(try simp only [pp])
    refine tk 3 11 C ?_;refine tk 4 15 C ?_;refine tk 5 16 C ?_;refine SR 7 fun K s=> ?_
    refine Zk rfl 33 _ _ rfl p (zC c2 m) rfl rfl J rfl rfl ae (by simp [Value.oneCell']) ?_
    intro w9 U;have O:Hid (Bw u w9):=hid (U.o.below j.out ac.o);refine s.out _ _ ((E.out.below (O.o) G).Yz) (fun C=> ?_);clear s K;(try simp only [pp])
    refine tk 8 4 C ?_;refine wpAnyH_done (by kernel_rfl) ?_ _
    exact key p M c2 m w9 ⟨hid (E.out.below O.o G),O,HE⟩
  ·go_simp;have N:Hid (Below u.heap.size u (u.alloc (.cells #[.int .i64 0,.int .i64 0,sN,sN,sN,sN,sN] 33)).drew):=hid (br.alloc lr _).drew;have an:Hid (ZP (u.alloc (.cells #[.int .i64 0,.int .i64 0,sN,sN,sN,sN,sN] 33)).drew u.heap.size 33 [.int .i64 0,.int .i64 0,sN,sN,sN,sN,sN]):=hid (ZP.new u _ _).drew;obtain⟨p,hp⟩: ∃ p,p=u.heap.size:=⟨_,rfl⟩
   have ac:Hid (u.heap.size<=p):=hid (by rw [hp];exact Nat.le_refl _);have J:Hid (ZP (u.alloc (.cells #[.int .i64 0,.int .i64 0,sN,sN,sN,sN,sN] 33)).drew p 33 [.int .i64 0,.int .i64 0,sN,sN,sN,sN,sN]):=hid (by rw [hp];exact an.out);generalize hVA:(u.alloc (.cells #[.int .i64 0,.int .i64 0,sN,sN,sN,sN,sN] 33)).drew=VA at*;rw [<-hp];clear an hp hVA j;have j:=N;clear N;refine s.out _ _ ((E.out.below (j.out) G).Yz) (fun C=> ?_);clear s K;(try simp only [pp])
   refine on 1 13 fun K s=> ?_
   go_simp;refine(Ud VA).mono ?_
   rintro e D ⟨rfl,hb⟩;have ab:=bl J hb;clear J;have J:=ab;clear ab;have I:=bt j hb;clear hb j;have j:=I;clear I;refine s.out _ _ ((E.out.below (j.out) G).Yz) (fun C=> ?_);clear s K;(try simp only [pp])
   refine on 2 14 fun K s=> ?_
   go_simp;refine((by have h:=WK c1 d Wz none 0 none 0 D (af.o.later (show Bw u D from j.out)).VE (by rw [aa.o];exact Tf) ZT.nil ZT.nil Uy ⟨⟨by decide,by decide⟩,⟨by decide,by decide⟩⟩;unfold Ca.cs at h;exact h:cQ 9 #[.agg (zC c1 d).toArray,.agg (Wz.cs none 0 none 0).toArray] D (EI c1 Wz D))).mono ?_
   rintro e L ⟨M,c2,m,rfl,T,Z,hb⟩;have ab:=bl J hb;clear J;have J:=ab;clear ab;have I:=bt j hb;have HE:Hid (M=60):=hid (Q8 (by rw [<-aa.o];exact T));clear T Z;unfold Ca.cs;clear hb j;have j:=I;clear I;refine s.out _ _ ((E.out.below (j.out) G).Yz) (fun C=> ?_);clear s K;(try simp only [pp])
   refine tk 3 11 C ?_;refine tk 4 15 C ?_;refine tk 5 16 C ?_;refine SR 7 fun K s=> ?_
   refine Zk rfl 33 _ _ rfl p (zC c2 m) rfl rfl J rfl rfl ae (by simp [Value.oneCell']) ?_
   intro w9 U;have O:Hid (Bw u w9):=hid (U.o.below j.out ac.o);refine s.out _ _ ((E.out.below (O.o) G).Yz) (fun C=> ?_);clear s K;(try simp only [pp])
   refine tk 8 4 C ?_;refine wpAnyH_done (by kernel_rfl) ?_ _
   exact key p M c2 m w9 ⟨hid (E.out.below O.o G),O,HE⟩
 ·rintro p M c2 m V ⟨GV,am,HE⟩;have he:=HE.o;subst he;have v1:=ce GV 1;have ad:c1.ZR=1:=by rw [aa.o];rfl
  rw [ad] at v1;have au:=bt ak am.o;clear ad aa af E ak GV am HE;go_wp2;go_ret;exact⟨rfl,au.o⟩
theorem Cm.Zo.up {x:Cm}{M N:Nat}(h:x.Zo M)(d:M<=N):x.Zo N:=⟨Nat.le_trans h.1 d,Nat.le_trans h.2.1 d,Nat.le_trans h.2.2.1 d,Nat.le_trans h.2.2.2.1 d,Nat.le_trans h.2.2.2.2.1 d,Nat.le_trans h.2.2.2.2.2.1 d,Ru.Zo.up h.2.2.2.2.2.2.1 d,Nat.le_trans h.2.2.2.2.2.2.2 d⟩
def Ge (er:Int)(w:World)(c:Ca)(A:Wd):Prop:=er=0->Ta w c A
theorem Ge.later {d:Int}{w w':World}{c:Ca}{A:Wd}(h:Ge d w c A)(hb:Bw w w'):Ge d w' c A:=fun e=>(h e).later hb
theorem Ge.keeps {us:List TypeId}{d:Int}{w w':World}{c:Ca}{A:Wd}(h:Ge d w c A)(j:ZS us w w')(hd: ∀ t,t∈CT->t∉us):Ge d w' c A:=fun e=>(h e).keeps j hd
section
variable {w : World} {S : Nat -> Prop}
theorem Wo.YG {ds:List Da}{j:List Value}(h:ZE w S Vq ds j): ∃ (q:Wo)(A:Option Addr)(n:Nat),ds=q.da/\j=q.cs A n/\ZT w S Zh (q.row.map Vl.da) A:=by
 obtain⟨d0,aa,v0,aj,rfl,rfl,m,J⟩:=h.cons;obtain⟨d1,ab,v1,ak,rfl,rfl,s,K⟩:=J.cons;obtain⟨d2,ac,v2,am,rfl,rfl,u,L⟩:=K.cons;obtain⟨d3,ad,v3,an,rfl,rfl,C,M⟩:=L.cons;obtain⟨d4,ae,v4,ao,rfl,rfl,D,N⟩:=M.cons;obtain⟨d5,af,v5,ap,rfl,rfl,E,O⟩:=N.cons;obtain⟨d6,ag,v6,aq,rfl,rfl,F,T⟩:=O.cons;obtain⟨d7,ah,v7,ar,rfl,rfl,G,U⟩:=T.cons;obtain⟨d8,ai,v8,au,rfl,rfl,I,V⟩:=U.cons;obtain⟨rfl,rfl⟩:=V.nil;obtain⟨Z,rfl,rfl⟩:=m.num;obtain⟨z1,rfl,rfl⟩:=s.T0;obtain⟨z2,rfl,rfl⟩:=u.T0;obtain⟨z3,rfl,rfl⟩:=C.T0;obtain⟨e4,X,k,rfl,rfl,d⟩:=D.rows;obtain⟨z4,rfl⟩:=Vl.rows d;obtain⟨z5,rfl,rfl⟩:=E.T0;obtain⟨z6,rfl,rfl⟩:=F.num;obtain⟨z7,rfl,rfl⟩:=G.num;obtain⟨z8,rfl,rfl⟩:=I.T0;exact⟨⟨Z,z1,z2,z3,z4,z5,⟨z6,z7,z8⟩⟩,X,k,rfl,by simp [Wo.cs],d⟩
theorem Wo.rows {ds:List (List Da)}{A:Option Addr}(h:ZT w S Vq ds A): ∃ l:List Wo,ds=l.map Wo.da:=
 Wm fun j d hd=>by
  obtain⟨u,m⟩:=h.UJ hd;obtain⟨x,X,k,s,_⟩:=Wo.YG m;exact⟨x,s⟩
theorem Wo.Wu {a b:Wo}(h:a.da=b.da):a=b:=by
 obtain⟨a1,a2,a3,a4,j,m,⟨s,u,C⟩⟩:=a;obtain⟨D,E,F,G,I,J,⟨K,L,M⟩⟩:=b;simp only [Wo.da,List.cons.injEq,Da.Z2.injEq,Da.int.injEq,Da.rows.injEq,and_true] at h;obtain⟨rfl,rfl,rfl,rfl,d,rfl,rfl,rfl,rfl⟩:=h;rw [(List.map_inj_right fun _ _=>Vl.Wu).1 d]
theorem Wo.YY {x:Wo}{d:List Value}(h:ZE w S Vq x.da d): ∃ X k,d=x.cs X k/\ZT w S Zh (x.row.map Vl.da) X:=by
 obtain⟨y,X,k,j,m,s⟩:=Wo.YG h;obtain rfl:=Wo.Wu j;exact⟨X,k,m,s⟩
theorem EQ {ds:List Da}{A:Option Addr}{n c:Nat}(h:ZE w S [.rows Vq] ds [.slice A n c]): ∃ l:List Wo,n=l.length/\ZT w S Vq (l.map Wo.da) A:=by
 obtain⟨I,C,v0,E,rfl,s,j,u⟩:=h.cons;obtain⟨rfl,D⟩:=u.nil;obtain⟨es,F,G,rfl,m,d⟩:=j.rows;injection s with hv1 hv2
 rw [m] at hv1;injection hv1 with hA hn hc
 subst hA;obtain⟨l,rfl⟩:=Wo.rows d;exact⟨l,by simpa using hn,d⟩
theorem Lr {sh:List Sh}{d:List Da}{h:List Value}{k:Nat}{t:TypeId}(C:ZP w k t h)(D:S k)(F:ZE w S sh d h):ZT w S sh [d] (some ⟨k,0,none⟩):=fun _=>⟨_,rfl,D,fun j s hd=>by
 obtain⟨m,hd⟩:=List.getElem?_eq_some_iff.1 hd
 obtain rfl:j=0:=by simp at m;exact m
 obtain rfl:d=s:=hd;refine⟨h,F,fun i u E=> ?_⟩
 rw [Nat.zero_mul,Nat.zero_add];exact ZP.news C i u E⟩
end
theorem WO.mono {w:World}{base base' g:Nat}{d:List Sf}(h:WO w base g d)(hb:base'<=base):WO w base' g d:=⟨h.st,Nat.le_trans hb h.gb,fun s j=>(h.sh s j).mono hb,h.nd⟩
theorem LS:WQ []:=⟨by simp,fun s d=>(by cases d),fun s d=>(by cases d)⟩
theorem Ln (w:World):Calls prog 15 #[] w fun e w'=> ∃ g,e= .returned (.pointer (some ⟨g,0,none⟩))/\WO w' w.heap.size g []/\Below w.heap.size w w':=by
 go_enter func15,ntmps15
 go_wp2;go_ret;exact⟨w.heap.size,rfl,⟨⟨none,0,ZP.new w 109 [.slice none 0 0],fun h=>absurd h (by simp)⟩,Nat.le_refl _,fun s d=>(by cases d),List.Pairwise.nil⟩,(Below.refl _ _).alloc (Nat.le_refl _) _⟩
def D4 (base g:Nat)(ss:List Sf)(q:Wo)(w:World)(e:Ending)(w':World):Prop:= ∃ (B:Option Addr) (k c:Nat),e= .returned (.slice B k c)/\Wv base g ss w ss w'/\(ss.find? (Ur q.Z9 q.ZZ)=none->k=0)/\
 ∀ s,ss.find? (Ur q.Z9 q.ZZ)=some s-> ∃ rs':List X3,k=rs'.length/\rs'.map (·.1)=s.rs.map (·.1)/\Zj w' w'.heap.size B X3.cs rs'/\ ∀ r∈rs',ZT w' (· < w'.heap.size) Zh (r.1.map Vl.da) r.2.1
theorem MA (base g:Nat)(d:List Sf)(q:Wo)(A:Option Addr)(n:Nat)(w:World)(h:WO w base g d)(E:WQ d):
  Calls prog 17 #[.pointer (some ⟨g,0,none⟩),.agg #[.int .i64 q.ZV,.string (Z2 q.ZQ),.string (Z2 q.Z9),.string (Z2 q.ZZ),.slice A q.row.length n,.string (Z2 q.WB),.int .i64 q.val.ZV,.int .i64 q.val.num,.string (Z2 q.val.word)]] w (D4 base g d q w):=by
 have G:base<=w.heap.size:=by
  obtain⟨L,c,N,_⟩:=h.st;exact Nat.le_trans h.gb (Nat.le_of_lt N.lt)
 have F:=hid h;have K:=hid E;clear h E;go_enter func17,ntmps17
 go_upto_region 1 with fail
 refine Wh _ fun W m=> ?_
 have j:=bP m;have B0:Hid (ZP W w.heap.size 66 [.int .i64 q.ZV,.string (Z2 q.ZQ),.string (Z2 q.Z9),.string (Z2 q.ZZ),.slice A q.row.length n,.string (Z2 q.WB),.int .i64 q.val.ZV,.int .i64 q.val.num,.string (Z2 q.val.word)]):=nC m;clear m;have c2:=ce B0 2;have c3:=ce B0 3;go_wp2_with fail;refine(MO base g d ⟨3,[],q.Z9,q.ZZ,[],[],⟨0,0,[]⟩⟩ none 0 W (F.out.later j.out) K.out ZT.nil).mono ?_
 rintro e T ⟨U,B,k,c,O,rfl,D,-,-,s⟩;obtain⟨rfl,u,C⟩:=s rfl rfl rfl;have M:=hid (Wv.ahead j.out G D);have I:=hid u;have J:=hid C;clear D s u C c2 c3 j B0;go_wp2;go_ret;exact⟨B,k,c,rfl,M.out,I.out,J.out⟩
theorem Hc (w:World):Calls prog 22 #[] w fun e w'=>e= .returned (.bool true)/\Below w.heap.size w w':=by
 have aj:=iN 33 7;go_enter func22,ntmps22
 go_wp2_with fail;refine(MY w).mono ?_
 rintro e W1 ⟨A,rfl,C,hb⟩;have an:=hid C;have aa:=hid hb;clear C hb;go_wp2_with fail;refine(Ud W1).mono ?_
 rintro e W2 ⟨rfl,hb⟩;have ao:=hid (an.out.later hb);have ab:=bt aa hb;clear hb an aa;go_wp2_with fail;refine(WK Ca.new A Wz none 0 none 0 W2 ao.out.VE Pj ZT.nil ZT.nil Uy ⟨⟨by decide,by decide⟩,⟨by decide,by decide⟩⟩).mono ?_
 rintro e W3 ⟨er,c1,h,rfl,D,C,hb⟩;obtain⟨E,ay⟩:=Nx D;subst E;have ap:=hid (C rfl);have O:=bt ab hb;have ah:=hid ay;clear D C hb ay ao ab;unfold Ca.cs;go_upto_region 2 with fail
 refine Wh _ fun I d=> ?_
 have G4:Hid (ZP I W3.heap.size 33 (zC c1 h)):=nC d;have ac:=bt O (bP d).out;have aq:=hid (ap.out.later (bP d).out);have aH:=O.out.size;clear d ap O;generalize W3.heap.size=g at*;go_wp2_with (first | (refine lO G4 aj underlying33 ?_) | fail);refine Zi _ fun J d=> ?_
 have Z:Hid (ZP J I.heap.size 119 [.string (Z2 [120]),.int .i64 2,.bool false]):=nC d;have j:=bP d;have ad:=bt ac j.out;have G5:=bl G4 j.out;have ar:=hid (aq.out.later j.out);have ax:Hid (ZT J (· < J.heap.size) Zz (WL.Z3.map Cl.da) (some ⟨I.heap.size,0,none⟩)):=hid (Lr Z.out Z.out.lt (Cl.VW ⟨[120],2,false⟩));clear d Z j aq G4 ac;have hA:=WK c1 h WL (some ⟨I.heap.size,0,none⟩) 1 none 0 J ar.out.VE (by rw [ah.out];exact Tf) ax.out ZT.nil Iw ⟨⟨by decide,by decide⟩,⟨by decide,by decide⟩⟩;refine hA.mono ?_
 rintro e W6 ⟨er,c2,G,rfl,D,C,hb⟩;rw [ah.out] at D;obtain⟨E,az⟩:=Hb D;subst E;have au:=hid (C rfl);have ae:=bt ad hb;have G6:=bl G5 hb;have ai:=hid az;clear hA D C hb az ar ad G5 ax;unfold Ca.cs;go_upto_region 3 with (first | (refine sO G6 aj ?_;intro W7 U) | fail)
 have G7:=hid U.out.YK;have T:=hid (U.out.below ae.out aH);have av:=hid (au.out.keeps U.out.keeps (by decide));clear U G6 ae au;go_wp2_with fail;refine(Ln W7).mono ?_
 rintro e W8 ⟨gs,rfl,u,hb⟩;have ak:=hid (u.mono (base':=w.heap.size) T.out.size);have af:=bt T hb;have G8:=bl G7 hb;have V:=hid (av.out.later hb);clear u hb G7 T av;have e2:=ce G8 2;have e3:=ce G8 3;go_wp2_with fail;refine(RQ w.heap.size gs [] c2.ob G.a0 G.k0 G.a1 G.k1 W8 ak.out LS (by rw [ai.out];exact Iv) V.out.VE.sc V.out.VE.tb).mono ?_
 rintro e K ⟨rfl,N,u,hg,ht,hk,hb,he⟩;have am:=hid u;have aE:=hid hg;have ag:Hid (Below w.heap.size w K):=hid (af.out.trans hb);have aw:Hid (N.map (·.t)= [Gu]):=hid (by rw [ht,ai.out];rfl)
 have aC:=hid (he rfl);clear u hg ht hk hb he e2 e3 ak G8 af V;go_wp2_with fail;refine Zi _ fun L d=> ?_
 have HV:Hid (ZP L K.heap.size 64 [.int .i64 2,.int .i64 7,.string (Z2 [])]):=nC d;have j:=bP d;have aG:=hid (am.out.later j.out);have aA:=bt ag j.out;have aF:Hid (ZT L (Sx L w.heap.size) Zh ([(⟨2,7,[]⟩:Vl)].map Vl.da) (some ⟨K.heap.size,0,none⟩)):=hid (Lr HV.out (.inr ⟨64,by decide,HV.out.Xr⟩) (Vl.VW ⟨2,7,[]⟩));clear d HV j am ag;refine(MO w.heap.size gs N ⟨1,[],[115],[116],[⟨2,7,[]⟩],[],⟨0,0,[]⟩⟩ (some ⟨K.heap.size,0,none⟩) 1 L aG.out aE.out aF.out).mono ?_
 rintro e Wb ⟨er,B,k,c,aI,rfl,u,h1,h2,-⟩;obtain⟨s,M⟩: ∃ s,N= [s]:=by
  have:=congrArg List.length aw.out;simp only [List.length_map,List.length_singleton] at this;exact List.length_eq_one_iff.1 this
 have F:s.t=Gu:=by
  have:=aw.out;rw [M] at this;simpa using this
 have hf:N.find? (Ur [115] [116])=some s:=by
  rw [M];have:Ur [115] [116] s=true:=by unfold Ur;rw [F];rfl
  rw [List.find?_cons,this]
 have E:er=0:=h2 s rfl rfl hf (by rw [F];exact FB) (by rw [aC.out s (by rw [M];simp)];simp) (by rw [F];rfl);subst E;obtain⟨s1,s2,_,_,_,m⟩:=h1 rfl;have hk:k=1:=by
  rcases m with ⟨_,m,_⟩ | ⟨m,_⟩ | ⟨m,_⟩
  ·exact m
  ·cases m
  ·exact absurd rfl m
 subst hk;have aB:Hid (Below w.heap.size w Wb):=hid (aA.out.trans u.bw);clear u h1 h2 m hf F M;go_wp2;go_ret;exact⟨rfl,aB.out⟩
theorem OJ {α:Type}(f:α->List Da)(d: ∀ x,1<=Sy (f x)): ∀ (l:List α),l.length<=SA (l.map f)
 | []=>by simp [SA]
 | a ::l=>by
  have h:=d a
  have j:=OJ f d l
  simp only [List.length_cons,List.map_cons,SA]
  omega
theorem K9 {α:Type}(f:α->List Da): ∀ {l:List α}{x:α},x∈l->Sy (f x)<=SA (l.map f)
 | [],_,h=>by cases h
 | a ::l,x,h=>by
  simp only [List.map_cons,SA]
  rcases List.mem_cons.1 h with rfl | h
  ·omega
  ·have:=K9 f h
   omega
theorem Gm (l:List (List UInt8)):l.length<=SA (YV l):=OJ (fun b=> [Da.Z2 b]) (fun b=>by simp only [Sy,wt];omega) l
theorem Eh {a b c d e f g h i j k l:Nat}{p q M m s:Nat}(u:m<=p)(C:s<=q)(H:1+ (a+1+ (b+1+ (c+1+ (d+1+ (e+1+ (p+1+ (f+1+ (1+ (q+1+ (1+ (1+ (g+1+ (h+1+ (i+1+ (1+ (1+0))))))))))))))))<=M):a<=M/\b<=M/\c<=M/\d<=M/\e<=M/\m<=M/\s<=M/\f<=M/\g<=M/\h<=M/\i<=M:=by omega
theorem Cm.Gs {x:Cm}{M:Nat}(h:Sy x.da<=M):x.Zo M:=by
 have s:=OJ Cl.da (fun c=>by simp only [Cl.da,Sy,wt];omega) x.Z3;have u:=Gm x.ZX.Z3;simp only [Cm.da,Sy,wt] at h;obtain⟨a,b,c,d,e,g,i,j,k,l,m⟩:=Eh (k:=0) (l:=0) (j:=0) s u h;exact⟨a,b,c,d,e,g,⟨i,k,l,m⟩,j⟩
theorem F5 {w:World}{S:Nat->Prop}{ds:List Da}{A:Option Addr}{n c M:Nat}(h:ZE w S [.rows WU] ds [.slice A n c])(u:Sy ds<=M): ∃ l:List Cm,n=l.length/\ZT w S WU (l.map Cm.da) A/\ ∀ x∈l,x.Zo M:=by
 obtain⟨K,E,v0,G,rfl,s,j,D⟩:=h.cons;obtain⟨rfl,F⟩:=D.nil;obtain⟨es,I,J,rfl,m,d⟩:=j.rows;injection s with hv1 hv2
 rw [m] at hv1;injection hv1 with hA hn hc
 subst hA;obtain⟨l,rfl⟩:=Cm.rows d;refine⟨l,by simpa using hn,d,fun x C=>Cm.Gs (Nat.le_trans (K9 Cm.da C) ?_)⟩
 simp only [Sy,wt] at u;omega
structure Nt (w:World) (t:Tb) (X Y:oA):Prop where
 cl:ZT w (Xs w VT) Zz (t.Z3.map Cl.da) X
 ru:ZT w (Xs w VT) YF (t.ZW.map Ru.da) Y
theorem Nt.keeps {us:List TypeId}{w w':World}{t:Tb}{X Y:oA}(h:Nt w t X Y)(d:ZS us w w')(hd: ∀ t,t∈VT->t∉us):Nt w' t X Y:=⟨ZI h.cl d hd,ZI h.ru d hd⟩
theorem Nt.later {w w':World}{t:Tb}{X Y:oA}(h:Nt w t X Y)(hb:Bw w w'):Nt w' t X Y:=h.keeps (us:= []) (ZS.ZA hb lr) (by simp)
theorem DH {F T:Nat->oA->Nat->oA->Nat->World->Prop}{G:Prop}(h:(∀ p X x Y y w,F p X x Y y w->T p X x Y y w)->G)(k: ∀ p X x Y y w,F p X x Y y w->T p X x Y y w):G:=h k
abbrev zQ (q:Wo)(QA:oA)(qn:Nat):lV:=[i6 q.ZV,sT q.ZQ,sT q.Z9,sT q.ZZ,sl QA q.row qn,sT q.WB,i6 q.val.ZV,i6 q.val.num,sT q.val.word]
theorem Li (l:List Cm)(L:oA)(k:Nat)(qs:List Wo)(Q:oA)(m:Nat)(w:World)(hL:rA w WU (l.map Cm.da) L)(hQ:rA w Vq (qs.map Wo.da) Q)(cY: ∀ x∈l,x.Zo 549755813888):
  cQ 5 #[.slice L l.length k,.slice Q qs.length m] w fun e w'=>e= .returned (.bool true)/\Bw w w':=by
 have HL:=hid hL;have HQ:=hid hQ;have c9:=hid cY;have aZ:=iN 33 7;have bM:=iN 43 17;have bN:=iN 73 5;have c5:=iN 26 2;have a6:=iN 66 9;clear hL hQ cY;by_cases h60:(l.length:Int) > 60
 ·go_enter func5,ntmps5
  go_wp2;go_ret;exact⟨rfl,Below.refl _ _⟩
 by_cases q60:(qs.length:Int) > 60
 ·go_enter func5,ntmps5
  go_wp2;go_ret;exact⟨rfl,Below.refl _ _⟩
 have dk:l.length<=60:=by omega
 have dm:qs.length<=60:=by omega
 go_enter func5,ntmps5
 go_wp2_with fail;refine(MY w).mono ?_
 rintro e W1 ⟨A0,rfl,hT,hb⟩;have cF:=hid hT;have bD:Hid (Bw w W1):=hid hb;clear hT hb;unfold Ca.cs;go_upto_region 4 with fail
 refine Wh _ fun W2 hW=> ?_
 have G2:Hid (ZP W2 W1.heap.size 33 (zC Ca.new A0)):=nC hW;have be:=hid (cF.o.later (bP hW).o);have ac:=bt bD (bP hW).o;have dg:=bD.o.size;clear hW cF bD;generalize W1.heap.size=g at*;go_wp2_with fail;refine(Ln W2).mono ?_
 rintro e G ⟨gs,rfl,hS,hb⟩;have cD:=hid (hS.mono (base':=w.heap.size) ac.o.size);have ay:=bt ac hb;have G3:=bl G2 hb;have bv:=hid (be.o.later hb);clear hS hb G2 ac be;have e2:=ce G3 2;have e3:=ce G3 3;go_wp2_with fail;refine(RQ w.heap.size gs [] Ca.new.ob A0.a0 A0.k0 A0.a1 A0.k1 G cD.o LS Rg bv.o.VE.sc bv.o.VE.tb).mono ?_
 rintro e W4 ⟨rfl,Z,hS,hg,ht,hk,hb,-⟩;have cE:=hid hS;have cq:=hid hg;have bf:=hid ht;have cG:=hid (bv.o.keeps hk (by decide));have G4:=hid (G3.o.keeps hk (by decide));have ck:Hid (Bw w W4):=hid (ay.o.trans hb);clear hS hg ht hk hb e2 e3 cD ay G3 bv;go_wp2_with fail;go_loopw [7] (fun v7 wr=> ∃ (j:Nat) (c:Ca) (A:Wd) (Z:List Sf),j<=60/\v7=i6 j/\Hid (Ta wr c A)/\Hid (c.Zo 1099511627776)/\Hid (Zc c.ob=true)/\Hid (ZP wr g 33 (zC c A))/\Hid (WO wr w.heap.size gs Z)/\Hid (WQ Z)/\Hid (Z.map (·.t)=c.ob.Z8)/\Hid (Bw w wr)) (fun i _=>60 - (intOf i).toNat)
 case atStart=>exact⟨0,Ca.new,A0,Z,by omega,rfl,cG,hid Pj,hid Rg,G4,cE,cq,bf,ck⟩
 case round=>
  clear cG G4 cE cq bf ck;obtain⟨j,c,A,Z,hj,rfl,ag,ah,ai,J,aB,M,aO,af⟩:=hrel;by_cases h0:j<l.length∨j<qs.length
  case neg=>
   have bz: ¬ (j:Int)< (l.length:Int):=by omega
   have b7: ¬ (j:Int)< (qs.length:Int):=by omega
   go_wp2_with fail;refine(It wr).mono ?_
   rintro e G ⟨rfl,hb⟩;have bE:=bt af hb;clear hb;go_wp2_with fail;refine(Hc G).mono ?_
   rintro e W4 ⟨rfl,hb⟩;have bF:=bt bE hb;clear hb;go_wp2;go_ret;exact⟨rfl,bF.o⟩
  go_upto_region 8 with fail
  go_cut [44] from 35 to 179 (fun v44 V=>v44= .bool true/\Hid (V=wr))
  case first=>
   by_cases h1:j<l.length
   ·have bz:(j:Int)< (l.length:Int):=by omega
    go_wp2;go_meet
    case rel=>exact⟨rfl,hid rfl⟩
   ·have bz: ¬ (j:Int)< (l.length:Int):=by omega
    have b7:(j:Int)< (qs.length:Int):=by omega
    go_wp2;go_meet
    case rel=>exact⟨rfl,hid rfl⟩
  case rest=>
  obtain⟨rfl,cI⟩:=hcut;have db:=cI.o.symm;clear cI;subst db;go_upto_if 50 with fail
  go_cut [8,9] from 35 to 179 (fun _ _ V=> ∃ (c:Ca) (A:Wd) (Z:List Sf),Hid (Ta V c A)/\Hid (c.Zo 1099511627776)/\Hid (Zc c.ob=true)/\Hid (ZP V g 33 (zC c A))/\Hid (WO V w.heap.size gs Z)/\Hid (WQ Z)/\Hid (Z.map (·.t)=c.ob.Z8)/\Hid (Bw w V))
  case first=>
   by_cases hlt:j<l.length
   case neg=>
    have bz: ¬ (j:Int)< (l.length:Int):=by omega
    go_wp2;go_meet
    case rel=>exact⟨c,A,Z,ag,ah,ai,J,aB,M,aO,af⟩
   have bz:(j:Int)< (l.length:Int):=by omega
   have dc:(0:Int)<=(j:Int):=by omega
   obtain⟨ad,vs,eA,hv,hr⟩:=(HL.o.later af.o).at_ (j:=j) (by simpa using hlt);have cZ:=c9.o l[j] (List.getElem_mem hlt);rw [List.getElem_map] at hv;generalize l[j]=x at*;obtain⟨X,k',Y,n,rfl,hX,hY,cL⟩:=Cm.YY hv;have HX:=hid hX;have HY:=hid hY;have cn:=hid cL;have b2:=hid cZ;have b5:(ad.add (j*17)).block<wr.heap.size:=by
    have:=World.block_lt_of_cell? wr _ (hr 0 _ rfl);simpa [ZL] using this
   have cr:Hid (∀ V,Bw wr V-> ∀ i u,((zX x X k' Y n):lV)[i]?=some u->V.cell? ((ad.add (j*17)).add i)=some u):=hid fun V h i u hu=>(h.cell (by rw [ZL];exact b5)).trans (by rw [ZG];exact hr i u hu)
   clear hv hr hX hY cL cZ;subst eA;have a7:Hid ((prog.info? 43).map (·.size)=some ((zX x X k' Y n):lV).length):=bM;go_wp2_with (first | (with_reducible refine ZK rfl 43 _ rfl (ad.add (j*17)) rfl (zX x X k' Y n) _ (cr.o wr br) underlying43 rfl a7.o ?_) | fail);have cB:=F7 x X k' Y n wr;unfold Cm.cs at cB;refine cB.mono ?_
   rintro e G ⟨⟨b,rfl⟩,hb⟩;have an:Hid (Bw wr G):=hid hb;clear cB hb
   cases b
   case true=>
    have bE:=bt af an.o;go_wp2;go_ret;exact⟨rfl,bE.o⟩
   have G5:=bl J an.o;have bi:=hid (ag.o.later an.o);have aU:=bt af an.o;have bb:=hid (aB.o.later an.o);clear J ag af aB;have ag:=bi;clear bi;go_upto_region 13 with fail
   have az:Hid (∀ V,Bw G V-> ∀ i u,((zX x X k' Y n):lV)[i]?=some u->V.cell? ((ad.add (j*17)).add i)=some u):=hid fun V h=>cr.o V (an.o.trans (h.mono an.o.size))
   have b1:=hid (HX.o.later an.o);have b3:=hid (HY.o.later an.o);have J:=G5;refine' Fa (F:=fun p er c2 D V=>Hid (ZP V p 33 (zC c2 D))/\Hid (ZP V (g) 33 (zC c A))/\Hid (Bw G V)/\Hid (Fj c x er c2)/\Hid (Ge er V c2 D)) (fun key=>_) _
   rotate_left
   ·have C:Hid (Bw G G.drew):=hid br.drew;refine wp_region_held_drew (S:=fun w'=>w'.rangeAt g 0 (zC c A)/\ ∀ i u,((zX x X k' Y n):lV)[i]?=some u->w'.cell? ((ad.add (j*17)).add i)=some u) (by kernel_rfl) (⟨(J.out.below (C.out) J.out.lt).Yz,az.out _ (C.out)⟩) (fun d=> ?_)
    (try simp only [pp]);refine wpAnyH_take (i:=0) (oi:=⟨some 57,_,_,_,_,_⟩) (v:=_) rfl (by kernel_rfl) (by kernel_rfl) (by kernel_rfl) (fun _ _ _ h=>h) (yieldsIf_load_mid (by rfl) _ _ rfl (g) 0 rfl (zC c A) _ (fun _ h=>h.1) underlying33 rfl aZ.o) d ?_
    (try simp only [pp]);refine tk 1 58 d ?_;refine tk 2 59 d ?_;refine tk 3 60 d ?_;refine wpAnyH_take (i:=4) (oi:=⟨some 61,_,_,_,_,_⟩) (v:=_) rfl (by kernel_rfl) (by kernel_rfl) (by kernel_rfl) (fun _ _ _ h=>h) (Zg (by rfl) _ _ rfl (ad.add (j*17)) rfl (zX x X k' Y n) _ (fun _ h=>h.2) underlying43 rfl a7.o) d ?_
    (try simp only [pp]);refine wpAnyH_ready (rs:= [5,9]) (by kernel_rfl) (by simp) ?_
    refine AllReadyH.cons (o:=⟨some 62,_,_,_,_,_⟩) rfl (fun K E=> ?_) (AllReadyH.cons (o:=⟨some 8,_,_,_,_,_⟩) rfl (fun K E=> ?_) AllReadyH.nil)
    ·go_simp;refine((by have h:=WK c A x X k' Y n G.drew (ag.o.later (show Bw G G.drew from C.out)).VE ah.o (b1.o.later C.out) (b3.o.later C.out) b2.o cn.o;unfold Ca.cs Cm.cs at h;exact h:cQ 9 #[.agg (zC c A).toArray,.agg (zX x X k' Y n).toArray] G.drew (EI c x G.drew))).mono ?_
     rintro e I ⟨er,c2,D,rfl,hR,hT,hb⟩;have aj:=bt C hb;have HR:=hid hR;have HI:=hid (show Ge er _ c2 D from hT);clear hR hT;unfold Ca.cs;clear hb C;have C:=aj;clear aj;refine E.out _ _ ⟨(J.out.below (C.out) J.out.lt).Yz,az.out _ (C.out)⟩ (fun d=> ?_);clear E K;(try simp only [pp])
     refine tk 6 56 d ?_;refine tk 7 63 d ?_;refine tk 8 64 d ?_;refine on 9 8 fun K E=> ?_
     go_simp;have ac:Hid (Below G.heap.size G (I.alloc (.cells #[.int .i64 0,.int .i64 0,sN,sN,sN,sN,sN] 33))):=hid (C.out.alloc C.out.size _);have M:Hid (ZP (I.alloc (.cells #[.int .i64 0,.int .i64 0,sN,sN,sN,sN,sN] 33)) I.heap.size 33 [.int .i64 0,.int .i64 0,sN,sN,sN,sN,sN]):=hid (ZP.new I _ _);have aH:Hid (G.heap.size<=I.heap.size):=hid C.out.size;have bm:Below I.heap.size I (I.alloc (.cells #[.int .i64 0,.int .i64 0,sN,sN,sN,sN,sN] 33)):=br.alloc lr _;have cu:=hid (HI.o.later bm);clear HI;have HI:=cu;clear cu;clear bm C;generalize I.alloc (.cells #[.int .i64 0,.int .i64 0,sN,sN,sN,sN,sN] 33)=VA at*;generalize I.heap.size=p at*;have C:=ac;clear ac;refine E.out _ _ ⟨(J.out.below (C.out) J.out.lt).Yz,az.out _ (C.out)⟩ (fun d=> ?_);clear E K;(try simp only [pp])
     refine SR 10 fun K E=> ?_
     refine Zk rfl 33 _ _ rfl p (zC c2 D) rfl rfl M rfl rfl aZ (by simp [Value.oneCell']) ?_
     intro w9 U;have T:Hid (Bw G w9):=hid (U.o.below C.out aH.o);have a6:=hid (HI.o.keeps U.o.keeps (by decide));refine E.out _ _ ⟨(J.out.below (T.o) J.out.lt).Yz,az.out _ (T.o)⟩ (fun d=> ?_);clear E K;(try simp only [pp])
     refine tk 11 9 d ?_;refine wpAnyH_done (by kernel_rfl) ?_ _
     exact key p er c2 D w9 ⟨hid U.o.YK,bl G5 T.o,T,HR,a6⟩
    ·go_simp;have ac:Hid (Below G.heap.size G (G.alloc (.cells #[.int .i64 0,.int .i64 0,sN,sN,sN,sN,sN] 33)).drew):=hid (br.alloc lr _).drew;have aX:Hid (ZP (G.alloc (.cells #[.int .i64 0,.int .i64 0,sN,sN,sN,sN,sN] 33)).drew G.heap.size 33 [.int .i64 0,.int .i64 0,sN,sN,sN,sN,sN]):=hid (ZP.new G _ _).drew;obtain⟨p,hp⟩: ∃ p,p=G.heap.size:=⟨_,rfl⟩
     have aH:Hid (G.heap.size<=p):=hid (by rw [hp];exact Nat.le_refl _);have M:Hid (ZP (G.alloc (.cells #[.int .i64 0,.int .i64 0,sN,sN,sN,sN,sN] 33)).drew p 33 [.int .i64 0,.int .i64 0,sN,sN,sN,sN,sN]):=hid (by rw [hp];exact aX.out);generalize hVA:(G.alloc (.cells #[.int .i64 0,.int .i64 0,sN,sN,sN,sN,sN] 33)).drew=VA at*;rw [<-hp];clear aX hp hVA C;have C:=ac;clear ac;refine E.out _ _ ⟨(J.out.below (C.out) J.out.lt).Yz,az.out _ (C.out)⟩ (fun d=> ?_);clear E K;(try simp only [pp])
     refine on 5 62 fun K E=> ?_
     go_simp;refine((by have h:=WK c A x X k' Y n VA (ag.o.later (show Bw G VA from C.out)).VE ah.o (b1.o.later C.out) (b3.o.later C.out) b2.o cn.o;unfold Ca.cs Cm.cs at h;exact h:cQ 9 #[.agg (zC c A).toArray,.agg (zX x X k' Y n).toArray] VA (EI c x VA))).mono ?_
     rintro e I ⟨er,c2,D,rfl,hR,hT,hb⟩;have aW:=bl M hb;clear M;have M:=aW;clear aW;have aj:=bt C hb;have HR:=hid hR;have HI:=hid (show Ge er _ c2 D from hT);clear hR hT;unfold Ca.cs;clear hb C;have C:=aj;clear aj;refine E.out _ _ ⟨(J.out.below (C.out) J.out.lt).Yz,az.out _ (C.out)⟩ (fun d=> ?_);clear E K;(try simp only [pp])
     refine tk 6 56 d ?_;refine tk 7 63 d ?_;refine tk 8 64 d ?_;refine SR 10 fun K E=> ?_
     refine Zk rfl 33 _ _ rfl p (zC c2 D) rfl rfl M rfl rfl aZ (by simp [Value.oneCell']) ?_
     intro w9 U;have T:Hid (Bw G w9):=hid (U.o.below C.out aH.o);have a6:=hid (HI.o.keeps U.o.keeps (by decide));refine E.out _ _ ⟨(J.out.below (T.o) J.out.lt).Yz,az.out _ (T.o)⟩ (fun d=> ?_);clear E K;(try simp only [pp])
     refine tk 11 9 d ?_;refine wpAnyH_done (by kernel_rfl) ?_ _
     exact key p er c2 D w9 ⟨hid U.o.YK,bl G5 T.o,T,HR,a6⟩
   ·rintro p er c2 D V ⟨N6,G6,bs,HR,HI⟩;have aw:=hid (ag.o.later bs.o);have aG:=bt aU bs.o;have am:=hid (bb.o.later bs.o);clear az b1 b3 J G5 ag an aU bs bb;by_cases h0:er=0
    case neg=>
     have t0:(er == 0)=false:=by simpa using h0
     clear HR HI h0;have e2:=ce G6 2;have e3:=ce G6 3;go_wp2_with fail;refine(RQ w.heap.size gs Z c.ob A.a0 A.k0 A.a1 A.k1 V am.o M.o ai.o aw.o.VE.sc aw.o.VE.tb).mono ?_
     rintro e V9 ⟨rfl,cj,hS,hg,ht,hk,hb,-⟩;have bU:=hid hS;have bK:=hid hg;have bW:=hid ht;have bI:=hid (aw.o.keeps hk (by decide));have G9:=hid (G6.o.keeps hk (by decide));have T:Hid (Bw w V9):=hid (aG.o.trans hb);clear hS hg ht hk hb e2 e3;go_wp2;go_meet
     case rel=>exact⟨c,A,cj,bI,ah,ai,G9,bU,bK,bW,T⟩
    subst h0;have bo:=Ga HR.o;have aV:=hid (F9 HR.o ai.o);have be:=hid (HI.o rfl);have b0:=hid (Ca.Zo.up (bo 549755813888 (by omega) b2.o) (by omega:549755813888<=1099511627776));have de:w.heap.size<=g:=dg;clear HR HI bo aw;go_upto_region 16 with (first | (refine lO N6 aZ underlying33 ?_) | (refine sO G6 aZ ?_;intro W9 U) | fail)
    have bB:=hid U.o.YK;have bH:=hid (U.o.below aG.o de);have bX:=hid (be.o.keeps U.o.keeps (by decide));have bc:=hid (am.o.keeps U.o.keeps (by decide) (by decide) (by decide) (by decide) (by decide));clear U be am aG N6 G6;have am:=bc;clear bc;have e2:=ce bB 2;have e3:=ce bB 3;go_wp2_with fail;refine(RQ w.heap.size gs Z c2.ob D.a0 D.k0 D.a1 D.k1 W9 am.o M.o aV.o bX.o.VE.sc bX.o.VE.tb).mono ?_
    rintro e V9 ⟨rfl,cj,hS,hg,ht,hk,hb,-⟩;have bU:=hid hS;have bK:=hid hg;have bW:=hid ht;have bI:=hid (bX.o.keeps hk (by decide));have G9:=hid (bB.o.keeps hk (by decide));have T:Hid (Bw w V9):=hid (bH.o.trans hb);clear hS hg ht hk hb e2 e3;go_wp2;go_meet
    case rel=>exact⟨c2,D,cj,bI,b0,aV,G9,bU,bK,bW,T⟩
  case rest=>
  clear ag ah ai J aB M aO af;clear c A Z;obtain⟨c,A,Z,ag,ah,ai,J,aB,M,aO,af⟩:=hcut;by_cases h2:j<qs.length
  case neg=>
   have b7: ¬ (j:Int)< (qs.length:Int):=by omega
   have dd:(j:Int)>=(qs.length:Int):=by omega
   go_wp2;go_roundw
   case rel=>exact⟨j+1,c,A,Z,by omega,by go_num,ag,ah,ai,J,aB,M,aO,af⟩
   case measure=>simp [intOf];omega
  have b7:(j:Int)< (qs.length:Int):=by omega
  have dd: ¬ (j:Int)>=(qs.length:Int):=by omega
  have dc:(0:Int)<=(j:Int):=by omega
  obtain⟨O,eQ,cM,bk⟩:=HQ.o (by simp;omega);obtain⟨vs,hv,hr⟩:=bk j _ (List.getElem?_eq_getElem (by simpa using h2));rw [List.getElem_map] at hv;generalize qs[j]=q at*;obtain⟨QA,qn,rfl,hA⟩:=Wo.YY hv;have aM:Hid (∀ V,Bw w V-> ∀ i u,((zQ q QA qn):lV)[i]?=some u->V.cell? (O.add (j*9+i))=some u):=hid fun V h i u hu=>(h.cell (by rw [ZL];exact cM)).trans (hr i u hu)
  have bL:Hid (∀ V,Bw w V-> ∀ i u,((zQ q QA qn):lV)[i]?=some u->V.cell? ((O.add (j*9)).add i)=some u):=hid fun V h i u hu=>by rw [ZG];exact aM.o V h i u hu
  have bC:Hid (∀ V,Bw w V->ZT V (Sx V w.heap.size) Zh (q.row.map Vl.da) QA):=hid fun V h=>hA.YW (fun k hk=> .inl hk) (fun p hp=>h.cell hp)
  have bS:Hid ((prog.info? 66).map (·.size)=some ((zQ q QA qn):lV).length):=a6;subst eQ;clear bk hv hr hA cM;have q4:wc.cell? ⟨(O.add (j*9)).block,(O.add (j*9)).off+4,none⟩=some (sl QA q.row qn):=ef (aM.o wc af.o) 4;by_cases hr1:(q.row.length:Int) > 1000
  ·go_wp2;go_ret;exact⟨rfl,af.o⟩
  have c6:Hid (q.row.length<=1099511627776):=hid (by omega);go_wp2_with (first | (with_reducible refine ZK rfl 66 _ rfl (O.add (j*9)) rfl (zQ q QA qn) _ (bL.o wc af.o) underlying66 rfl bS.o ?_) | fail);refine(MA w.heap.size gs Z q QA qn wc aB.o M.o).mono ?_
  rintro e I ⟨B1,k1,c1,rfl,bj,dl,cW⟩;have ap:Hid (Bw w I):=hid (af.o.trans bj.bw);have bg:=hid (ag.o.keeps bj.kp (by decide));have G1:=hid (J.out.keeps bj.kp (by decide));have a8:=hid bj.st;have cC:=hid cW;clear bj dl cW q4 af ag J aB;go_wp2_with (first | (with_reducible refine ZK rfl 66 _ rfl (O.add (j*9)) rfl (zQ q QA qn) _ (bL.o I ap.o) underlying66 rfl bS.o ?_) | fail);refine(MO w.heap.size gs Z q QA qn I a8.o M.o (bC.o I ap.o)).mono ?_
  rintro e N ⟨er,B2,k2,c2,bq,rfl,aJ,hd,-,-⟩;have ak:Hid (Bw w N):=hid (ap.o.trans aJ.bw);have ae:=hid (bg.o.keeps aJ.kp (by decide));have G2:=hid (G1.o.keeps aJ.kp (by decide));have aI:=hid aJ.st;have aY:=hid aJ.gd;have au:=hid (aJ.tb.trans aO.o);have d:=hid hd;clear aJ hd ap bg G1 a8;by_cases he:er=0
  case neg=>
   have dp:(er != 0)=true:=by simpa using he
   have aR:(er == 0)=false:=by simpa using he
   clear d he;go_wp2;go_roundw
   case rel=>exact⟨j+1,c,A,bq,by omega,by go_num,ae,ah,ai,G2,aI,aY,au,ak⟩
   case measure=>simp [intOf];omega
  subst he;obtain⟨s,s',bA,cO,dn,aC⟩:=d.o rfl;obtain⟨dv,cP,cT,_,_⟩:=cC.o s bA;obtain⟨i,hi,b6,ao⟩:=H7 aO.o bA;have bJ:Hid (Sk c.ob q.Z9 q.ZZ=0):=hid (by unfold Sk;rw [ai.o,b6];rfl)
  have bZ:Hid (∀ (i2:Nat) (hi:i2<c.ob.Z8.length) (t':Tb),XA c.ob q.Z9 q.ZZ=some i2->t'=c.ob.Z8[i2]->t'=s.t):=hid fun i2 aS t' h1 h2=>by
   rw [b6] at h1;injection h1 with h1
   subst h1;exact h2.trans ao
  have cp:=hid cO;have aA:Hid (k1=s.rs.length):=hid (by
   rw [cP];have:=congrArg List.length cT;simpa using this)
  have cc:s∈Z:=List.mem_of_find?_eq_some bA
  have ds:=(M.o.r s cc).1;have c8:=hid ((M.o.t s cc).tm);have bu:=hid aC;clear bA cO dn aC cC cP cT b6 ao hi d cc;go_upto_region 24 with fail
  have ab:Hid (∀ V,Bw N V->(fun w'=>w'.rangeAt g 2 [sl A.a0 c.ob.Z7 A.k0,sl A.a1 c.ob.Z8 A.k1]/\w'.cell? ⟨(O.add (j*9)).block,(O.add (j*9)).off+2,none⟩=some (sT q.Z9)/\w'.cell? ⟨(O.add (j*9)).block,(O.add (j*9)).off+3,none⟩=some (sT q.ZZ)) V):=hid fun V h=>by
   have h3:=ak.o.trans (h.mono ak.o.size);exact⟨(G2.o.below h G2.o.lt).range 2 _ rfl,ef (aM.o V h3) 2,ef (aM.o V h3) 3⟩
  refine' DH (F:=fun p X2 x2 Y2 y2 V=>Hid (ZP V p 73 [sT s.t.Z9,sT s.t.name,sT s.t.ZN,sl X2 s.t.Z3 x2,sl Y2 s.t.ZW y2])/\Hid (Bw N V)/\Hid (Nt V s.t X2 Y2)) (fun key=>_) _
  rotate_left
  ·have C:Hid (Bw N N.drew):=hid br.drew;refine wp_region_held_drew (S:=fun w'=>w'.rangeAt g 2 [sl A.a0 c.ob.Z7 A.k0,sl A.a1 c.ob.Z8 A.k1]/\w'.cell? ⟨(O.add (j*9)).block,(O.add (j*9)).off+2,none⟩=some (sT q.Z9)/\w'.cell? ⟨(O.add (j*9)).block,(O.add (j*9)).off+3,none⟩=some (sT q.ZZ)) (by kernel_rfl) (ab.o _ C.out) (fun d=> ?_)
   (try simp only [pp]);refine tk 0 103 d ?_;refine tv 1 104 rfl d (yieldsIf_load_mid (by rfl) _ _ rfl (g) 2 rfl [sl A.a0 c.ob.Z7 A.k0,sl A.a1 c.ob.Z8 A.k1] _ (fun _ h=>h.1) underlying26 rfl c5.o) ?_
   (try simp only [pp]);refine tk 2 105 d ?_;refine tk 3 106 d ?_;refine tk 4 107 d ?_;refine tk 5 108 d ?_;refine tk 6 109 d ?_;refine tk 7 110 d ?_;refine tk 8 111 d ?_;refine tk 9 112 d ?_;refine tk 10 113 d ?_;refine tk 11 114 d ?_;refine wpAnyH_ready (rs:= [12,16]) (by kernel_rfl) (by simp) ?_
   refine AllReadyH.cons (o:=⟨some 115,_,_,_,_,_⟩) rfl (fun K E=> ?_) (AllReadyH.cons (o:=⟨some 13,_,_,_,_,_⟩) rfl (fun K E=> ?_) AllReadyH.nil)
   ·go_simp;refine(TL c.ob A.a0 A.k0 A.a1 A.k1 q.Z9 q.ZZ N.drew (ae.o.VE.sc.later C.out) (ae.o.VE.tb.later C.out) ah.o.1).mono ?_
    rintro e I ⟨t',X2,x2,Y2,y2,e2,rfl,aR,hb,-,-,bn⟩;have aj:=bt C hb;rw [bJ.o] at aR;subst aR;obtain⟨⟨i2,aS,h1,h3⟩,ao⟩:=bn rfl;have b8:=bZ.o i2 aS t' h1 h3;subst b8;have HN:Hid (Nt _ s.t X2 Y2):=hid ⟨ao.NF.1,ao.NF.2⟩;clear bn ao h1 h3 aS i2;unfold Tb.cs;clear hb C;have C:=aj;clear aj;refine E.out _ _ (ab.o _ (C.out)) (fun d=> ?_);clear E K;(try simp only [pp])
    refine tk 13 102 d ?_;refine tk 14 116 d ?_;refine tk 15 117 d ?_;refine on 16 13 fun K E=> ?_
    go_simp;have ac:Hid (Below N.heap.size N (I.alloc (.cells #[s0,s0,s0,sN,sN] 73))):=hid (C.out.alloc C.out.size _);have M:Hid (ZP (I.alloc (.cells #[s0,s0,s0,sN,sN] 73)) I.heap.size 73 [s0,s0,s0,sN,sN]):=hid (ZP.new I _ _);have aH:Hid (N.heap.size<=I.heap.size):=hid C.out.size;have bm:Below I.heap.size I (I.alloc (.cells #[s0,s0,s0,sN,sN] 73)):=br.alloc lr _;have cx:=hid (HN.o.later bm);clear HN;have HN:=cx;clear cx;clear bm C;generalize I.alloc (.cells #[s0,s0,s0,sN,sN] 73)=VA at*;generalize I.heap.size=p at*;have C:=ac;clear ac;refine E.out _ _ (ab.o _ (C.out)) (fun d=> ?_);clear E K;(try simp only [pp])
    refine SR 17 fun K E=> ?_
    refine Zk rfl 73 _ _ rfl p [sT s.t.Z9,sT s.t.name,sT s.t.ZN,sl X2 s.t.Z3 x2,sl Y2 s.t.ZW y2] rfl rfl M rfl rfl bN (by simp [Value.oneCell']) ?_
    intro w9 U;have T:Hid (Bw N w9):=hid (U.o.below C.out aH.o);have bT:=hid (HN.o.keeps U.o.keeps (by decide));refine E.out _ _ (ab.o _ (T.o)) (fun d=> ?_);clear E K;(try simp only [pp])
    refine tk 18 14 d ?_;refine wpAnyH_done (by kernel_rfl) ?_ _
    exact key p X2 x2 Y2 y2 w9 ⟨hid U.o.YK,T,bT⟩
   ·go_simp;have ac:Hid (Below N.heap.size N (N.alloc (.cells #[s0,s0,s0,sN,sN] 73)).drew):=hid (br.alloc lr _).drew;have aX:Hid (ZP (N.alloc (.cells #[s0,s0,s0,sN,sN] 73)).drew N.heap.size 73 [s0,s0,s0,sN,sN]):=hid (ZP.new N _ _).drew;obtain⟨p,hp⟩: ∃ p,p=N.heap.size:=⟨_,rfl⟩
    have aH:Hid (N.heap.size<=p):=hid (by rw [hp];exact Nat.le_refl _);have M:Hid (ZP (N.alloc (.cells #[s0,s0,s0,sN,sN] 73)).drew p 73 [s0,s0,s0,sN,sN]):=hid (by rw [hp];exact aX.out);generalize hVA:(N.alloc (.cells #[s0,s0,s0,sN,sN] 73)).drew=VA at*;rw [<-hp];clear aX hp hVA C;have C:=ac;clear ac;refine E.out _ _ (ab.o _ (C.out)) (fun d=> ?_);clear E K;(try simp only [pp])
    refine on 12 115 fun K E=> ?_
    go_simp;refine(TL c.ob A.a0 A.k0 A.a1 A.k1 q.Z9 q.ZZ VA (ae.o.VE.sc.later C.out) (ae.o.VE.tb.later C.out) ah.o.1).mono ?_
    rintro e I ⟨t',X2,x2,Y2,y2,e2,rfl,aR,hb,-,-,bn⟩;have aW:=bl M hb;clear M;have M:=aW;clear aW;have aj:=bt C hb;rw [bJ.o] at aR;subst aR;obtain⟨⟨i2,aS,h1,h3⟩,ao⟩:=bn rfl;have b8:=bZ.o i2 aS t' h1 h3;subst b8;have HN:Hid (Nt _ s.t X2 Y2):=hid ⟨ao.NF.1,ao.NF.2⟩;clear bn ao h1 h3 aS i2;unfold Tb.cs;clear hb C;have C:=aj;clear aj;refine E.out _ _ (ab.o _ (C.out)) (fun d=> ?_);clear E K;(try simp only [pp])
    refine tk 13 102 d ?_;refine tk 14 116 d ?_;refine tk 15 117 d ?_;refine SR 17 fun K E=> ?_
    refine Zk rfl 73 _ _ rfl p [sT s.t.Z9,sT s.t.name,sT s.t.ZN,sl X2 s.t.Z3 x2,sl Y2 s.t.ZW y2] rfl rfl M rfl rfl bN (by simp [Value.oneCell']) ?_
    intro w9 U;have T:Hid (Bw N w9):=hid (U.o.below C.out aH.o);have bT:=hid (HN.o.keeps U.o.keeps (by decide));refine E.out _ _ (ab.o _ (T.o)) (fun d=> ?_);clear E K;(try simp only [pp])
    refine tk 18 14 d ?_;refine wpAnyH_done (by kernel_rfl) ?_ _
    exact key p X2 x2 Y2 y2 w9 ⟨hid U.o.YK,T,bT⟩
  ·rintro p X2 x2 Y2 y2 V3 ⟨N3,ay,cy⟩;have aF:=bt ak ay.o;have bh:=hid (ae.o.later ay.o);have G3:=bl G2 ay.o;have ba:=hid (aI.o.later ay.o);clear ab ay ak ae G2 aI bJ bZ;go_wp2_with (first | (with_reducible refine ZK rfl 66 _ rfl (O.add (j*9)) rfl (zQ q QA qn) _ (bL.o V3 aF.o) underlying66 rfl bS.o ?_) | fail);refine(MA w.heap.size gs bq q QA qn V3 ba.o aY.o).mono ?_
   rintro e V4 ⟨B4,k4,c4,rfl,aK,-,cX⟩;obtain⟨bp,b9,aT,cJ,cK⟩:=cX s' cp.o;have aa:Hid (Bw w V4):=hid (aF.o.trans aK.bw);have av:=hid (bh.o.keeps aK.kp (by decide));have G4:=hid (G3.o.keeps aK.kp (by decide));have N4:=hid (N3.o.keeps aK.kp (by decide));have cz:=hid (cy.o.keeps aK.kp (by decide));have ar:=hid aK.st;have bO:Hid (k4=s'.rs.length):=hid (by
    rw [b9];have:=congrArg List.length aT;simpa using this)
   have cw:=hid aT;have cA:=hid cJ;have cH:=hid cK;have cv:=hid b9;clear b9 aT cJ cK;have q0:V4.cell? (O.add (j*9))=some (i6 q.ZV):=e0 (aM.o V4 aa.o);clear aK cX aF bh G3 N3 cy ba cp;rcases bu.o with ⟨g1,g2,g3,g4⟩ | ⟨g1,g2⟩ | ⟨g1,g2,g3,g4⟩
   ·rw [g1] at q0;have cS:k4=k1+1:=by
     have:=congrArg List.length g4;simp at this;have:=aA.o;have:=bO.o;omega
    have ax:k1<bp.length:=by
     have:=cv.o;omega
    have aT:=cw.o;have di:k1<=64:=by
     have:=aA.o;omega
    have c0:=hid g3;have cg:bp[k1].1=q.row:=by
     have h1:(bp.map (·.1))[k1]'(by simpa using ax)=(s.rs.map (·.1) ++ [q.row])[k1]'(by have:=aA.o;simp;omega):=by simp only [aT,g4]
     rw [List.getElem_map] at h1;rw [h1,List.getElem_append_right (by have:=aA.o;simp;omega)]
     simp [aA.o]
    obtain⟨rd,rfl,cV,aE⟩:=cA.o (by omega);have cN:=aE (k1*1+0) _ (by rw [Zl X3.k bp k1 0 ax (by decide)];rfl)
    rw [Nat.mul_one,Nat.add_zero] at cN;have c7:=hid (cH.o _ (List.getElem_mem ax));clear aE aT g1 g2 g3 g4 bu cw cA cH cv;generalize bp[k1]=r4 at*;obtain⟨du,ch,ci⟩:=r4;dsimp only at*;subst cg;have cf:rd.block<V4.heap.size:=cV;have cU:((k4:Int) !=(k1:Int)+1)=false:=by rw [cS];simp
    have dt:IntKind.i64.wrap ((k1:Int)+1)=(k1:Int)+1:=by
     simp [IntKind.wrap,IntKind.bits,IntKind.signed];omega
    have dr:(k1:Int)< (k4:Int):=by omega
    have dh:(0:Int)<=(k1:Int):=by omega
    clear cV cS ax;go_upto_region 32 with fail
    have aq:Hid (∀ V,Bw V4 V->(fun V=>Bw V4 V/\V.rangeAt p 0 [sT s.t.Z9,sT s.t.name,sT s.t.ZN,sl X2 s.t.Z3 x2,sl Y2 s.t.ZW y2]/\V.cell? ⟨(O.add (j*9)).block,(O.add (j*9)).off+4,none⟩=some (sl QA q.row qn)/\V.cell? (rd.add k1)=some (sl ch q.row ci)) V):=hid fun V h=>⟨h,(N4.o.below h N4.o.lt).Yz,ef (aM.o V (aa.o.trans (h.mono aa.o.size))) 4,(h.cell (by rw [ZL];exact cf)).trans cN⟩
    refine wp_region_held_drew (S:=fun V=>Bw V4 V/\V.rangeAt p 0 [sT s.t.Z9,sT s.t.name,sT s.t.ZN,sl X2 s.t.Z3 x2,sl Y2 s.t.ZW y2]/\V.cell? ⟨(O.add (j*9)).block,(O.add (j*9)).off+4,none⟩=some (sl QA q.row qn)/\V.cell? (rd.add k1)=some (sl ch q.row ci)) (by kernel_rfl) (aq.o _ br.drew) (fun d=> ?_)
    (try simp only [pp]);refine tv 0 143 rfl d (yieldsIf_load_mid (by rfl) _ _ rfl (p) 0 rfl [sT s.t.Z9,sT s.t.name,sT s.t.ZN,sl X2 s.t.Z3 x2,sl Y2 s.t.ZW y2] _ (fun _ h=>h.2.1) underlying73 rfl bN.o) ?_
    refine tk 1 144 d ?_;refine tk 2 145 d ?_;refine tk 3 146 d ?_;refine tk 4 147 d ?_;refine tk 5 148 d ?_;refine on 6 149 fun K E=> ?_
    go_simp;have hF:=Jz s.t X2 x2 Y2 y2 q.row QA qn V4.drew ((cz.o.cl.XJ).later d.1) ((cz.o.ru.XJ).later d.1) ((Sb (bC.o V4 aa.o) aa.o.size).later d.1) c8.o;rw [c0.o] at hF;refine hF.mono ?_
    rintro e V5 ⟨rfl,hb⟩;have aP:=d.1.trans (hb.mono d.1.size);refine E.out _ _ (aq.o _ aP) (fun d=> ?_);clear E K hF hb;(try simp only [pp])
    refine tb 7 150 (.bool false) d ?_;refine tk 8 151 d ?_;refine tk 9 152 d ?_;refine tk 10 153 d ?_;refine tk 11 154 d ?_;refine tb 12 155 (.int .i64 ((k1:Int)+1)) d ?_;refine tb 13 156 (.bool false) d ?_;refine tk 14 157 d ?_;refine tk 15 158 d ?_;refine tk 16 159 d ?_;refine tk 17 160 d ?_;refine tk 18 161 d ?_;refine tk 19 162 d ?_;refine tk 20 163 d ?_;refine tk 21 164 d ?_;refine tk 22 165 d ?_;refine tk 23 166 d ?_;refine tk 24 167 d ?_;refine on 25 168 fun K E=> ?_
    go_simp;have b4:=JV q.row q.row ch ci QA qn V5 (c7.o.later aP) ((Sb (bC.o V4 aa.o) aa.o.size).later aP) c6.o;rw [show (q.row == q.row)=true by simp] at b4;refine b4.mono ?_
    rintro e V6 ⟨rfl,hb⟩;have aQ:=aP.trans (hb.mono aP.size);refine E.out _ _ (aq.o _ aQ) (fun d=> ?_);clear E K b4 hb aP;(try simp only [pp])
    refine tk 26 169 d ?_;refine tk 27 170 d ?_;refine wpAnyH_done (by kernel_rfl) ?_ _
    have bY:=hid (av.o.later aQ);have G6:=bl G4 aQ;have bV:=hid (ar.o.later aQ);have bG:=bt aa aQ;clear d aq av G4 ar aa aQ;go_wp2;go_roundw
    case rel=>exact⟨j+1,c,A,bq,by omega,by go_num,bY,ah,ai,G6,bV,aY,au,bG⟩
    case measure=>simp [intOf];omega
   ·rw [g1] at q0;have aL:=aA.o;have ca:=bO.o;have di:k1<=64:=by omega
    have dj:k2<=64:=by omega
    have cU:((k4:Int) !=(k1:Int) - (k2:Int))=false:=by
     rw [show (k4:Int)=(k1:Int) - (k2:Int) by omega];simp
    clear aL ca g1 g2 bu;go_wp2;go_roundw
    case rel=>exact⟨j+1,c,A,bq,by omega,by go_num,av,ah,ai,G4,ar,aY,au,aa⟩
    case measure=>simp [intOf];omega
   ·have j1:(q.ZV == 1)=false:=by simpa using g1
    have j2:(q.ZV == 2)=false:=by simpa using g2
    have cR:k4=k1:=by rw [bO.o,g3,aA.o]
    have aL:=aA.o;have cU:((k4:Int) !=(k1:Int))=false:=by rw [cR];simp
    have dq: ¬ (k2:Int) >(k1:Int):=by omega
    have df: ¬ (k1:Int)< (k2:Int):=by omega
    clear aL cR g1 g2 g3 g4 bu;go_wp2;go_roundw
    case rel=>exact⟨j+1,c,A,bq,by omega,by go_num,av,ah,ai,G4,ar,aY,au,aa⟩
    case measure=>simp [intOf];omega
end Go.Proofs.YtnhmoibjlakhjaaGreat
