/- Lemmas, each under its own conditions. -/
import Derived.Test.YtnhmoibjlakhjaaGreatW47
set_option linter.all false
namespace Go.Proofs.YtnhmoibjlakhjaaGreat
open Go.Proofs.Tryz
open Lib (hid)
set_option maxRecDepth 100000
set_option maxHeartbeats 16000000
open Go.RowKit
def Fj (c:Ca)(x:Cm)(er:Int)(c':Ca):Prop:=
 (Vt c x≠0/\er=Vt c x)∨(Vt c x=0/\er≠0/\ ∃ c1,Vj c x er c1)∨(Vt c x=0/\Sa c x=true/\er=92)∨
 (er=0/\Vt c x=0/\Sa c x=false/\ ∃ c1 l,Vj c x 0 c1/\l.Perm (Vd c1)/\c'=⟨c.ZO+ (if Ul x=true then 1 else 0),c.ZR+1,c1.ob,c1.ro,l⟩)
def EI (c:Ca)(x:Cm)(w:World)(e:Ending)(w':World):Prop:=
 ∃ er c' A',e= .returned (.tuple #[.agg (c'.cs A').toArray,i6 er])/\Fj c x er c'/\(er=0->Ta w' c' A')/\Bw w w'
section
variable {c : Ca} {x : Cm}
theorem Ep (h:Xy c≠0):Vt c x=Xy c:=by
 unfold Vt;rw [if_pos h];unfold Xy at h ⊢;split at h
 ·exact absurd rfl h
 ·rename_i d;rw [if_neg d]
theorem Eo (d:Xy c=0)(h:TC x=false):Vt c x=90:=by unfold Vt;rw [if_neg (by simp [d]),if_pos h]
theorem En (d:Xy c=0)(h:TC x=true)(j:c.ro.ZU.contains x.ZH=false):Vt c x=71:=by unfold Vt;rw [if_neg (by simp [d]),if_neg (by simp [h]),if_pos j]
theorem Em (d:Xy c=0)(h:TC x=true)(j:c.ro.ZU.contains x.ZH=true)(m:U7 c x=false):Vt c x=61:=by unfold Vt;rw [if_neg (by simp [d]),if_neg (by simp [h]),if_neg (by rw [j];simp),if_pos m]
theorem El (d:Xy c=0)(h:TC x=true)(j:c.ro.ZU.contains x.ZH=true)(m:U7 c x=true)(s:U6 c x≠0):Vt c x=U6 c x:=by unfold Vt;rw [if_neg (by simp [d]),if_neg (by simp [h]),if_neg (by rw [j];simp),if_neg (by simp [m]),if_pos s]
theorem pre6 (d:Xy c=0)(h:TC x=true)(j:c.ro.ZU.contains x.ZH=true)(m:U7 c x=true)(s:U6 c x=0)(u:Vh c x=false):Vt c x=91:=by unfold Vt;rw [if_neg (by simp [d]),if_neg (by simp [h]),if_neg (by rw [j];simp),if_neg (by simp [m]),if_neg (by simp [s]),if_pos u]
theorem DA (d:Xy c=0)(h:TC x=true)(j:c.ro.ZU.contains x.ZH=true)(m:U7 c x=true)(s:U6 c x=0)(u:Vh c x=true):Vt c x=0:=by unfold Vt;rw [if_neg (by simp [d]),if_neg (by simp [h]),if_neg (by rw [j];simp),if_neg (by simp [m]),if_neg (by simp [s]),if_neg (by simp [u])]
theorem FR (h:TC x=true)(d:x.ZV=5):x.Z3.length=1:=by
 unfold TC Pk at h;rw [if_neg (by omega),if_pos d] at h;simp only [Bool.and_eq_true,beq_iff_eq] at h;exact h.2.2
theorem GU {s:lU}(h:Zw s=true):s≠ []:=by rintro rfl;cases h
theorem I8 (d:TC x=true)(m:U7 c x=true)(hb:PT x.ZV=1):(c.ob.Z7.any fun s=>s.name == x.Z9)=true:=by
 have C:x.ZV=2∨x.ZV=3:=by
  unfold PT at hb;split at hb
  ·assumption
  ·split at hb
   ·cases hb
   ·split at hb <;> cases hb
 have D:x.Z9≠ []:=by
  unfold TC Ra at d;simp only [Bool.and_eq_true] at d;have j:=d.1.2.1.1.1;have E:(Vy x.ZV).1=true:=by rcases C with h | h <;> rw [h] <;> rfl
  rw [E] at j;intro e;rw [e] at j
  cases j
 have u:x.ZV≠1:=by omega
 unfold U7 at m;simpa [D,u] using m
theorem FO (h:false=(!(x.Z9 == []) && !(x.ZV == 1))):U7 c x=true:=by
 unfold U7
 cases h1:(x.Z9 == []) <;> cases h2:(x.ZV == 1) <;> rw [h1,h2] at h <;> first | rfl | cases h
theorem FN (h:true=(!(x.Z9 == []) && !(x.ZV == 1))):U7 c x=c.ob.Z7.any fun s=>s.name == x.Z9:=by
 unfold U7
 cases h1:(x.Z9 == []) <;> cases h2:(x.ZV == 1) <;> rw [h1,h2] at h <;> first | rfl | cases h
theorem FM (h:false=(!(x.ZZ == []) && !(x.ZV == 3))):U6 c x=0:=by
 unfold U6
 cases h1:(x.ZZ == []) with
 | true=>rw [if_pos (Or.inl (by simpa using h1))]
 | false=>
  cases h2:(x.ZV == 3) with
  | true=>rw [if_pos (Or.inr (by simpa using h2))]
  | false=>rw [h1,h2] at h;cases h
theorem FL (h:true=(!(x.ZZ == []) && !(x.ZV == 3))):U6 c x=Sk c.ob x.Z9 x.ZZ:=by
 unfold U6
 cases h1:(x.ZZ == []) with
 | true=>rw [h1] at h;cases h
 | false=>
  cases h2:(x.ZV == 3) with
  | true=>rw [h1,h2] at h;cases h
  | false=>rw [if_neg (by rintro(h3 | h3) <;> simp_all)];rfl
theorem F2 {c1:Ca}(h:Vj c x 0 c1):c1.ZO=c.ZO/\c1.ZR=c.ZR:=by
 unfold Vj at h;split at h
 ·obtain⟨_,_,rfl⟩:=h;exact⟨rfl,rfl⟩
 split at h
 ·rcases h with ⟨h,_⟩ | ⟨_,_,_,rfl⟩
  ·cases h
  ·exact⟨rfl,rfl⟩
 split at h
 ·rcases h with h | ⟨_,_,_,rfl⟩
  ·exact absurd rfl h
  ·exact⟨rfl,rfl⟩
 split at h
 ·rcases h with h | ⟨_,_,_,rfl⟩
  ·exact absurd rfl h
  ·exact⟨rfl,rfl⟩
 split at h
 ·rcases h with ⟨h,_⟩ | ⟨_,_,rfl⟩
  ·cases h
  ·exact⟨rfl,rfl⟩
 split at h
 ·rcases h with h | ⟨_,_,_,rfl⟩
  ·exact absurd rfl h
  ·exact⟨rfl,rfl⟩
 ·obtain⟨_,_,rfl⟩:=h;exact⟨rfl,rfl⟩
end
theorem Ri {P:Program}{C:Func}{t u:Tmp}{j s:TypeId}(h:C.results= #[.cell t j,.cell u s])(tmps:Array Value)(w:World)(b m:Nat)(hb:tmps.getD t undef=pT b)(F:tmps.getD u undef=pT m)
  {t':TypeId} {cs:lV} {v:Value} (I:Hid (ZP w b t' cs)) {n:Nat} (L:cs.length=n) {d:TypeDesc} (M:P.underlying j=some d) (hd:d.isRow=true) (J:Hid ((P.info? j).map (·.size)=some n))
  (G:(loadVar s (aD m 0)).run P w= .ok v w):(results C tmps).run P w= .ok (.tuple #[.agg cs.toArray,v]) w:=by
 have K:=run_loadVar_mid w b 0 j cs d I.o.Yz M hd (L▸J.o);have E:tmps[t]?.getD undef=pT b:=by simpa using hb
 have D:tmps[u]?.getD undef=pT m:=by simpa using F
 simp [results,h,E,K,D,G,asAddr]
theorem SL (w:World)(b:Nat)(E:Int)(h:w.cell? (aD b 0)=some (i6 E)):(loadVar 45 (aD b 0)).run prog w= .ok (i6 E) w:=by
 simp [go_sem,h]
theorem XW (tmps:Array Value)(R:Ending->World->Prop)(base h d:Nat)(E:Int)(j:lV)(u:Int)(W:World){s:Fn}{cap m:Array Value}
  (I:tmps.getD 4 undef=pT h) (J:tmps.getD 5 undef=pT d) (T:(invoke (.fn s cap) m).run prog W= .ok (.enter 25 #[pT h,pT d]) W)
  (N:Hid (ZP W h 33 j)) (U:j.length=7) (M:Hid (ZP W d 45 [i6 u])) (D:base<=h) (F:base<=d) (G:h≠d)
  (O: ∀ w',Below base W w'->R (.returned (.tuple #[.agg (Ca.zero.cs Wd.zero).toArray,i6 E])) w'):
  Leaves prog Tryz.f9 tmps R [{ target:= .fn s cap,args:=m}] (.panicking (Sl E)) W:=by
 have C:=iN 33 7;refine leaves_cons (f:=25) (args:= #[pT h,pT d]) (by simp) T ?_
 refine(Ja base h d E j u W N.o U M.o D F G).mono ?_
 rintro e V w' ⟨rfl,rfl,K,L,hb⟩;refine⟨_,Ri Tryz.results9 tmps w' h d I J (hid K) rfl underlying33 rfl C (SL w' d E (L.cell 0)),O w' hb⟩
theorem Hv (w:World)(a b d e:lV)(t u v y:TypeId)(W:World)(j:W=(((w.alloc (.cells a.toArray t)).alloc (.cells b.toArray u)).alloc (.cells d.toArray v)).alloc (.cells e.toArray y)):
  ZP W w.heap.size t a/\ZP W (w.heap.size+1) u b/\ZP W (w.heap.size+1+1) v d/\ZP W (w.heap.size+1+1+1) y e/\Bw w W:=by
 subst j;have m:(w.alloc (.cells a.toArray t)).heap.size=w.heap.size+1:=by simp
 have s:((w.alloc (.cells a.toArray t)).alloc (.cells b.toArray u)).heap.size=w.heap.size+1+1:=by simp
 have C:(((w.alloc (.cells a.toArray t)).alloc (.cells b.toArray u)).alloc (.cells d.toArray v)).heap.size=w.heap.size+1+1+1:=by simp
 refine⟨(((ZP.new w t a).alloc _).alloc _).alloc _,?_,?_,?_,?_⟩
 ·have h:=((ZP.new (w.alloc (.cells a.toArray t)) u b).alloc (.cells d.toArray v)).alloc (.cells e.toArray y);rwa [m] at h
 ·have h:=(ZP.new ((w.alloc (.cells a.toArray t)).alloc (.cells b.toArray u)) v d).alloc (.cells e.toArray y);rwa [s] at h
 ·have h:=ZP.new (((w.alloc (.cells a.toArray t)).alloc (.cells b.toArray u)).alloc (.cells d.toArray v)) y e;rwa [C] at h
 ·exact(((br.alloc lr _).alloc (by omega) _).alloc (by omega) _).alloc (by omega) _
theorem WK (c:Ca)(A:Wd)(x:Cm)(X:oA)(k:Nat)(Y:oA)(n:Nat)(w:World)(hc:UH w w.heap.size c A)(ht:c.Zo 1099511627776)
  (hX:rA w Zz (x.Z3.map Cl.da) X) (hY:rA w [.Z2] (YV x.ZX.Z3) Y) (hx:x.Zo 549755813888) (bz:Qo x.ZX):
  cQ 9 #[.agg (c.cs A).toArray,.agg (x.cs X k Y n).toArray] w (EI c x w):=by
 have HC:=hid hc;have ar:=hid ht;have HX:=hid hX;have HY:=hid hY;have bE:=hid hx;have bo:Hid (x.Zo 1099511627776):=hid ⟨Nat.le_trans hx.1 (by omega),Nat.le_trans hx.2.1 (by omega),Nat.le_trans hx.2.2.1 (by omega),Nat.le_trans hx.2.2.2.1 (by omega),Nat.le_trans hx.2.2.2.2.1 (by omega),Nat.le_trans hx.2.2.2.2.2.1 (by omega),hx.2.2.2.2.2.2.1.up (by omega),Nat.le_trans hx.2.2.2.2.2.2.2 (by omega)⟩;have bD:=hid bz;have ad:=iN 33 7;have ae:=iN 43 17;clear hc ht hX hY hx bz;obtain⟨W4,aV⟩: ∃ W4,W4=((((w.alloc (.cells (zC c A).toArray 33)).alloc (.cells (zX x X k Y n).toArray 43)).alloc (.cells #[i6 0,i6 0,sN,sN,sN,sN,sN] 33)).alloc (.cells #[i6 0] 45)):=⟨_,rfl⟩
 obtain⟨p0,x0,q0,e0,hb⟩:=Hv w _ _ _ _ _ _ _ _ W4 aV;have D:=hid p0;have d:=hid x0;have m:=hid q0;have C:=hid e0;have u:=hid hb;clear p0 x0 q0 e0 hb;unfold Cm.cs Ca.cs;go_enter_defers func9,ntmps9
 go_wp2_with (first | (refine lO D ad underlying33 ?_) | fail);try (rw [<-aV])
 clear aV;have bi:Hid (UH W4 W4.heap.size c A):=hid (HC.o.later u.o);have cC:=KT c A W4 bi.o ar.o;unfold Ca.cs at cC;refine cC.mono ?_
 rintro e W5 ⟨rfl,hb⟩;clear cC;have J:=bl D hb;have G:=bl d hb;have K:=bl m hb;have I:=bl C hb;have F:=bt u hb;clear hb D d m C u;have D:=J;have d:=G;have m:=K;have C:=I;have u:=F;clear J G K I F;clear bi;by_cases h1:Xy c=0
 case neg=>
  go_wp2_with fail;have cM:=YE (Xy c) W5;rw [if_neg h1] at cM;refine cM.mono ?_
  rintro e W9 ⟨rfl,rfl⟩;refine XW _ _ w.heap.size (w.heap.size+1+1) (w.heap.size+1+1+1) (Xy c) _ 0 _ (by simp) (by simp) (by simp [go_sem]) m rfl C (by omega) (by omega) (by omega) (fun w' ab=> ?_)
  exact⟨Xy c,Ca.zero,Wd.zero,rfl,Or.inl ⟨by rw [Ep h1];exact h1,(Ep h1).symm⟩,fun h=>absurd h h1,u.o.trans ab⟩
 rw [h1];have H1:=hid h1;go_wp2_with fail;have cM:=YE 0 W5;rw [if_pos rfl] at cM;refine cM.mono ?_
 rintro e W6 ⟨rfl,rfl⟩;clear cM h1;go_wp2_with (first | (refine lO d ae underlying43 ?_) | fail);have cY:=Gk x X k Y n W6 bo.o;unfold Cm.cs at cY;refine cY.mono ?_
 rintro e W7 ⟨rfl,hb⟩;clear cY;have J:=bl D hb;have G:=bl d hb;have K:=bl m hb;have I:=bl C hb;have F:=bt u hb;clear hb D d m C u;have D:=J;have d:=G;have m:=K;have C:=I;have u:=F;clear J G K I F
 cases h2:TC x
 case false=>
  go_wp2_with fail;refine(Ym false 90 W7).mono ?_
  rintro e W9 ⟨rfl,rfl⟩;refine XW _ _ w.heap.size (w.heap.size+1+1) (w.heap.size+1+1+1) 90 _ 0 _ (by simp) (by simp) (by simp [go_sem]) m rfl C (by omega) (by omega) (by omega) (fun w' ab=> ?_)
  exact⟨90,Ca.zero,Wd.zero,rfl,Or.inl ⟨by rw [Eo H1.o h2];decide,(Eo H1.o h2).symm⟩,fun h=>absurd h (by decide),u.o.trans ab⟩
 have H2:=hid h2;clear h2;go_wp2_with fail;refine(Ym true 90 W7).mono ?_
 rintro e W8 ⟨rfl,rfl⟩;have q4:=ce D 4;have r1:=ce d 1;have bK:=ar.o.2.1.1;go_wp2_with fail;refine(Zf c.ro.ZU A.a2 A.k2 x.ZH W8 (HC.o.later u.o).nm bK).mono ?_
 rintro e bp ⟨rfl,rfl⟩;clear q4 r1
 cases h3:c.ro.ZU.contains x.ZH
 case false=>
  go_wp2_with fail;refine(Ym false 71 bp).mono ?_
  rintro e W9 ⟨rfl,rfl⟩;refine XW _ _ w.heap.size (w.heap.size+1+1) (w.heap.size+1+1+1) 71 _ 0 _ (by simp) (by simp) (by simp [go_sem]) m rfl C (by omega) (by omega) (by omega) (fun w' ab=> ?_)
  exact⟨71,Ca.zero,Wd.zero,rfl,Or.inl ⟨by rw [En H1.o H2.o h3];decide,(En H1.o H2.o h3).symm⟩,fun h=>absurd h (by decide),u.o.trans ab⟩
 have H3:=hid h3;clear h3;go_wp2_with fail;refine(Ym true 71 bp).mono ?_
 rintro e bF ⟨rfl,rfl⟩;have HS:Hid (U7 c x=(x.Z9 == [] || x.ZV == 1 || c.ob.Z7.any fun s=>s.name == x.Z9)):=hid rfl;have bm:Hid (U6 c x=if x.ZZ= []∨x.ZV=3 then 0 else Sk c.ob x.Z9 x.ZZ):=hid rfl;go_upto_region 5 with fail
 have r2:=ce d 2;have r0:=ce d 0;go_cut [29] from 6 to 91 (fun v W=> ∃ b,v= .bool b/\Hid (b=(!(x.Z9 == []) && !(x.ZV == 1)))/\Hid (W=bF))
 case first=>
  cases hs:(x.Z9 == [])
  ·have aZ:x.Z9.isEmpty=false:=by simpa using hs
   have a6:(x.Z9 != [])=true:=by simpa using hs
   cases hk:(x.ZV == 1)
   ·have aY:(x.ZV != 1)=true:=by simpa using hk
    go_wp2;go_meet
    case rel=>exact⟨true,rfl,hid (by rw [hs,hk];rfl),hid rfl⟩
   ·have aY:(x.ZV != 1)=false:=by simpa using hk
    go_wp2;go_meet
    case rel=>exact⟨false,rfl,hid (by rw [hs,hk];rfl),hid rfl⟩
  ·have aZ:x.Z9.isEmpty=true:=by simpa using hs
   have a6:(x.Z9 != [])=false:=by simpa using hs
   go_wp2;go_meet
   case rel=>exact⟨false,rfl,hid (by rw [hs];rfl),hid rfl⟩
 case rest=>
 clear r2 r0;obtain⟨b,rfl,ag,aH⟩:=hcut;have aW:=aH.o;subst aW;clear aH;go_upto_if 29 with fail
 go_cut [] from 6 to 91 (fun W=>Hid (ZP W w.heap.size 33 (zC c A))/\Hid (ZP W (w.heap.size+1) 43 (zX x X k Y n))/\Hid (ZP W (w.heap.size+1+1) 33 [i6 0,i6 0,sN,sN,sN,sN,sN])/\Hid (ZP W (w.heap.size+1+1+1) 45 [i6 0])/\Hid (Bw w W)/\Hid (U7 c x=true))
 case first=>
  cases b
  ·go_wp2;go_meet
   case rel=>exact⟨D,d,m,C,u,hid (FO ag.o)⟩
  ·have aQ:Hid (U7 c x=c.ob.Z7.any fun s=>s.name == x.Z9):=hid (FN ag.o);clear HS ag;have q2:=ce D 2;have bM:=ar.o.1.1;go_wp2_with fail;have cH:=Kt c.ob.Z7 A.a0 A.k0 (w.heap.size+1) x.Z9 wc (HC.o.later u.o).sc bM d.o rfl;refine cH.mono ?_
   rintro e bq ⟨rfl,hb⟩;clear cH q2;have J:=bl D hb;have G:=bl d hb;have K:=bl m hb;have I:=bl C hb;have F:=bt u hb;clear hb D d m C u;have D:=J;have d:=G;have m:=K;have C:=I;have u:=F;clear J G K I F;rw [<-aQ.o]
   cases h4:U7 c x
   case false=>
    go_wp2_with fail;refine(Ym false 61 bq).mono ?_
    rintro e W9 ⟨rfl,rfl⟩;refine XW _ _ w.heap.size (w.heap.size+1+1) (w.heap.size+1+1+1) 61 _ 0 _ (by simp) (by simp) (by simp [go_sem]) m rfl C (by omega) (by omega) (by omega) (fun w' ab=> ?_)
    exact⟨61,Ca.zero,Wd.zero,rfl,Or.inl ⟨by rw [Em H1.o H2.o H3.o h4];decide,(Em H1.o H2.o H3.o h4).symm⟩,fun h=>absurd h (by decide),u.o.trans ab⟩
   have H4:=hid h4;clear h4;go_wp2_with fail;refine(Ym true 61 bq).mono ?_
   rintro e bU ⟨rfl,rfl⟩;go_wp2;go_meet
   case rel=>exact⟨D,d,m,C,u,H4⟩
 case rest=>
 clear HS ag D d m C u;obtain⟨D,d,m,C,u,H4⟩:=hcut;generalize wc=W14 at*;go_upto_region 7 with fail
 have r2:=ce d 3;have r0:=ce d 0;go_cut [43] from 6 to 91 (fun v W=> ∃ b,v= .bool b/\Hid (b=(!(x.ZZ == []) && !(x.ZV == 3)))/\Hid (W=W14))
 case first=>
  cases hs:(x.ZZ == [])
  ·have aZ:x.ZZ.isEmpty=false:=by simpa using hs
   have a6:(x.ZZ != [])=true:=by simpa using hs
   cases hk:(x.ZV == 3)
   ·have aY:(x.ZV != 3)=true:=by simpa using hk
    go_wp2;go_meet
    case rel=>exact⟨true,rfl,hid (by rw [hs,hk];rfl),hid rfl⟩
   ·have aY:(x.ZV != 3)=false:=by simpa using hk
    go_wp2;go_meet
    case rel=>exact⟨false,rfl,hid (by rw [hs,hk];rfl),hid rfl⟩
  ·have aZ:x.ZZ.isEmpty=true:=by simpa using hs
   have a6:(x.ZZ != [])=false:=by simpa using hs
   go_wp2;go_meet
   case rel=>exact⟨false,rfl,hid (by rw [hs];rfl),hid rfl⟩
 case rest=>
 clear r2 r0;obtain⟨b,rfl,ag,aH⟩:=hcut;have aW:=aH.o;subst aW;clear aH;go_upto_if 43 with fail
 go_cut [] from 6 to 91 (fun W=>Hid (ZP W w.heap.size 33 (zC c A))/\Hid (ZP W (w.heap.size+1) 43 (zX x X k Y n))/\Hid (ZP W (w.heap.size+1+1) 33 [i6 0,i6 0,sN,sN,sN,sN,sN])/\Hid (ZP W (w.heap.size+1+1+1) 45 [i6 0])/\Hid (Bw w W)/\Hid (U6 c x=0))
 case first=>
  cases b
  ·go_wp2;go_meet
   case rel=>exact⟨D,d,m,C,u,hid (FM ag.o)⟩
  ·have aQ:Hid (U6 c x=Sk c.ob x.Z9 x.ZZ):=hid (FL ag.o);clear bm ag;have q2:=ce D 2;have q3:=ce D 3;have r2:=ce d 2;have r3:=ce d 3;go_wp2_with fail;refine(TL c.ob A.a0 A.k0 A.a1 A.k1 x.Z9 x.ZZ wc (HC.o.later u.o).sc (HC.o.later u.o).tb ar.o.1).mono ?_
   rintro e bG ⟨t',X',k',Y',n',er,rfl,bA,hb,_⟩;clear q2 q3 r2 r3;have aM:Hid (er=U6 c x):=hid (bA.trans aQ.o.symm);clear bA;unfold Tb.cs;have J:=bl D hb;have G:=bl d hb;have K:=bl m hb;have I:=bl C hb;have F:=bt u hb;clear hb D d m C u;have D:=J;have d:=G;have m:=K;have C:=I;have u:=F;clear J G K I F;go_wp2_with fail;refine Zi _ fun aR hW=> ?_
   have aC:Hid (Bw bG aR):=hid (by rw [hW];repeat (first | exact Below.refl _ _ | refine Below.setCell ?_ lr _ | refine Below.alloc ?_ lr _));clear hW;have hb:=aC.o;clear aC;have J:=bl D hb;have G:=bl d hb;have K:=bl m hb;have I:=bl C hb;have F:=bt u hb;clear hb D d m C u;have D:=J;have d:=G;have m:=K;have C:=I;have u:=F;clear J G K I F;by_cases h5:er=0
   case neg=>
    have cM:=YE er aR;rw [if_neg h5] at cM;refine cM.mono ?_
    rintro e W9 ⟨rfl,rfl⟩;have aU:U6 c x≠0:=by rw [<-aM.o];exact h5
    refine XW _ _ w.heap.size (w.heap.size+1+1) (w.heap.size+1+1+1) er _ 0 _ (by simp) (by simp) (by simp [go_sem]) m rfl C (by omega) (by omega) (by omega) (fun w' ab=> ?_)
    exact⟨er,Ca.zero,Wd.zero,rfl,Or.inl ⟨by rw [El H1.o H2.o H3.o H4.o aU];exact aU,by rw [El H1.o H2.o H3.o H4.o aU,aM.o]⟩,fun h=>absurd h h5,u.o.trans ab⟩
   subst h5;have cM:=YE 0 aR;rw [if_pos rfl] at cM;refine cM.mono ?_
   rintro e bV ⟨rfl,rfl⟩;clear cM;go_wp2;go_meet
   case rel=>exact⟨D,d,m,C,u,hid aM.o.symm⟩
 case rest=>
 clear bm ag D d m C u;obtain⟨D,d,m,C,u,H5⟩:=hcut;generalize wc=W18 at*;go_wp2_with (first | (refine lO D ad underlying33 ?_) | (refine lO d ae underlying43 ?_) | fail);have cA:=My c A x X k Y n W18 (HC.o.later u.o) ar.o (I8 H2.o H4.o);unfold Ca.cs Cm.cs at cA;refine cA.mono ?_
 rintro e bs ⟨rfl,hb⟩;clear cA;have J:=bl D hb;have G:=bl d hb;have K:=bl m hb;have I:=bl C hb;have F:=bt u hb;clear hb D d m C u;have D:=J;have d:=G;have m:=K;have C:=I;have u:=F;clear J G K I F
 cases h6:Vh c x
 case false=>
  go_wp2_with fail;refine(Ym false 91 bs).mono ?_
  rintro e W9 ⟨rfl,rfl⟩;refine XW _ _ w.heap.size (w.heap.size+1+1) (w.heap.size+1+1+1) 91 _ 0 _ (by simp) (by simp) (by simp [go_sem]) m rfl C (by omega) (by omega) (by omega) (fun w' ab=> ?_)
  exact⟨91,Ca.zero,Wd.zero,rfl,Or.inl ⟨by rw [pre6 H1.o H2.o H3.o H4.o H5.o h6];decide,(pre6 H1.o H2.o H3.o H4.o H5.o h6).symm⟩,fun h=>absurd h (by decide),u.o.trans ab⟩
 have af:Hid (Vt c x=0):=hid (DA H1.o H2.o H3.o H4.o H5.o h6);clear h6;go_wp2_with fail;refine(Ym true 91 bs).mono ?_
 rintro e bH ⟨rfl,rfl⟩;go_wp2_with (first | (refine lO D ad underlying33 ?_) | fail);have cO:=H9 c A bH (HC.o.later u.o) ar.o;unfold Ca.cs at cO;refine cO.mono ?_
 rintro e bW ⟨A1,rfl,hT,hb⟩;have ac:=hid hT;clear cO hT;have J:=bl D hb;have G:=bl d hb;have K:=bl m hb;have I:=bl C hb;have F:=bt u hb;clear hb D d m C u;have D:=J;have d:=G;have m:=K;have C:=I;have u:=F;clear J G K I F;go_wp2_with (first | ((with_reducible refine Zv rfl 33 _ _ rfl (w.heap.size+1+1) (Ca.cs c A1) rfl rfl m (n:=7) rfl rfl ad (by simp [Ca.cs,Value.oneCell']) ?_);intro bu U;have G:=hid (U.o.other d.o (by omega))) | (refine lO G ae underlying43 ?_) | fail);have J:=hid (U.o.other D.o (by omega));have I:=hid (U.o.other C.o (by omega));have F:Hid (Bw w bu):=hid (U.o.below u.o (by omega));have K:=hid U.o.YK;have V:=hid (ac.o.keeps U.o.keeps (by decide));have bL:=K.o.lt;clear U D d m C u ac;have cD:=DG c A1 x X k Y n (w.heap.size+1+1) bu K.o V.o ar.o (HX.o.later F.o) (HY.o.later F.o) bo.o bD.o (FR H2.o);unfold Cm.cs at cD;refine cD.mono ?_
 rintro e bv ⟨aJ,hd⟩;clear cD;have D:=hid (aJ.YK J.o J.o.lt (fun q=>by injection q with q;omega))
 have d:=hid (aJ.YK G.o G.o.lt (fun q=>by injection q with q;omega));have C:=hid (aJ.YK I.o I.o.lt (fun q=>by injection q with q;omega))
 have u:Hid (Bw w bv):=hid (F.o.trans (aJ.low (by omega) (fun q hq=>by injection hq with hq;omega)));clear aJ J G I F K V bL;rcases hd with ⟨c1,j,rfl,hR,hB,hT⟩ | ⟨E,c1,h0,rfl,hR,vs,hB,bS⟩
 case inr=>
  have QE:=hid hB;refine XW _ _ w.heap.size (w.heap.size+1+1) (w.heap.size+1+1+1) E vs 0 _ (by simp) (by simp) (by simp [go_sem]) QE bS C (by omega) (by omega) (by omega) (fun w' ab=> ?_)
  exact⟨E,Ca.zero,Wd.zero,rfl,Or.inr (Or.inl ⟨af.o,h0,c1,hR⟩),fun h=>absurd h h0,u.o.trans ab⟩
 have HR:=hid hR;have m:=hid hB;have ac:=hid hT;have bB:=F2 hR;clear hR hB hT;obtain⟨bX,bT,O,T,aI⟩:=c1;dsimp only at bB;obtain⟨rfl,rfl⟩:=bB;have aG:Hid ((⟨c.ZO,c.ZR,O,T,aI⟩:Ca).Zo 1099511627776):=hid (Ca.Zo.up (JC (M:=549755813888) (by omega) (QL (TY (Un H1.o).1).1) bE.o HR.o) (by omega));obtain⟨_,bI,bJ,bN,bO⟩:=Un H1.o;have ah:Hid (Sa c x= !(decide (c.ZR<1000000000) && (!Ul x || decide (c.ZO<1000)))):=hid rfl;obtain⟨fx,aL⟩: ∃ fx,fx=Ul x:=⟨_,rfl⟩
 rw [<-aL] at ah;have bj:=hid aL;have cF:Hid (∀ W,cQ 36 #[.agg (zX x X k Y n).toArray] W fun e w'=>e= .returned (.bool fx)/\Bw W w'):=hid (fun W=>by rw [aL];exact KJ x X k Y n W);clear aL;have v1:=ce D 1;have v0:=ce D 0;by_cases hv:c.ZR<1000000000
 case neg=>
  have aa:Hid (Sa c x=true):=hid (by rw [ah.o];simp [hv]);clear ah;go_wp2_with fail;refine(Ym false 92 bv).mono ?_
  rintro e W9 ⟨rfl,rfl⟩;refine XW _ _ w.heap.size (w.heap.size+1+1) (w.heap.size+1+1+1) 92 _ 0 _ (by simp) (by simp) (by simp [go_sem]) m rfl C (by omega) (by omega) (by omega) (fun w' ab=> ?_)
  exact⟨92,Ca.zero,Wd.zero,rfl,Or.inr (Or.inr (Or.inl ⟨af.o,aa.o,rfl⟩)),fun h=>absurd h (by decide),u.o.trans ab⟩
 cases fx
 ·have a7:=ce d 0;have a8:=ce d 1;have ba:=ce d 2;have bb:=ce d 3;have bc:=ce d 4;have bd:=ce d 5;have be:=ce d 6;have bf:=ce d 7;have bg:=ce d 8;have bh:=ce d 9;have av:=ce d 10;have aw:=ce d 11;have ax:=ce d 12;have ay:=ce d 13;have az:=ce d 14;have aA:=ce d 15;have aB:=ce d 16;go_wp2_with fail;clear a7 a8 ba bb bc bd be bf bg bh av aw ax ay az aA aB;refine(cF.o _).mono ?_
  rintro e aK ⟨rfl,hb⟩;have V:=hid (ac.o.later hb);clear ac;have ac:=V;clear V v0 v1;have J:=bl D hb;have G:=bl d hb;have K:=bl m hb;have I:=bl C hb;have F:=bt u hb;clear hb D d m C u;have D:=J;have d:=G;have m:=K;have C:=I;have u:=F;clear J G K I F;have aa:Hid (Sa c x=false):=hid (by rw [ah.o];simp [hv]);clear ah;go_wp2_with fail;refine(Ym true 92 aK).mono ?_
  rintro e aS ⟨rfl,rfl⟩;skip
  go_wp2_with (first | (refine lO m ad underlying33 ?_) | fail);have au:=Pq ⟨c.ZO,c.ZR,O,T,aI⟩ j aS ac.o.VE aG.o;unfold Ca.cs at au;refine au.mono ?_
  rintro e Z ⟨l,L,N,rfl,hp,ho,hb⟩;clear au;have aP:=hid hp;have aE:=hid ho;have V:=hid (ac.o.later hb);clear ac hp ho;have J:=bl D hb;have G:=bl d hb;have K:=bl m hb;have I:=bl C hb;have F:=bt u hb;clear hb D d m C u;have D:=J;have d:=G;have m:=K;have C:=I;have u:=F;clear J G K I F;have Qa:Hid (ZP (Z.setCell (aD (w.heap.size+1+1) 6) (sl L l N)) (w.heap.size+1+1) 33 [i6 c.ZO,i6 c.ZR,sl j.a0 O.Z7 j.k0,sl j.a1 O.Z8 j.k1,sl j.a2 T.ZU j.k2,sl j.a3 T.ZY j.k3,sl L l N]):=hid (m.o.Zx 6 _);have Qb:Hid (ZP ((Z.setCell (aD (w.heap.size+1+1) 6) (sl L l N)).setCell (aD (w.heap.size+1+1) 1) (i6 (c.ZR+1))) (w.heap.size+1+1) 33 [i6 c.ZO,i6 (c.ZR+1),sl j.a0 O.Z7 j.k0,sl j.a1 O.Z8 j.k1,sl j.a2 T.ZU j.k2,sl j.a3 T.ZY j.k3,sl L l N]):=hid (Qa.o.Zx 1 _);have e6:=ce m 6;have f6:=m.o.frozen 6;have e1:(Z.setCell (aD (w.heap.size+1+1) 6) (sl L l N)).cell? (aD (w.heap.size+1+1) 1)=some (i6 c.ZR):=Qa.o.cell 1;have f1:=Qa.o.frozen 1;have Xb:Hid (ZP ((Z.setCell (aD (w.heap.size+1+1) 6) (sl L l N)).setCell (aD (w.heap.size+1+1) 1) (i6 (c.ZR+1))) (w.heap.size+1) 43 (zX x X k Y n)):=hid ((d.o.WT (by dsimp only;omega) _).WT (by dsimp only;omega) _)
  have Eb:Hid (ZP ((Z.setCell (aD (w.heap.size+1+1) 6) (sl L l N)).setCell (aD (w.heap.size+1+1) 1) (i6 (c.ZR+1))) (w.heap.size+1+1+1) 45 [i6 0]):=hid ((C.o.WT (by dsimp only;omega) _).WT (by dsimp only;omega) _);have am:Hid (Below w.heap.size w ((Z.setCell (aD (w.heap.size+1+1) 6) (sl L l N)).setCell (aD (w.heap.size+1+1) 1) (i6 (c.ZR+1)))):=hid ((u.o.setCell (by dsimp only;omega) _).setCell (by dsimp only;omega) _)
  have ap:Hid (ZS [33] Z ((Z.setCell (aD (w.heap.size+1+1) 6) (sl L l N)).setCell (aD (w.heap.size+1+1) 1) (i6 (c.ZR+1)))):=hid ((ZS.Zx m.o.Xr (by simp) _).trans (ZS.Zx (m.o.Xr.setCell _ _) (by simp) _));have aq:=hid (V.o.keeps ap.o (by decide));have ao:=hid (aE.o.keeps ap.o (by decide));go_wp2_with (first | (refine lO Xb ae underlying43 ?_) | fail);clear e6 f6 e1 f1 V aE ap Qa m d C D u;refine Zi _ fun aT hW=> ?_
  rw [<-hW] at Qb Xb Eb am aq ao;clear hW;refine(cF.o aT).mono ?_
  rintro e ak ⟨rfl,hb⟩;have m:=bl Qb hb;have C:=bl Eb hb;have u:=bt am hb;have V:=hid (aq.o.later hb);have aF:=hid (ao.o.ZC hb);clear hb Qb Eb Xb am aq ao cF;have an:Hid (∀ W,ZS [33,45] ak W->Ta W ⟨c.ZO,c.ZR+1,O,T,l⟩ ⟨j.a0,j.k0,j.a1,j.k1,j.a2,j.k2,j.a3,j.k3,L,N⟩):=hid (fun W hk=>by
   have aj:=V.o.keeps hk (by decide);exact⟨aj.sc,aj.tb,aj.nm,aj.mb,Xn (us:=CT) (aF.o.keeps hk (by decide))⟩)
  clear V aF;go_wp2_with (first | (refine lO m ad underlying33 ?_) | ((refine sO m ad ?_);intro ai U;have Ed:=hid (U.o.other C.o (by omega));have g0:ai.cell? (aD (w.heap.size+1+1+1) 0)=some (i6 0):=Ed.o.cell 0;have g1:ai.frozen? (aD (w.heap.size+1+1+1) 0)=false:=Ed.o.frozen 0) | fail);have Qd:Hid (ZP (ai.setCell (aD (w.heap.size+1+1+1) 0) (i6 0)) (w.heap.size+1+1) 33 [i6 c.ZO,i6 (c.ZR+1),sl j.a0 O.Z7 j.k0,sl j.a1 O.Z8 j.k1,sl j.a2 T.ZU j.k2,sl j.a3 T.ZY j.k3,sl L l N]):=hid (U.o.YK.WT (by dsimp only;omega) _)
  have Ee:Hid (ZP (ai.setCell (aD (w.heap.size+1+1+1) 0) (i6 0)) (w.heap.size+1+1+1) 45 [i6 0]):=hid (Ed.o.Zx 0 _);refine leaves_cons (f:=25) (args:= #[pT (w.heap.size+1+1),pT (w.heap.size+1+1+1)]) (by simp) (by simp [go_sem]) ?_
  refine(Qf _ _ _).mono ?_
  rintro e u' w'' ⟨rfl,rfl,rfl⟩;refine⟨_,Ri Tryz.results9 _ _ (w.heap.size+1+1) (w.heap.size+1+1+1) (by simp) (by simp) Qd rfl underlying33 rfl ad (SL _ (w.heap.size+1+1+1) 0 (Ee.o.cell 0)),?_⟩
  refine⟨0,⟨c.ZO,c.ZR+1,O,T,l⟩,⟨j.a0,j.k0,j.a1,j.k1,j.a2,j.k2,j.a3,j.k3,L,N⟩,rfl,Or.inr (Or.inr (Or.inr ⟨rfl,af.o,aa.o,⟨c.ZO,c.ZR,O,T,aI⟩,l,HR.o,aP.o,?_⟩)),fun _=>an.o _ ?_,?_⟩
  ·rw [if_neg (by rw [<-bj.o];simp)];simp
  ·exact(U.o.keeps.X6 (by simp)).trans (ZS.Zx Ed.o.Xr (by simp) _)
  ·exact(U.o.below u.o (by omega)).setCell (by dsimp only;omega) _
 ·have a7:=ce d 0;have a8:=ce d 1;have ba:=ce d 2;have bb:=ce d 3;have bc:=ce d 4;have bd:=ce d 5;have be:=ce d 6;have bf:=ce d 7;have bg:=ce d 8;have bh:=ce d 9;have av:=ce d 10;have aw:=ce d 11;have ax:=ce d 12;have ay:=ce d 13;have az:=ce d 14;have aA:=ce d 15;have aB:=ce d 16;go_wp2_with fail;clear a7 a8 ba bb bc bd be bf bg bh av aw ax ay az aA aB;refine(cF.o _).mono ?_
  rintro e aK ⟨rfl,hb⟩;have V:=hid (ac.o.later hb);clear ac;have ac:=V;clear V v0 v1;have J:=bl D hb;have G:=bl d hb;have K:=bl m hb;have I:=bl C hb;have F:=bt u hb;clear hb D d m C u;have D:=J;have d:=G;have m:=K;have C:=I;have u:=F;clear J G K I F;have v0:=ce D 0;by_cases he:c.ZO<1000
  case neg=>
   have aa:Hid (Sa c x=true):=hid (by rw [ah.o];simp [he]);clear ah;go_wp2_with fail;refine(Ym _ 92 aK).mono ?_
   rintro e W9 ⟨aX,rfl⟩;obtain rfl:e= .panicked (Sl 92):=by rw [aX,decide_eq_false (show ¬ c.ZO<1000 by omega)];rfl
   refine XW _ _ w.heap.size (w.heap.size+1+1) (w.heap.size+1+1+1) 92 _ 0 _ (by simp) (by simp) (by simp [go_sem]) m rfl C (by omega) (by omega) (by omega) (fun w' ab=> ?_)
   exact⟨92,Ca.zero,Wd.zero,rfl,Or.inr (Or.inr (Or.inl ⟨af.o,aa.o,rfl⟩)),fun h=>absurd h (by decide),u.o.trans ab⟩
  have aa:Hid (Sa c x=false):=hid (by rw [ah.o];simp [he,hv]);clear ah;go_wp2_with fail;refine(Ym _ 92 aK).mono ?_
  rintro e aS ⟨aX,rfl⟩;obtain rfl:e= .returned (.tuple #[]):=by rw [aX];first | rfl | (rw [decide_eq_true (show c.ZO<1000 by omega)];rfl)
  go_wp2_with (first | (refine lO m ad underlying33 ?_) | fail);have au:=Pq ⟨c.ZO,c.ZR,O,T,aI⟩ j aS ac.o.VE aG.o;unfold Ca.cs at au;refine au.mono ?_
  rintro e Z ⟨l,L,N,rfl,hp,ho,hb⟩;clear au;have aP:=hid hp;have aE:=hid ho;have V:=hid (ac.o.later hb);clear ac hp ho;have J:=bl D hb;have G:=bl d hb;have K:=bl m hb;have I:=bl C hb;have F:=bt u hb;clear hb D d m C u;have D:=J;have d:=G;have m:=K;have C:=I;have u:=F;clear J G K I F;have Qa:Hid (ZP (Z.setCell (aD (w.heap.size+1+1) 6) (sl L l N)) (w.heap.size+1+1) 33 [i6 c.ZO,i6 c.ZR,sl j.a0 O.Z7 j.k0,sl j.a1 O.Z8 j.k1,sl j.a2 T.ZU j.k2,sl j.a3 T.ZY j.k3,sl L l N]):=hid (m.o.Zx 6 _);have Qb:Hid (ZP ((Z.setCell (aD (w.heap.size+1+1) 6) (sl L l N)).setCell (aD (w.heap.size+1+1) 1) (i6 (c.ZR+1))) (w.heap.size+1+1) 33 [i6 c.ZO,i6 (c.ZR+1),sl j.a0 O.Z7 j.k0,sl j.a1 O.Z8 j.k1,sl j.a2 T.ZU j.k2,sl j.a3 T.ZY j.k3,sl L l N]):=hid (Qa.o.Zx 1 _);have e6:=ce m 6;have f6:=m.o.frozen 6;have e1:(Z.setCell (aD (w.heap.size+1+1) 6) (sl L l N)).cell? (aD (w.heap.size+1+1) 1)=some (i6 c.ZR):=Qa.o.cell 1;have f1:=Qa.o.frozen 1;have Xb:Hid (ZP ((Z.setCell (aD (w.heap.size+1+1) 6) (sl L l N)).setCell (aD (w.heap.size+1+1) 1) (i6 (c.ZR+1))) (w.heap.size+1) 43 (zX x X k Y n)):=hid ((d.o.WT (by dsimp only;omega) _).WT (by dsimp only;omega) _)
  have Eb:Hid (ZP ((Z.setCell (aD (w.heap.size+1+1) 6) (sl L l N)).setCell (aD (w.heap.size+1+1) 1) (i6 (c.ZR+1))) (w.heap.size+1+1+1) 45 [i6 0]):=hid ((C.o.WT (by dsimp only;omega) _).WT (by dsimp only;omega) _);have am:Hid (Below w.heap.size w ((Z.setCell (aD (w.heap.size+1+1) 6) (sl L l N)).setCell (aD (w.heap.size+1+1) 1) (i6 (c.ZR+1)))):=hid ((u.o.setCell (by dsimp only;omega) _).setCell (by dsimp only;omega) _)
  have ap:Hid (ZS [33] Z ((Z.setCell (aD (w.heap.size+1+1) 6) (sl L l N)).setCell (aD (w.heap.size+1+1) 1) (i6 (c.ZR+1)))):=hid ((ZS.Zx m.o.Xr (by simp) _).trans (ZS.Zx (m.o.Xr.setCell _ _) (by simp) _));have aq:=hid (V.o.keeps ap.o (by decide));have ao:=hid (aE.o.keeps ap.o (by decide));go_wp2_with (first | (refine lO Xb ae underlying43 ?_) | fail);clear e6 f6 e1 f1 V aE ap Qa m d C D u;refine Zi _ fun aT hW=> ?_
  rw [<-hW] at Qb Xb Eb am aq ao;clear hW;refine(cF.o aT).mono ?_
  rintro e ak ⟨rfl,hb⟩;have m:=bl Qb hb;have C:=bl Eb hb;have u:=bt am hb;have V:=hid (aq.o.later hb);have aF:=hid (ao.o.ZC hb);clear hb Qb Eb Xb am aq ao cF;have e0:=ce m 0;have f0:=m.o.frozen 0;have Qc:Hid (ZP (ak.setCell (aD (w.heap.size+1+1) 0) (i6 (c.ZO+1))) (w.heap.size+1+1) 33 [i6 (c.ZO+1),i6 (c.ZR+1),sl j.a0 O.Z7 j.k0,sl j.a1 O.Z8 j.k1,sl j.a2 T.ZU j.k2,sl j.a3 T.ZY j.k3,sl L l N]):=hid (m.o.Zx 0 _);have Ec:Hid (ZP (ak.setCell (aD (w.heap.size+1+1) 0) (i6 (c.ZO+1))) (w.heap.size+1+1+1) 45 [i6 0]):=hid (C.o.WT (by dsimp only;omega) _)
  have bC:Hid (Below w.heap.size w (ak.setCell (aD (w.heap.size+1+1) 0) (i6 (c.ZO+1)))):=hid (u.o.setCell (by dsimp only;omega) _);have aO:Hid (ZS [33] ak (ak.setCell (aD (w.heap.size+1+1) 0) (i6 (c.ZO+1)))):=hid (ZS.Zx m.o.Xr (by simp) _);have bn:=hid (V.o.keeps aO.o (by decide));have bk:=hid (aF.o.keeps aO.o (by decide));clear V aF aO m C u;have an:Hid (∀ W,ZS [33,45] (ak.setCell (aD (w.heap.size+1+1) 0) (i6 (c.ZO+1))) W->Ta W ⟨c.ZO+1,c.ZR+1,O,T,l⟩ ⟨j.a0,j.k0,j.a1,j.k1,j.a2,j.k2,j.a3,j.k3,L,N⟩):=hid (fun W hk=>by
   have aj:=bn.o.keeps hk (by decide);exact⟨aj.sc,aj.tb,aj.nm,aj.mb,Xn (us:=CT) (bk.o.keeps hk (by decide))⟩)
  clear bn bk;go_wp2_with (first | (refine lO Qc ad underlying33 ?_) | ((refine sO Qc ad ?_);intro ai U;have Ed:=hid (U.o.other Ec.o (by omega));have g0:ai.cell? (aD (w.heap.size+1+1+1) 0)=some (i6 0):=Ed.o.cell 0;have g1:ai.frozen? (aD (w.heap.size+1+1+1) 0)=false:=Ed.o.frozen 0) | fail);have Qd:Hid (ZP (ai.setCell (aD (w.heap.size+1+1+1) 0) (i6 0)) (w.heap.size+1+1) 33 [i6 (c.ZO+1),i6 (c.ZR+1),sl j.a0 O.Z7 j.k0,sl j.a1 O.Z8 j.k1,sl j.a2 T.ZU j.k2,sl j.a3 T.ZY j.k3,sl L l N]):=hid (U.o.YK.WT (by dsimp only;omega) _)
  have Ee:Hid (ZP (ai.setCell (aD (w.heap.size+1+1+1) 0) (i6 0)) (w.heap.size+1+1+1) 45 [i6 0]):=hid (Ed.o.Zx 0 _);refine leaves_cons (f:=25) (args:= #[pT (w.heap.size+1+1),pT (w.heap.size+1+1+1)]) (by simp) (by simp [go_sem]) ?_
  refine(Qf _ _ _).mono ?_
  rintro e u' w'' ⟨rfl,rfl,rfl⟩;refine⟨_,Ri Tryz.results9 _ _ (w.heap.size+1+1) (w.heap.size+1+1+1) (by simp) (by simp) Qd rfl underlying33 rfl ad (SL _ (w.heap.size+1+1+1) 0 (Ee.o.cell 0)),?_⟩
  refine⟨0,⟨(c.ZO+1),c.ZR+1,O,T,l⟩,⟨j.a0,j.k0,j.a1,j.k1,j.a2,j.k2,j.a3,j.k3,L,N⟩,rfl,Or.inr (Or.inr (Or.inr ⟨rfl,af.o,aa.o,⟨c.ZO,c.ZR,O,T,aI⟩,l,HR.o,aP.o,?_⟩)),fun _=>an.o _ ?_,?_⟩
  ·rw [if_pos bj.o.symm]
  ·exact(U.o.keeps.X6 (by simp)).trans (ZS.Zx Ed.o.Xr (by simp) _)
  ·exact(U.o.below bC.o (by omega)).setCell (by dsimp only;omega) _
def Wz:Cm:=⟨1,Yi,[115],[],[],[],[],⟨[],0,[],0,0,[],[],[]⟩,0,false⟩
def UI:Ca:=⟨0,1,⟨[⟨[115],Yi⟩],[]⟩,⟨[Yi],[]⟩,[]⟩
theorem GC:Vt Ca.new Wz=0:=by kernel_rfl
theorem IB:Sa Ca.new Wz=false:=by kernel_rfl
theorem Lq:(Zw Wz.Z9 && Zw Wz.ZH)=true:=by kernel_rfl
theorem Rg:Zc Ca.new.ob=true:=by kernel_rfl
theorem OU:Zc UI.ob=true:=by kernel_rfl
theorem LB {α:Type}{a:α}{l:List α}(h:l.Perm [a]):l= [a]:=List.perm_singleton.1 h
theorem LR (c:Ca)(h:c.Z4= []):Vd c= []:=by
 have:=NZ (c:=c);rw [h] at this;exact List.eq_nil_of_length_eq_zero (by simpa using this)
theorem Nx {m:Int}{D:Ca}(h:Fj Ca.new Wz m D):m=0/\D=UI:=by
 rcases h with ⟨h,_⟩ | ⟨_,h,c1,hd⟩ | ⟨_,h,_⟩ | ⟨h,_,_,c1,l,hd,E,rfl⟩
 ·exact absurd GC h
 ·exfalso
  have s:Fi Ca.new Wz m c1:=hd;obtain⟨F,j,_⟩:=s;unfold MM at j;rw [if_pos Rg] at j;obtain⟨I,C,_⟩:=j;have u:Vk Ca.new.ob Wz.Z9 Wz.ZH m I:=C;rcases u with ⟨_,⟨_,d⟩ | ⟨_,d⟩ | ⟨_,d⟩⟩ | ⟨d,_⟩
  ·rw [Lq] at d;cases d
  ·cases d
  ·exact absurd d (by decide)
  ·exact h d
 ·rw [IB] at h;cases h
 ·refine⟨h,?_⟩
  have s:Fi Ca.new Wz 0 c1:=hd;obtain⟨F,j,rfl⟩:=s;obtain⟨_,C⟩:=TO j;have u:Vk Ca.new.ob Wz.Z9 Wz.ZH 0 F:=C;rcases u with ⟨_,⟨d,_⟩ | ⟨d,_⟩ | ⟨d,_⟩⟩ | ⟨_,_,_,_,_,J,G,_,rfl⟩
  ·cases d
  ·cases d
  ·cases d
  ·have K:J= [⟨[115],Yi⟩]:=LB G;have L:l= []:=by
    rw [LR _ rfl] at E;exact E.eq_nil
   rw [K,L];rfl
theorem Q8 {m:Int}{s:Ca}(h:Fj UI Wz m s):m=60:=by
 have k:∀ m c1,Fi UI Wz m c1->m=60:=by
  intro m c1 ⟨_,j,_⟩;unfold MM at j;rw [if_pos OU] at j;obtain⟨_,C,_⟩:=j;have u:Vk UI.ob Wz.Z9 Wz.ZH m _:=C;rcases u with ⟨_,⟨_,d⟩ | ⟨d,_⟩ | ⟨_,d⟩⟩ | ⟨_,_,_,d,_⟩
  ·rw [Lq] at d;cases d
  ·exact d
  ·exact absurd d (by decide)
  ·rw [show Xd UI.ob.Z7 Wz.Z9=some 0 by kernel_rfl] at d;cases d
 rcases h with ⟨h,_⟩ | ⟨_,h,c,d⟩ | ⟨_,h,_⟩ | ⟨rfl,_,_,c,_,d,_⟩
 ·exact absurd (by kernel_rfl) h
 ·exact k m c d
 ·exact absurd h (by decide)
 ·exact k 0 c d
theorem Ga {c j:Ca}{x:Cm}(h:Fj c x 0 j)(M:Nat)(s:512<=M)(C:x.Zo M):j.Zo M:=by
 rcases h with ⟨h,m⟩ | ⟨_,h,_⟩ | ⟨_,_,h⟩ | ⟨_,h,_,c1,l,hd,u,rfl⟩
 ·exact absurd m.symm h
 ·exact absurd rfl h
 ·cases h
 ·have a:=JC s (QL (TY (Un (NK h).1).1).1) C hd;refine⟨a.1,a.2.1,?_⟩
  have b:=u.length_eq;have d:=NZ (c:=c1);have e:=a.2.2;show l.length<=M;omega
end Go.Proofs.YtnhmoibjlakhjaaGreat
