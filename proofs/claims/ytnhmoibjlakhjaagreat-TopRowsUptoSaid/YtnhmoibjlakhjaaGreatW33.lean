/- Lemmas, each under its own conditions. -/
import Derived.Test.YtnhmoibjlakhjaaGreatW31
import Derived.Test.YtnhmoibjlakhjaaGreatW32
set_option linter.all false
namespace Go.Proofs.YtnhmoibjlakhjaaGreat
open Go.Proofs.Tryz
open Lib (hid)
set_option maxRecDepth 100000
set_option maxHeartbeats 16000000
open Go.RowKit
open Lib (hid)
theorem IT (k n:Int)(b:lU)(w:World):cQ 111 #[.agg #[i6 k,i6 n,sT b]] w fun e w'=>e= .returned (.bool (Qz ⟨k,n,b⟩))/\Bw w w':=by
 have d:Hid (∀ x y,Below w.heap.size w ((w.alloc x).alloc y)):=hid fun x y=>(br.alloc lr _).alloc (by simp) _
 by_cases h2:k=2
 ·subst h2;go_enter func111,ntmps111
  go_wp2
  all_goals go_ret
  all_goals exact⟨by simp_all [Qz,Z2,ByteArray.size] <;> omega,d.o _ _⟩
 by_cases h3:k=3
 ·subst h3;go_enter func111,ntmps111
  go_wp2
  all_goals go_ret
  all_goals exact⟨by simp_all [Qz,Z2,ByteArray.size] <;> omega,d.o _ _⟩
 have h:(k == 2)=false:=by simpa using h2
 have j:(k == 3)=false:=by simpa using h3
 by_cases h1:k=1
 ·subst h1;clear h2 h3 h j;go_enter func111,ntmps111
  go_wp2
  all_goals go_ret
  all_goals exact⟨by simp_all [Qz,Z2,ByteArray.size] <;> omega,d.o _ _⟩
 have s:(k == 1)=false:=by simpa using h1
 have m:Hid (Qz ⟨k,n,b⟩=false):=hid (by simp [Qz,s,h,j]);clear h1 h2 h3;go_enter func111,ntmps111
 go_wp2;go_ret;exact⟨by rw [m.o];rfl,d.o _ _⟩
theorem Ls (v:Vl)(w:World):cQ 111 #[.agg #[i6 v.ZV,i6 v.num,sT v.word]] w fun e w'=>e= .returned (.bool (Qz v))/\Bw w w':=IT v.ZV v.num v.word w
theorem Kb (c:Cl)(p:Nat)(nm:lU)(w:World)(d:ZP w p 9 [sT nm]):
  cQ 121 #[.agg #[sT c.name,i6 c.ZV,.bool c.null],pT p] w fun e w'=>e= .returned (.bool (c.name == nm))/\Bw w w':=by
 have h:Hid (∀ x,Bw w (w.alloc x)):=hid fun x=>br.alloc lr _
 have k0:(w.alloc (.cells #[sT c.name,i6 c.ZV,.bool c.null] 119)).cell? (aD p 0)=some (sT nm):=(d.alloc _).cell 0;clear d;go_enter func121,ntmps121
 go_wp2;go_ret;exact⟨rfl,h.o _⟩
theorem NL (l:List Cl)(A:oA)(k:Nat)(nm:lU)(w:World)(m:rA w Zz (l.map Cl.da) A)(C:l.length<=1099511627776):
  cQ 63 #[.slice A l.length k,sT nm] w fun e w'=>e= .returned (.int .i64 (WS (Y7 l nm)))/\Bw w w':=by
 have s:=hid m;clear m;go_enter func63,ntmps63
 go_wp2_with fail;refine TS w _ (br.alloc lr _) fun j=> ?_
 have h:=Ui (fun d=>tx d 0 == nm) 121 #[pT w.heap.size] (l.map Cl.da) A k (w.alloc (.cells #[sT nm] 9)) (enters_of func121 (by kernel_rfl) rfl) (s.o.later j) (by simpa using C) (by
  intro W d E hb _ D;obtain⟨c,rfl,rfl⟩:=Cl.YG D;exact Kb c w.heap.size nm W ((ZP.new w 9 [sT nm]).below hb (by simp)))
 rw [List.length_map,XL] at h;refine h.mono ?_
 rintro e F ⟨rfl,hb⟩;have u:=hid (j.trans (hb.mono j.size));clear h hb;go_wp2;go_ret;exact⟨rfl,u.o⟩
theorem LU (c:Cl)(v:Vl)(w:World):cQ 120 #[.agg #[sT c.name,i6 c.ZV,.bool c.null],.agg #[i6 v.ZV,i6 v.num,sT v.word]] w fun e w'=>e= .returned (.bool (Sd c v))/\Bw w w':=by
 have u:Hid (Sd c v=(Qz v && (v.ZV == c.ZV || v.ZV == 1))):=hid rfl;generalize Sd c v=res at*;go_enter func120,ntmps120
 go_wp2_with fail;refine Zi _ fun W d=> ?_
 have m:=bQ d;have s:Hid (ZP W w.heap.size 119 [sT c.name,i6 c.ZV,.bool c.null]):=nD d;have C:Hid (ZP W (w.heap.size+1) 64 [i6 v.ZV,i6 v.num,sT v.word]):=nF d;clear d;refine(Ls v W).mono ?_
 rintro e E ⟨rfl,hb⟩;have D:=bt m hb;have h:=bl s hb;have j:=bl C hb;have c1:=ce h 1;have v0:=ce j 0;clear hb m s C h j;generalize Qz v=b1 at*
 cases h2:(v.ZV == c.ZV) <;> cases h3:(v.ZV == 1) <;> cases b1
 all_goals
  rw [h2,h3] at u;go_wp2;go_ret;exact⟨by rw [u.o];rfl,D.o⟩
theorem Hz (c:Cl)(v:Vl)(w:World):cQ 62 #[.agg #[sT c.name,i6 c.ZV,.bool c.null],.agg #[i6 v.ZV,i6 v.num,sT v.word]] w fun e w'=>e= .returned (.bool (NO c v))/\Bw w w':=by
 have h:Hid (∀ x y,Below w.heap.size w ((w.alloc x).alloc y)):=hid fun x y=>(br.alloc lr _).alloc (by simp) _
 have d:Hid (NO c v=(c.null || v.ZV != 1)):=hid rfl;generalize NO c v=res at*
 cases h2:c.null <;> cases h3:(v.ZV != 1)
 all_goals
  rw [h2,h3] at d;go_enter func62,ntmps62
  go_wp2;go_ret;exact⟨by rw [d.o];rfl,h.o _ _⟩
theorem Qe (p:Cl->Vl->Bool)(g:Nat)(a:List Cl)(b:List Vl)(A:oA)(k:Nat)(B:oA)(m:Nat)(w:World)(eg: ∀ args w,(callFunc g args).run prog w= .ok (.enter g args) w)
  (hA:rA w Zz (a.map Cl.da) A) (hB:rA w Zh (b.map Vl.da) B) (hn:a.length<=1099511627776)
  (hp: ∀ (c:Cl) (v:Vl) (W:World),cQ g #[.agg #[sT c.name,i6 c.ZV,.bool c.null],.agg #[i6 v.ZV,i6 v.num,sT v.word]] W fun e w'=>e= .returned (.bool (p c v))/\Bw W w'):
  cQ 61 #[.slice A a.length k,.slice B b.length m,.func (.func g) #[] #[]] w fun e w'=>e= .returned (.bool (XO p a b))/\Bw w w':=by
 have HA:=hid hA;have HB:=hid hB;have HP:=hid hp;clear hA hB hp;by_cases hl:a.length=b.length
 case neg=>
  have N:=hid (GO (p:=p) hl);have s:((a.length:Int) !=(b.length:Int))=true:=by simp only [bne_iff_ne,ne_eq];omega
  go_enter func61,ntmps61
  go_wp2;go_ret;exact⟨by rw [N.o];rfl,Below.refl _ _⟩
 go_enter func61,ntmps61
 have s:((a.length:Int) !=(b.length:Int))=false:=by rw [hl];simp
 have ac:=hid hl;clear hl;go_wp2;clear s;go_loopw [16] (fun i wr=> ∃ j:Nat,j<=a.length/\i=i6 j/\Hid (Bw w wr)/\Hid (XO p a b=XO p (a.drop j) (b.drop j))) (fun i _=>a.length - (intOf i).toNat)
 case atStart=>exact⟨0,Nat.zero_le _,rfl,hid br,hid rfl⟩
 case round=>
  obtain⟨j,hj,rfl,C,D⟩:=hrel;by_cases hlt:j<a.length
  ·have aa:j<b.length:=by rw [<-ac.o];exact hlt
   have ai:(j:Int)< (b.length:Int):=by omega
   obtain⟨ad,vs,rfl,Z,hr⟩:=(HA.o.below C.o).at_ (j:=j) (by simpa using hlt);obtain⟨E,us,rfl,U,T⟩:=(HB.o.below C.o).at_ (j:=j) (by simpa using aa);have J:Hid (XO p a b=(p a[j] b[j] && XO p (a.drop (j+1)) (b.drop (j+1)))):=hid (D.o.trans (Kd hlt aa));rw [List.getElem_map] at Z U;generalize a[j]=c at*;generalize b[j]=v at*;obtain rfl:=Cl.YY Z;obtain rfl:=Vl.YY U;have HG:Hid (∀ i u,([sT c.name,i6 c.ZV,.bool c.null]:lV)[i]?=some u->wr.cell? ((ad.add (j*3)).add i)=some u):=hid fun i u s=>by rw [ZG];exact hr i u s
   have af:Hid ((prog.info? 119).map (·.size)=some ([sT c.name,i6 c.ZV,.bool c.null]:lV).length):=iN _ 3;have ah:(E.add (j*3)).block<wr.heap.size:=by
    have:=World.block_lt_of_cell? wr _ (T 0 _ rfl);simpa [ZL] using this
   have HQ:Hid (∀ W,Bw wr W-> ∀ i u,([i6 v.ZV,i6 v.num,sT v.word]:lV)[i]?=some u->W.cell? ((E.add (j*3)).add i)=some u):=hid fun W h i u s=>(h.cell (by rw [ZL];exact ah)).trans (by rw [ZG];exact T i u s)
   clear Z hr U T;go_upto_region 6 with (first | (with_reducible refine ZK rfl 119 _ rfl (ad.add (j*3)) rfl [sT c.name,i6 c.ZV,.bool c.null] _ HG.o underlying119 rfl af.o ?_) | fail)
   refine Wh _ fun W O=> ?_
   have F:=bP O;have G:=nC O;clear O HG;have M:=G.o.lt;have ag:Hid ((prog.info? 64).map (·.size)=some ([i6 v.ZV,i6 v.num,sT v.word]:lV).length):=iN _ 3;have I:Hid (∀ V,Bw W V->(fun V=>Bw W V/\(V.cell? (aN wr 0)=some (sT c.name)/\V.cell? (aN wr 1)=some (i6 c.ZV)/\V.cell? (aN wr 2)=some (.bool c.null))/\ ∀ i u,([i6 v.ZV,i6 v.num,sT v.word]:lV)[i]?=some u->V.cell? ((E.add (j*3)).add i)=some u) V):=hid fun V h=>⟨h,⟨(G.o.below h M).cell 0,(G.o.below h M).cell 1,(G.o.below h M).cell 2⟩,HQ.o V (F.o.trans (h.mono F.o.size))⟩
   refine wp_region_held_drew (S:=fun V=>Bw W V/\(V.cell? (aN wr 0)=some (sT c.name)/\V.cell? (aN wr 1)=some (i6 c.ZV)/\V.cell? (aN wr 2)=some (.bool c.null))/\ ∀ i u,([i6 v.ZV,i6 v.num,sT v.word]:lV)[i]?=some u->V.cell? ((E.add (j*3)).add i)=some u) (by kernel_rfl) (I.o _ br.drew) (fun d=> ?_)
   (try simp only [pp]);refine tk 0 21 d ?_;refine tk 1 22 d ?_;refine tk 2 23 d ?_;refine tk 3 24 d ?_;refine tk 4 25 d ?_;refine tv 5 26 rfl d (Zg (by rfl) _ _ rfl (E.add (j*3)) rfl [i6 v.ZV,i6 v.num,sT v.word] _ (fun _ h=>h.2.2) underlying64 rfl ag.o) ?_
   refine on 6 27 fun K hK=> ?_
   go_simp;go_at_fn g
   refine(HP.o c v _).mono ?_
   rintro e W2 ⟨rfl,hb⟩;have L:Bw W W2:=(show Bw W W.drew from br.drew).trans hb;have ab:=bt C (F.o.trans (L.mono F.o.size));refine hK.out _ _ (I.o _ L) (fun d=> ?_);clear hK K hb L C;(try simp only [pp])
   refine tk 7 28 d ?_;refine wpAnyH_done (by kernel_rfl) ?_ _
   cases hpc:p c v
   ·have HF:Hid (XO p a b=false):=hid (by rw [J.o,hpc];rfl);clear J D I hpc d;go_wp2;go_ret;exact⟨by rw [HF.o];rfl,ab.o⟩
   ·have ae:Hid (XO p a b=XO p (a.drop (j+1)) (b.drop (j+1))):=hid (by rw [J.o,hpc];rfl);clear J D I hpc d;go_wp2;go_roundw
    case rel=>exact⟨j+1,by omega,by go_num,ab,ae⟩
    case measure=>simp [intOf];omega
  ·obtain rfl:j=a.length:=by omega
   rw [List.drop_length] at D;have N:Hid (XO p a b=true):=hid (by rw [D.o,ac.o,List.drop_length];rfl)
   go_wp2;go_ret;exact⟨by rw [N.o];rfl,C.o⟩
theorem Pv (l:List Cl)(row:List Vl)(A:oA)(k:Nat)(B:oA)(m:Nat)(w:World)(d:rA w Zz (l.map Cl.da) A)(j:rA w Zh (row.map Vl.da) B)(s:l.length<=1099511627776):
  cQ 60 #[.slice A l.length k,.slice B row.length m] w fun e w'=>e= .returned (.bool (XK l row))/\Bw w w':=by
 have h:=Qe Sd 120 l row A k B m w (enters_of func120 (by kernel_rfl) rfl) d j s LU;clear d j;go_enter func60,ntmps60
 go_wp2_with fail;refine h.mono ?_
 rintro e u ⟨rfl,hb⟩;clear h;go_wp2;go_ret;exact⟨rfl,hb⟩
theorem GY {α:Type}(f:α->α)(l:List α)(j:Nat)(d:j<l.length):((l.take j).map f ++l.drop j).set j (f l[j])=(l.take (j+1)).map f ++l.drop (j+1):=by
 have h:((l.take j).map f).length=j:=by simp;omega
 rw [List.set_append_right _ _ (by omega),h,Nat.sub_self,List.drop_eq_getElem_cons d,List.set_cons_zero,List.take_succ_eq_append_getElem d,List.map_append];simp
theorem ZT.Eq {w:World}{S:Nat->Prop}{sh:List Sh}{d:List Da}{g:Nat}{T:TypeId}{h:lV}(s:ZP w g T h)(C:S g)(D:ZE w S sh d h):ZT w S sh [d] (some (aD g 0)):=fun _=>by
 refine⟨_,rfl,C,fun j m hd=> ?_⟩
 cases j with
 | succ j=>cases hd
 | zero=>
  obtain rfl:d=m:=Option.some.inj hd;refine⟨h,D,fun i u E=> ?_⟩
  rw [Nat.zero_mul,Nat.zero_add];rw [Addr.add_mid,Nat.zero_add];exact(s.cell i).trans E
theorem Qr {w:World}{base g n c j f:Nat}{rs:List YH}{m:YH}{u:Value}(h:w.ownsRow base 40 8 (.slice (some (aD g 0)) n c) n (rs.flatMap YH.cs))(E:rs[j]?=some m)(d:(YH.cs m)[f]?=some u):
  w.cell? (aD g (j*8+f))=some u/\w.frozen? (aD g (j*8+f))=false:=by
 obtain⟨F,rfl⟩:=List.getElem?_eq_some_iff.1 E
 obtain⟨_,_,_,s,C⟩:=ZJ h;have D:f<8:=by have:=(List.getElem?_eq_some_iff.1 d).1;rwa [YH.k] at this
 exact⟨C _ _ (by rw [Zl YH.k rs j f F D];exact d),s _⟩
theorem Qq {w:World}{base g n c j:Nat}{rs:List YH}{C:YH}(d:YH)(f:Nat)(u:Value)(h:w.ownsRow base 40 8 (.slice (some (aD g 0)) n c) n (rs.flatMap YH.cs))(F:rs[j]?=some C)(E:f<8)(D:YH.cs d=(YH.cs C).set f u):
  (w.setCell (aD g (j*8+f)) u).ownsRow base 40 8 (.slice (some (aD g 0)) n c) n ((rs.set j d).flatMap YH.cs)/\(rs.set j d)[j]?=some d:=by
 obtain⟨s,rfl⟩:=List.getElem?_eq_some_iff.1 F
 have m:=XG h (i:=j*8+f) (by rw [Zm YH.k];omega) u;rw [X7 YH.k rs j f s E u d D] at m;exact⟨m,by rw [List.getElem?_set_self s]⟩
theorem Jc (t:Tb)(X:oA)(x:Nat)(Y:oA)(y:Nat)(w:World)(hX:rA w Zz (t.Z3.map Cl.da) X)(hY:rA w YF (t.ZW.map Ru.da) Y)(hl:t.ZW.length<=1099511627776):
  cQ 119 #[.agg #[sT t.Z9,sT t.name,sT t.ZN,.slice X t.Z3.length x,.slice Y t.ZW.length y]] w fun e w'=> ∃ A0 k0 A1 k1,e= .returned (.agg #[.slice A0 1 k0,.slice A1 1 k1])/\rA w' Ze ((Uo t).Z7.map Sc.da) A0/\rA w' Zn ((Uo t).Z8.map Tb.da) A1/\Bw w w':=by
 obtain⟨aj,aL,ad,aZ⟩:=Ru.Yn hY;have ab:aj.length=t.ZW.length:=by rw [<-aL,List.length_map]
 have HX:=hid hX;have aU:=hid ad;have M:Hid (∀ r∈aj,rA w [.Z2] (YV r.1.Z3) r.2.1/\Qo r.1):=hid aZ;have aW:=hid aL;have ay:=hid ab;have a8:=iN 73 5;have aR:=iN 26 2;clear hX hY ad aZ aL ab;go_enter func119,ntmps119
 go_wp2_with fail;refine Zi _ fun W G=> ?_
 have HB:=bQ G;have B0:Hid (ZP W w.heap.size 73 [.string ⟨#[115]⟩,.string ⟨#[116]⟩,.string ⟨#[111]⟩,sl X t.Z3 x,sl Y t.ZW y]):=nD G;have B1:Hid (ZP W (w.heap.size+1) 26 [sN,sN]):=nF G;clear G;have hC:=SN Y y aj W (aU.o.later HB.o) (by rw [ay.o];exact hl);rw [ay.o] at hC;refine hC.mono ?_
 rintro e W2 ⟨R,L,rfl,I,hb⟩;have aI:=B1.o.lt;have J:=hid (I.Yp (show w.heap.size+2<=W.heap.size by omega));have ah:=bt HB hb;have B2:=bl B0 hb;have Q2:=bl B1 hb;clear hC hb I HB B0 B1 aI;have q4:=B2.o.cell 4;have f4:=B2.o.frozen 4;go_upto_region 3 with fail
 refine Wh _ fun W3 G=> ?_
 have B3:Hid (ZP W3 w.heap.size 73 [.string ⟨#[115]⟩,.string ⟨#[116]⟩,.string ⟨#[111]⟩,sl X t.Z3 x,sl R t.ZW L]):=rB G (B2.o.Zx 4 _);have Q3:Hid (ZP W3 (w.heap.size+1) 26 [sN,sN]):=rB G (Q2.o.WT (by show _≠w.heap.size;omega) _)
 have ai:Hid (Bw w W3):=rL G (ah.o.setCell lr _);have ag:Hid (W3.ownsRow (w.heap.size+2) 40 8 (sl R t.ZW L) t.ZW.length (aj.flatMap YH.cs)):=hid (Y9 J.o fun k F=>by
  rw [G];exact Below.heap_setCell W2 (aN w 4) _ k (by have:=ZD J.o k F;show k≠w.heap.size;omega))
 clear G q4 f4 B2 Q2 ah J;have q4:=B3.o.cell 4;go_wp2;clear q4;go_loopw [15] (fun i wr=> ∃ (j:Nat) (rs:List YH),j<=t.ZW.length/\i=i6 j/\Hid (Bw w wr)/\Hid (ZP wr w.heap.size 73 [.string ⟨#[115]⟩,.string ⟨#[116]⟩,.string ⟨#[111]⟩,sl X t.Z3 x,sl R t.ZW L])/\Hid (ZP wr (w.heap.size+1) 26 [sN,sN])/\Hid (wr.ownsRow (w.heap.size+2) 40 8 (sl R t.ZW L) t.ZW.length (rs.flatMap YH.cs))/\
  Hid (rs.map (·.1)=(t.ZW.take j).map XR ++t.ZW.drop j)/\Hid (∀ r∈rs,rA w [.Z2] (YV r.1.Z3) r.2.1/\Qo r.1)) (fun i _=>t.ZW.length - (intOf i).toNat)
 case atStart=>exact⟨0,aj,Nat.zero_le _,rfl,ai,B3,Q3,ag,hid (by rw [aW.o];rfl),M⟩
 case round=>
  clear ai B3 Q3 ag M aW aU ay aj;obtain⟨j,rs,hj,rfl,HB,BT,BO,J,T,M⟩:=hrel;have ab:rs.length=t.ZW.length:=by
   have h:=congrArg List.length T.o;simp at h;omega
  by_cases hlt:j<t.ZW.length
  ·have bg:(j:Int)< (t.ZW.length:Int):=by omega
   have aK:j<rs.length:=by omega
   obtain⟨d,bc⟩:=Xi J.o (by omega);subst bc;obtain⟨bh,bi,bd,aY,aX⟩:=ZJ J.o;have ak:=hid aY;have HG:Hid (∀ i u,(YH.cs rs[j])[i]?=some u->wr.cell? (aD d (j*8+i))=some u):=hid fun i u hu=>aX _ u (by rw [Zl YH.k rs j i aK (by have:=(List.getElem?_eq_some_iff.1 hu).1;rw [YH.k] at this;exact this)];exact hu)
   have af:Hid (rs[j].1=t.ZW[j]):=hid (by
    have h:=congrArg (fun l=>l[j]?) T.o;have h1:((t.ZW.take j).map XR).length=j:=by simp;omega
    simp only [List.getElem?_map,List.getElem?_append_right (show ((t.ZW.take j).map XR).length<=j by omega),h1,Nat.sub_self,List.getElem?_drop,Nat.add_zero,List.getElem?_eq_getElem aK,List.getElem?_eq_getElem hlt,Option.map_some,Option.some.injEq] at h;exact h)
   clear bd aY aX;have ac:Hid (rs[j]?=some rs[j]):=hid (List.getElem?_eq_getElem aK);generalize rs[j]=ra at*;obtain⟨r,D,E⟩:=ra;have aV:Hid (wr.rangeAt d (j*8) [sT r.name,i6 r.ZV,sl D r.Z3 E,i6 r.low,i6 r.ZB,sT r.Z9,sT r.ZZ,sT r.key]):=hid fun i u hu=>HG.o i u hu
   have aS:Hid ((prog.info? 40).map (·.size)=some ([sT r.name,i6 r.ZV,sl D r.Z3 E,i6 r.low,i6 r.ZB,sT r.Z9,sT r.ZZ,sT r.key]:lV).length):=iN _ 8;have am:Hid (∀ bk:List YH,True):=hid fun _=>trivial
   go_upto_region 6 with (first | (with_reducible refine wpList_load_mid rfl 40 _ rfl d (j*8) rfl [sT r.name,i6 r.ZV,sl D r.Z3 E,i6 r.low,i6 r.ZB,sT r.Z9,sT r.ZZ,sT r.key] _ aV.o underlying40 rfl aS.o ?_) | fail)
   refine Wh _ fun V G=> ?_
   have ap:=bP G;have E1:=nC G;have T1:=bl BT ap.o;have O1:=bl BO ap.o;have av:=bt HB ap.o;have aq:Hid (V.ownsRow (w.heap.size+2) 40 8 (sl (some (aD d 0)) t.ZW L) t.ZW.length (rs.flatMap YH.cs)):=hid (Y9 J.o fun k F=>ap.o.block k (YB J.o F));clear G aV HB BT BO J ap;generalize wr.heap.size=q at*;have e1:=ce E1 1;have aa:Hid (∀ ra:YH,ra.1=XR t.ZW[j]->(rs.set j ra).map (·.1)=(t.ZW.take (j+1)).map XR ++t.ZW.drop (j+1)):=hid fun ra h=>by rw [List.map_set,T.o,h,GY XR t.ZW j hlt]
   have Z:Hid (XR r=r->rs.map (·.1)=(t.ZW.take (j+1)).map XR ++t.ZW.drop (j+1)):=hid fun h=>by
    have h1:=aa.o (r,D,E) (by rw [<-af.o];exact h.symm);have h2:rs.set j (r,D,E)=rs:=by
     have h3:=(List.getElem?_eq_some_iff.1 ac.o).2;rw [<-h3,List.set_getElem_self]
    rwa [h2] at h1
   cases hk4:(r.ZV == 4)
   ·have ae:=hid (Z.o (by unfold XR;rw [hk4];rfl));clear aa Z T af ac E1 HG ak am;go_wp2;go_roundw
    case rel=>exact⟨j+1,rs,by omega,by go_num,av,T1,O1,aq,ae,M⟩
    case measure=>simp [intOf];omega
   have e5:=ce E1 5;go_wp2_with fail;refine(YI r.Z9 V).mono ?_
   rintro e V2 ⟨rfl,m,rfl⟩;have C:Bw V (V.drewN m):=below_drewN br m;have E2:=bl E1 C;have T2:=bl T1 C;have O2:=bl O1 C;have ah:=bt av C;have ar:Hid ((V.drewN m).ownsRow (w.heap.size+2) 40 8 (sl (some (aD d 0)) t.ZW L) t.ZW.length (rs.flatMap YH.cs)):=hid (Y9 aq.o fun k F=>C.block k (YB aq.o F));clear C E1 T1 O1 av aq e1 e5;generalize V.drewN m=V at*
   cases hn1:Zw r.Z9
   ·have ae:=hid (Z.o (by unfold XR;rw [hk4,hn1];rfl));clear aa Z T af ac E2 HG ak am;go_wp2;go_roundw
    case rel=>exact⟨j+1,rs,by omega,by go_num,ah,T2,O2,ar,ae,M⟩
    case measure=>simp [intOf];omega
   have e6:=ce E2 6;go_wp2_with fail;refine(YI r.ZZ V).mono ?_
   rintro e V2 ⟨rfl,m,rfl⟩;have C:Bw V (V.drewN m):=below_drewN br m;have E3:=bl E2 C;have T3:=bl T2 C;have O3:=bl O2 C;have ai:=bt ah C;have ag:Hid ((V.drewN m).ownsRow (w.heap.size+2) 40 8 (sl (some (aD d 0)) t.ZW L) t.ZW.length (rs.flatMap YH.cs)):=hid (Y9 ar.o fun k F=>C.block k (YB ar.o F));clear C E2 T2 O2 ah ar e6;generalize V.drewN m=V at*
   cases hn2:Zw r.ZZ
   ·have ae:=hid (Z.o (by unfold XR;rw [hk4,hn1,hn2];rfl));clear aa Z T af ac E3 HG ak am;go_wp2;go_roundw
    case rel=>exact⟨j+1,rs,by omega,by go_num,ai,T3,O3,ag,ae,M⟩
    case measure=>simp [intOf];omega
   have e7:=ce E3 7;go_wp2_with fail;refine(YI r.key V).mono ?_
   rintro e V2 ⟨rfl,m,rfl⟩;have C:Bw V (V.drewN m):=below_drewN br m;have E4:=bl E3 C;have T4:=bl T3 C;have O4:=bl O3 C;have aw:=bt ai C;have au:Hid ((V.drewN m).ownsRow (w.heap.size+2) 40 8 (sl (some (aD d 0)) t.ZW L) t.ZW.length (rs.flatMap YH.cs)):=hid (Y9 ag.o fun k F=>C.block k (YB ag.o F));clear C E3 T3 O3 ai ag e7;generalize V.drewN m=V at*
   cases hn3:Zw r.key
   ·have ae:=hid (Z.o (by unfold XR;rw [hk4,hn1,hn2,hn3];rfl));clear aa Z T af ac E4 HG ak am;go_wp2;go_roundw
    case rel=>exact⟨j+1,rs,by omega,by go_num,aw,T4,O4,au,ae,M⟩
    case measure=>simp [intOf];omega
   have HA:Hid (XR r=⟨r.name,1,r.Z3,r.low,r.ZB,[],[],[]⟩):=hid (by unfold XR;rw [hk4,hn1,hn2,hn3];rfl);have ao:Bw V V.drew:=br.drew;have T5:=bl T4 ao;have O5:=bl O4 ao;have aM:=bt aw ao;have az:Hid (V.drew.ownsRow (w.heap.size+2) 40 8 (sl (some (aD d 0)) t.ZW L) t.ZW.length (rs.flatMap YH.cs)):=hid (Y9 au.o fun k F=>ao.block k (YB au.o F));clear Z hk4 hn1 hn2 hn3 E4 T4 O4 aw au ao HG ak am aS;go_upto_region 7 with fail
   refine wp_region_held_drew (S:=fun V'=>V'.cell? (aN w 4)=some (sl (some (aD d 0)) t.ZW L)) (by kernel_rfl) (T5.o.cell 4) (fun s=> ?_)
   (try simp only [pp]);refine tk 0 38 s ?_;refine tk 1 39 s ?_;refine tk 2 40 s ?_;refine tk 3 41 s ?_;refine tk 4 42 s ?_;refine tk 5 43 s ?_;refine tk 6 44 s ?_;refine tk 7 45 s ?_;refine tk 8 46 s ?_;refine tk 9 47 s ?_;refine tk 10 48 s ?_;refine tk 11 49 s ?_;refine tk 12 50 s ?_;refine tk 13 51 s ?_;generalize V.drew=V5 at*
   have aE:=ac;obtain⟨c1,z1⟩:=Qr az.o aE.o (f:=1) rfl;refine SR 14 fun K N=> ?_
   go_simp;obtain⟨I,O⟩:=Qq ((⟨r.name,1,r.Z3,r.low,r.ZB,r.Z9,r.ZZ,r.key⟩:Ru),D,E) 1 (i6 1) az.o aE.o (by decide) rfl;have aA:=hid I;have aF:=hid O;have T6:=hid (T5.o.WT (p:=(aD d (j*8+1))) (by show _≠d;omega) (i6 1))
   have O6:=hid (O5.o.WT (p:=(aD d (j*8+1))) (by show _≠d;omega) (i6 1));have aO:=hid (aM.o.setCell (p:=(aD d (j*8+1))) (by show _<=d;omega) (i6 1))
   clear I O c1 z1 az aE T5 O5 aM;generalize V5.setCell (aD d (j*8+1)) (i6 1)=V5 at*;refine N.out _ _ (T6.o.cell 4) (fun s=> ?_);clear N K;(try simp only [pp])
   refine tk 15 52 s ?_;refine tk 16 53 s ?_;obtain⟨c5,z5⟩:=Qr aA.o aF.o (f:=5) rfl
   refine SR 17 fun K N=> ?_
   go_simp;obtain⟨I,O⟩:=Qq ((⟨r.name,1,r.Z3,r.low,r.ZB,[],r.ZZ,r.key⟩:Ru),D,E) 5 (s0) aA.o aF.o (by decide) rfl;have aB:=hid I;have aG:=hid O;have T7:=hid (T6.o.WT (p:=(aD d (j*8+5))) (by show _≠d;omega) (s0))
   have O7:=hid (O6.o.WT (p:=(aD d (j*8+5))) (by show _≠d;omega) (s0));have aP:=hid (aO.o.setCell (p:=(aD d (j*8+5))) (by show _<=d;omega) (s0))
   clear I O c5 z5 aA aF T6 O6 aO;generalize V5.setCell (aD d (j*8+5)) (s0)=V5 at*;refine N.out _ _ (T7.o.cell 4) (fun s=> ?_);clear N K;(try simp only [pp])
   refine tk 18 54 s ?_;refine tk 19 55 s ?_;obtain⟨c6,z6⟩:=Qr aB.o aG.o (f:=6) rfl
   refine SR 20 fun K N=> ?_
   go_simp;obtain⟨I,O⟩:=Qq ((⟨r.name,1,r.Z3,r.low,r.ZB,[],[],r.key⟩:Ru),D,E) 6 (s0) aB.o aG.o (by decide) rfl;have aC:=hid I;have aH:=hid O;have T8:=hid (T7.o.WT (p:=(aD d (j*8+6))) (by show _≠d;omega) (s0))
   have O8:=hid (O7.o.WT (p:=(aD d (j*8+6))) (by show _≠d;omega) (s0));have aQ:=hid (aP.o.setCell (p:=(aD d (j*8+6))) (by show _<=d;omega) (s0))
   clear I O c6 z6 aB aG T7 O7 aP;generalize V5.setCell (aD d (j*8+6)) (s0)=V5 at*;refine N.out _ _ (T8.o.cell 4) (fun s=> ?_);clear N K;(try simp only [pp])
   refine tk 21 56 s ?_;refine tk 22 57 s ?_;obtain⟨c7,z7⟩:=Qr aC.o aH.o (f:=7) rfl
   refine SR 23 fun K N=> ?_
   go_simp;obtain⟨I,O⟩:=Qq ((⟨r.name,1,r.Z3,r.low,r.ZB,[],[],[]⟩:Ru),D,E) 7 (s0) aC.o aH.o (by decide) rfl;have aT:=hid I;have bb:=hid O;have T9:=hid (T8.o.WT (p:=(aD d (j*8+7))) (by show _≠d;omega) (s0))
   have O9:=hid (O8.o.WT (p:=(aD d (j*8+7))) (by show _≠d;omega) (s0));have a7:=hid (aQ.o.setCell (p:=(aD d (j*8+7))) (by show _<=d;omega) (s0))
   clear I O c7 z7 aC aH T8 O8 aQ;generalize V5.setCell (aD d (j*8+7)) (s0)=V5 at*;refine N.out _ _ (T9.o.cell 4) (fun s=> ?_);clear N K;(try simp only [pp])
   refine wpAnyH_done (by kernel_rfl) ?_ _
   have ba:=hid (aa.o ((⟨r.name,1,r.Z3,r.low,r.ZB,[],[],[]⟩:Ru),D,E) (by rw [<-af.o];exact HA.o.symm));have a6:rs.set j ((⟨r.name,1,r.Z3,r.low,r.ZB,[],[],[]⟩:Ru),D,E)=(((rs.set j ((⟨r.name,1,r.Z3,r.low,r.ZB,r.Z9,r.ZZ,r.key⟩:Ru),D,E)).set j ((⟨r.name,1,r.Z3,r.low,r.ZB,[],r.ZZ,r.key⟩:Ru),D,E)).set j ((⟨r.name,1,r.Z3,r.low,r.ZB,[],[],r.key⟩:Ru),D,E)).set j ((⟨r.name,1,r.Z3,r.low,r.ZB,[],[],[]⟩:Ru),D,E):=by simp only [List.set_set]
   have an:=aT;rw [<-a6] at an;have ax:Hid (∀ x∈rs.set j ((⟨r.name,1,r.Z3,r.low,r.ZB,[],[],[]⟩:Ru),D,E),rA w [.Z2] (YV x.1.Z3) x.2.1/\Qo x.1):=hid fun x hx=>by
    rcases List.mem_or_eq_of_mem_set hx with h | rfl
    ·exact M.o x h
    ·have:=M.o (r,D,E) (List.mem_of_getElem? ac.o);exact⟨this.1,this.2⟩
   clear aT a6 aa af HA bb T ac M s;generalize rs.set j ((⟨r.name,1,r.Z3,r.low,r.ZB,[],[],[]⟩:Ru),D,E)=rs2 at*;go_wp2;go_roundw
   case rel=>exact⟨j+1,rs2,by omega,by go_num,a7,T9,O9,an,ba,ax⟩
   case measure=>simp [intOf];omega
  ·obtain rfl:j=t.ZW.length:=by omega
   rw [List.take_length,List.drop_length,List.append_nil] at T;clear hj hlt;go_wp2_with (first | (refine lO (hid (BT.o.alloc _)) a8 underlying73 ?_) | ((refine sO (hid ((BO.o.alloc _).alloc _)) aR ?_);intro w9 U) | fail);refine bodyPost_ret (rS (hid U.o.YK) underlying26 aR) rfl ?_
   have s1:(wr.alloc (.cells #[.string ⟨#[115]⟩,.string ⟨#[111]⟩] 89)).heap.size=wr.heap.size+1:=by simp
   have bj:=BO.o.lt;have S9:=U.o.other ((ZP.new wr 89 [.string ⟨#[115]⟩,.string ⟨#[111]⟩]).alloc _) (by omega);have T9:=U.o.other (ZP.new (wr.alloc (.cells #[.string ⟨#[115]⟩,.string ⟨#[111]⟩] 89)) 73 [.string ⟨#[115]⟩,.string ⟨#[116]⟩,.string ⟨#[111]⟩,sl X t.Z3 x,sl R t.ZW L]) (by rw [s1];omega)
   rw [s1] at T9;have aJ:Bw w w9:=U.o.below ((HB.o.alloc HB.o.size _).alloc (by rw [s1];have:=HB.o.size;omega) _) (by omega)
   have be:w9.ownsRow (w.heap.size+2) 40 8 (sl R t.ZW L) t.ZW.length (rs.flatMap YH.cs):=Y9 (Y9 (Y9 J.o fun k F=>Below.heap_alloc wr _ k (YB J.o F)) fun k F=>Below.heap_alloc _ _ k (by rw [s1];have:=YB J.o F;omega)) fun k F=>U.o.WT k (by have:=ZD J.o k F;omega)
   have bf:rA w9 YF ((t.ZW.map XR).map Ru.da) R:=by
    have h:=Ye (S:=(· < w9.heap.size)) (sh:=YF) Ru.da (fun x:YH=>x.1) YH.k be ab.symm (fun x hx=>by
     obtain⟨h1,h2,h3⟩:=M.o x hx;have h4:=Yv.Wn x.2.2 (h1.later aJ);simp only [YV,List.length_map] at h4;exact ZE.mk (Yv.YO _) (ZE.mk (Yv.Xo _) (ZE.mk h4 (ZE.mk (Yv.U8 h2) (ZE.mk (Yv.U8 h3) (ZE.mk (Yv.YO _) (ZE.mk (Yv.YO _) (ZE.one (Yv.YO _)))))))))
    rw [T.o] at h;exact h.YW (fun g hg=>hg.elim id fun hn=>by obtain⟨_,_,_,_,hn⟩:=hn;exact(Array.getElem?_eq_some_iff.1 hn).1) (fun _ _=>rfl)
   have hT:=Tb.Nl (t:=(⟨[115],[116],[111],t.Z3,t.ZW.map XR⟩,X,x,R,L)) (HX.o.later aJ) bf;refine⟨_,_,_,_,rfl,ZT.Eq S9 S9.lt (Sc.VW ⟨[115],[111]⟩),ZT.Eq T9 T9.lt ?_,aJ⟩
   simpa [YX.cs,Tb.cs,Z2] using hT
theorem E8 (t:Tb):Sj (Uo t)=if VC t=true then 0 else 63:=rfl
theorem KW {t:Tb}{M:Nat}(j:1<=M)(h:t.Zo M):(Uo t).Zo M:=by
 refine⟨j,j,fun t' u=> ?_⟩
 obtain rfl:=List.mem_singleton.1 u;refine⟨h.1,by simpa using h.2.1,fun r s=> ?_⟩
 obtain⟨C,m,rfl⟩:=List.mem_map.1 s;have d:=h.2.2 C m;unfold XR;split
 ·exact⟨d.1,Nat.zero_le _,Nat.zero_le _,Nat.zero_le _⟩
 ·exact d
def Sq (t:Tb):Int:=if VC t=true then 0 else 1
theorem QM (t:Tb)(X:oA)(x:Nat)(Y:oA)(y:Nat)(w:World)(L:rA w Zz (t.Z3.map Cl.da) X)(M:rA w YF (t.ZW.map Ru.da) Y)(G:t.Zo 1099511627776):
  cQ 59 #[.agg #[sT t.Z9,sT t.name,sT t.ZN,.slice X t.Z3.length x,.slice Y t.ZW.length y]] w fun e w'=>e= .returned (i6 (Sq t))/\Bw w w':=by
 have E:=hid L;have F:=hid M;have D:=hid (KW (by omega) G);have O:=G.2.1;have N:=iN 73 5;clear L M G;have B0:Hid (ZP (w.alloc (.cells #[sT t.Z9,sT t.name,sT t.ZN,sl X t.Z3 x,sl Y t.ZW y] 73)) w.heap.size 73 [sT t.Z9,sT t.name,sT t.ZN,sl X t.Z3 x,sl Y t.ZW y]):=hid (ZP.new w _ _);go_enter func59,ntmps59
 go_wp2_with (first | (refine lO B0 N underlying73 ?_) | fail);refine Zi _ fun W K=> ?_
 have j:=bP K;clear K B0;refine(Jc t X x Y y W (E.o.later j.o) (F.o.later j.o) O).mono ?_
 rintro e V ⟨T,k0,U,k1,rfl,I,J,hb⟩;have h:=bt j hb;have C:=hid I;have s:=hid J;clear j hb I J;go_wp2_with fail;have d:=Vp (Uo t) T k0 U k1 V C.o s.o D.o;rw [E8] at d
 cases hc:VC t
 ·rw [hc] at d;simp only [Bool.false_eq_true,if_false] at d;have u:Hid (Sq t=1):=hid (by unfold Sq;rw [hc];rfl)
  clear hc;refine d.mono ?_
  rintro e Z ⟨rfl,hb⟩;have m:=bt h hb;clear d hb h C s D E F;go_wp2;go_ret;exact⟨by rw [u.o];rfl,m.o⟩
 ·rw [hc] at d;simp only [if_true] at d;have u:Hid (Sq t=0):=hid (by unfold Sq;rw [hc];rfl)
  clear hc;refine d.mono ?_
  rintro e Z ⟨rfl,hb⟩;have m:=bt h hb;clear d hb h C s D E F;go_wp2;go_ret;exact⟨by rw [u.o];rfl,m.o⟩
end Go.Proofs.YtnhmoibjlakhjaaGreat
