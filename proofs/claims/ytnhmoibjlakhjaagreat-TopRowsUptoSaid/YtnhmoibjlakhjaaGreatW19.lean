/- Lemmas, each under its own conditions. -/
import Derived.Sort.Grow
import Derived.Test.YtnhmoibjlakhjaaGreatW18
set_option linter.all false
namespace Go.Proofs.YtnhmoibjlakhjaaGreat
open Go.Proofs.Tryz
open Lib (hid)
set_option maxRecDepth 100000
set_option maxHeartbeats 16000000
open Go.RowKit
structure VZ (w w':World):Prop where
 below:Bw w w'
 drawn:w.drawn<=w'.drawn
theorem VZ.refl (w:World):VZ w w:=⟨Below.refl _ _,Nat.le_refl _⟩
theorem VZ.trans {a b c:World}(h:VZ a b)(g:VZ b c):VZ a c:=⟨h.below.trans (g.below.mono h.below.size),Nat.le_trans h.drawn g.drawn⟩
theorem VZ.drew (w:World):VZ w w.drew:=⟨br.drew,Nat.le_succ _⟩
theorem VZ.alloc (w:World)(o:Obj):VZ w (w.alloc o):=⟨br.alloc lr o,Nat.le_refl _⟩
theorem VZ.grown {w w':World}(h:VZ w w'): ∃ q os,w'=Sort.grow (w.drewN q) os:=by
 obtain⟨⟨j,m,s,D,u⟩,E⟩:=h;refine⟨w'.drawn - w.drawn,w'.heap.extract w.heap.size w'.heap.size,?_⟩
 have C:w'.heap=w.heap ++w'.heap.extract w.heap.size w'.heap.size:=by
  apply Array.ext_getElem?
  intro k;rw [Array.getElem?_append];split
  ·rename_i d;exact u k d
  ·rename_i d;rw [Array.getElem?_extract];split
   ·congr 1
    omega
   ·rw [Array.getElem?_eq_none];omega
 have hd:w'.drawn=w.drawn+ (w'.drawn - w.drawn):=by omega
 unfold Sort.grow World.drewN;dsimp only;rw [<-C,<-hd,<-j,<-m,<-s]
theorem Pe (a:Int):Pf a 0=a:=by
 unfold Pf;split <;> simp_all
theorem Ll (a b:Tb)(A:oA)(n:Nat)(B:oA)(m:Nat)(L:oA)(Z:Nat)(B':oA)(V:Nat)(w:World):
  cQ 104 #[.agg (a.cs A n B m).toArray,.agg (b.cs L Z B' V).toArray] w fun e w'=>e= .returned (i6 (Xg a b))/\VZ w w':=by
 unfold Tb.cs;have E:=fun W=>Xu a.Z9 b.Z9 W
 have T:=fun W=>Xu a.name b.name W
 have N:Hid (Xg a b=MK [YR a.Z9 b.Z9,YR a.name b.name]):=hid (by simp only [Xg,MK,Pe]);generalize YR a.Z9 b.Z9=r0 at*;generalize YR a.name b.name=r1 at*;have J: ∀ g W,ZP W g 3 [i6 r0,i6 r1]->cQ 149 #[.slice (some (aD g 0)) 2 2] W fun e w'=>e= .returned (.int .i64 (MK [r0,r1]))/\w'=W:=fun g W U=>Kf [r0,r1] g 2 W U (by simp)
 generalize Xg a b=r at*;go_enter func104,ntmps104
 go_wp2;refine Wh _ fun W C=> ?_
 have M:Hid (VZ w W):=hid (by rw [C];exact(VZ.alloc _ _).trans (VZ.alloc _ _));have u:Hid (ZP W w.heap.size 73 [sT a.Z9,sT a.name,sT a.ZN,sl A a.Z3 n,sl B a.ZW m]):=hid (by rw [C];exact(ZP.new w 73 [sT a.Z9,sT a.name,sT a.ZN,sl A a.Z3 n,sl B a.ZW m]).alloc _);have j:=nF C;clear C;have I:(fun w'=>VZ W w'/\w'.cell? (aN w 0)=some (sT a.Z9)/\w'.cell? (aD (w.heap.size+1) 0)=some (sT b.Z9)/\w'.cell? (aN w 1)=some (sT a.name)/\w'.cell? (aD (w.heap.size+1) 1)=some (sT b.name)) W.drew:=⟨VZ.drew W,(u.o.drew.cell 0),(j.o.drew.cell 0),(u.o.drew.cell 1),(j.o.drew.cell 1)⟩
 have G:Hid (∀ D o,(fun w'=>VZ W w'/\w'.cell? (aN w 0)=some (sT a.Z9)/\w'.cell? (aD (w.heap.size+1) 0)=some (sT b.Z9)/\w'.cell? (aN w 1)=some (sT a.name)/\w'.cell? (aD (w.heap.size+1) 1)=some (sT b.name)) D->(fun w'=>VZ W w'/\w'.cell? (aN w 0)=some (sT a.Z9)/\w'.cell? (aD (w.heap.size+1) 0)=some (sT b.Z9)/\w'.cell? (aN w 1)=some (sT a.name)/\w'.cell? (aD (w.heap.size+1) 1)=some (sT b.name)) (D.alloc o)):=hid (by
  intro D o ⟨E,_⟩;have s:VZ W (D.alloc o):=E.trans (VZ.alloc _ _);exact⟨s,cb u s.below 0,cb j s.below 0,cb u s.below 1,cb j s.below 1⟩)
 have aa:w.heap.size+1<W.heap.size:=j.o.lt;refine wp_region_held_drew (S:=fun w'=>VZ W w'/\w'.cell? (aN w 0)=some (sT a.Z9)/\w'.cell? (aD (w.heap.size+1) 0)=some (sT b.Z9)/\w'.cell? (aN w 1)=some (sT a.name)/\w'.cell? (aD (w.heap.size+1) 1)=some (sT b.name)) (by kernel_rfl) I (fun d=> ?_)
 (try simp only [pp]);refine tk 0 5 d ?_;refine tk 1 6 d ?_;refine tk 2 7 d ?_;refine tk 3 8 d ?_;refine tk 5 10 d ?_;refine tk 6 11 d ?_;refine tk 7 12 d ?_;refine tk 8 13 d ?_;refine on 4 9 fun K h=> ?_
 go_simp;go_at_call 107
 refine(E _).mono ?_
 rintro e F ⟨rfl,rfl⟩;refine h _ _ d (fun d=> ?_)
 clear h K;(try simp only [pp])
 refine on 9 14 fun K h=> ?_
 go_simp;go_at_call 107
 refine(T _).mono ?_
 rintro e F ⟨rfl,rfl⟩;refine h _ _ d (fun d=> ?_)
 clear h K;(try simp only [pp])
 refine on 10 15 fun K h=> ?_
 go_simp;refine h _ _ (G.o _ _ d) (fun d=> ?_)
 clear h K;(try simp only [pp])
 refine on 11 16 fun K h=> ?_
 go_simp;go_at_call 149
 refine(J W.heap.size _ (ZP.new W _ _).drew).mono ?_
 rintro e F ⟨rfl,rfl⟩;refine h _ _ d (fun d=> ?_)
 clear h K;(try simp only [pp])
 refine tk 12 4 d ?_;refine wpAnyH_done (by kernel_rfl) ?_ _
 have O:Hid (VZ w _):=hid (M.o.trans d.1);clear d;go_wp2;go_ret;exact⟨by rw [N.o];rfl,O.o⟩
theorem RP (a b:Mb) (w:World):
  cQ 153 #[.agg (a.cs).toArray,.agg (b.cs).toArray] w fun e w'=>e= .returned (i6 (XI a b))/\VZ w w':=by
 unfold Mb.cs;have D:=fun W=>Xu a.ZQ b.ZQ W
 have N:=fun W=>Xu a.of b.of W
 have L:Hid (XI a b=MK [YR a.ZQ b.ZQ,YR a.of b.of]):=hid (by simp only [XI,MK,Pe]);generalize YR a.ZQ b.ZQ=r0 at*;generalize YR a.of b.of=r1 at*;have I: ∀ g W,ZP W g 3 [i6 r0,i6 r1]->cQ 149 #[.slice (some (aD g 0)) 2 2] W fun e w'=>e= .returned (.int .i64 (MK [r0,r1]))/\w'=W:=fun g W O=>Kf [r0,r1] g 2 W O (by simp)
 generalize XI a b=r at*;go_enter func153,ntmps153
 go_wp2;refine Wh _ fun W u=> ?_
 have J:Hid (VZ w W):=hid (by rw [u];exact(VZ.alloc _ _).trans (VZ.alloc _ _));have s:Hid (ZP W w.heap.size 147 [sT a.ZQ,sT a.of]):=hid (by rw [u];exact(ZP.new w 147 [sT a.ZQ,sT a.of]).alloc _);have j:=nF u;clear u;have G:(fun w'=>VZ W w'/\w'.cell? (aN w 0)=some (sT a.ZQ)/\w'.cell? (aD (w.heap.size+1) 0)=some (sT b.ZQ)/\w'.cell? (aN w 1)=some (sT a.of)/\w'.cell? (aD (w.heap.size+1) 1)=some (sT b.of)) W.drew:=⟨VZ.drew W,(s.o.drew.cell 0),(j.o.drew.cell 0),(s.o.drew.cell 1),(j.o.drew.cell 1)⟩
 have F:Hid (∀ C o,(fun w'=>VZ W w'/\w'.cell? (aN w 0)=some (sT a.ZQ)/\w'.cell? (aD (w.heap.size+1) 0)=some (sT b.ZQ)/\w'.cell? (aN w 1)=some (sT a.of)/\w'.cell? (aD (w.heap.size+1) 1)=some (sT b.of)) C->(fun w'=>VZ W w'/\w'.cell? (aN w 0)=some (sT a.ZQ)/\w'.cell? (aD (w.heap.size+1) 0)=some (sT b.ZQ)/\w'.cell? (aN w 1)=some (sT a.of)/\w'.cell? (aD (w.heap.size+1) 1)=some (sT b.of)) (C.alloc o)):=hid (by
  intro C o ⟨D,_⟩;have m:VZ W (C.alloc o):=D.trans (VZ.alloc _ _);exact⟨m,cb s m.below 0,cb j m.below 0,cb s m.below 1,cb j m.below 1⟩)
 have T:w.heap.size+1<W.heap.size:=j.o.lt;refine wp_region_held_drew (S:=fun w'=>VZ W w'/\w'.cell? (aN w 0)=some (sT a.ZQ)/\w'.cell? (aD (w.heap.size+1) 0)=some (sT b.ZQ)/\w'.cell? (aN w 1)=some (sT a.of)/\w'.cell? (aD (w.heap.size+1) 1)=some (sT b.of)) (by kernel_rfl) G (fun d=> ?_)
 (try simp only [pp]);refine tk 0 5 d ?_;refine tk 1 6 d ?_;refine tk 2 7 d ?_;refine tk 3 8 d ?_;refine tk 5 10 d ?_;refine tk 6 11 d ?_;refine tk 7 12 d ?_;refine tk 8 13 d ?_;refine on 4 9 fun K h=> ?_
 go_simp;go_at_call 107
 refine(D _).mono ?_
 rintro e E ⟨rfl,rfl⟩;refine h _ _ d (fun d=> ?_)
 clear h K;(try simp only [pp])
 refine on 9 14 fun K h=> ?_
 go_simp;go_at_call 107
 refine(N _).mono ?_
 rintro e E ⟨rfl,rfl⟩;refine h _ _ d (fun d=> ?_)
 clear h K;(try simp only [pp])
 refine on 10 15 fun K h=> ?_
 go_simp;refine h _ _ (F.o _ _ d) (fun d=> ?_)
 clear h K;(try simp only [pp])
 refine on 11 16 fun K h=> ?_
 go_simp;go_at_call 149
 refine(I W.heap.size _ (ZP.new W _ _).drew).mono ?_
 rintro e E ⟨rfl,rfl⟩;refine h _ _ d (fun d=> ?_)
 clear h K;(try simp only [pp])
 refine tk 12 4 d ?_;refine wpAnyH_done (by kernel_rfl) ?_ _
 have M:Hid (VZ w _):=hid (J.o.trans d.1);clear d;go_wp2;go_ret;exact⟨by rw [L.o];rfl,M.o⟩
theorem RY (a b:Gr) (w:World):
  cQ 90 #[.agg (a.cs).toArray,.agg (b.cs).toArray] w fun e w'=>e= .returned (i6 (RZ a b))/\VZ w w':=by
 unfold Gr.cs;have E:=fun W=>Xu a.Z9 b.Z9 W
 have N:=fun W=>Xu a.ZZ b.ZZ W
 have O:=fun W=>GK a.right b.right W
 have j:=fun W=>Xu a.ZM b.ZM W
 have T:=fun W=>Xu a.to b.to W
 have L:Hid (RZ a b=MK [YR a.Z9 b.Z9,YR a.ZZ b.ZZ,Lib.compareInt a.right b.right,YR a.ZM b.ZM,YR a.to b.to]):=hid (by simp only [RZ,MK,Pe]);generalize YR a.Z9 b.Z9=r0 at*;generalize YR a.ZZ b.ZZ=r1 at*;generalize Lib.compareInt a.right b.right=r2 at*;generalize YR a.ZM b.ZM=r3 at*;generalize YR a.to b.to=r4 at*;have I: ∀ g W,ZP W g 3 [i6 r0,i6 r1,i6 r2,i6 r3,i6 r4]->cQ 149 #[.slice (some (aD g 0)) 5 5] W fun e w'=>e= .returned (.int .i64 (MK [r0,r1,r2,r3,r4]))/\w'=W:=fun g W U=>Kf [r0,r1,r2,r3,r4] g 5 W U (by simp)
 generalize RZ a b=r at*;go_enter func90,ntmps90
 go_wp2;refine Wh _ fun W C=> ?_
 have J:Hid (VZ w W):=hid (by rw [C];exact(VZ.alloc _ _).trans (VZ.alloc _ _));have s:Hid (ZP W w.heap.size 53 [sT a.Z9,sT a.ZZ,i6 a.right,sT a.ZM,sT a.to,.bool a.Zq]):=hid (by rw [C];exact(ZP.new w 53 [sT a.Z9,sT a.ZZ,i6 a.right,sT a.ZM,sT a.to,.bool a.Zq]).alloc _);have m:=nF C;clear C;have G:(fun w'=>VZ W w'/\w'.cell? (aN w 0)=some (sT a.Z9)/\w'.cell? (aD (w.heap.size+1) 0)=some (sT b.Z9)/\w'.cell? (aN w 1)=some (sT a.ZZ)/\w'.cell? (aD (w.heap.size+1) 1)=some (sT b.ZZ)/\w'.cell? (aN w 2)=some (i6 a.right)/\w'.cell? (aD (w.heap.size+1) 2)=some (i6 b.right)/\w'.cell? (aN w 3)=some (sT a.ZM)/\w'.cell? (aD (w.heap.size+1) 3)=some (sT b.ZM)/\w'.cell? (aN w 4)=some (sT a.to)/\w'.cell? (aD (w.heap.size+1) 4)=some (sT b.to)) W.drew:=⟨VZ.drew W,(s.o.drew.cell 0),(m.o.drew.cell 0),(s.o.drew.cell 1),(m.o.drew.cell 1),(s.o.drew.cell 2),(m.o.drew.cell 2),(s.o.drew.cell 3),(m.o.drew.cell 3),(s.o.drew.cell 4),(m.o.drew.cell 4)⟩
 have F:Hid (∀ D o,(fun w'=>VZ W w'/\w'.cell? (aN w 0)=some (sT a.Z9)/\w'.cell? (aD (w.heap.size+1) 0)=some (sT b.Z9)/\w'.cell? (aN w 1)=some (sT a.ZZ)/\w'.cell? (aD (w.heap.size+1) 1)=some (sT b.ZZ)/\w'.cell? (aN w 2)=some (i6 a.right)/\w'.cell? (aD (w.heap.size+1) 2)=some (i6 b.right)/\w'.cell? (aN w 3)=some (sT a.ZM)/\w'.cell? (aD (w.heap.size+1) 3)=some (sT b.ZM)/\w'.cell? (aN w 4)=some (sT a.to)/\w'.cell? (aD (w.heap.size+1) 4)=some (sT b.to)) D->(fun w'=>VZ W w'/\w'.cell? (aN w 0)=some (sT a.Z9)/\w'.cell? (aD (w.heap.size+1) 0)=some (sT b.Z9)/\w'.cell? (aN w 1)=some (sT a.ZZ)/\w'.cell? (aD (w.heap.size+1) 1)=some (sT b.ZZ)/\w'.cell? (aN w 2)=some (i6 a.right)/\w'.cell? (aD (w.heap.size+1) 2)=some (i6 b.right)/\w'.cell? (aN w 3)=some (sT a.ZM)/\w'.cell? (aD (w.heap.size+1) 3)=some (sT b.ZM)/\w'.cell? (aN w 4)=some (sT a.to)/\w'.cell? (aD (w.heap.size+1) 4)=some (sT b.to)) (D.alloc o)):=hid (by
  intro D o ⟨E,_⟩;have j:VZ W (D.alloc o):=E.trans (VZ.alloc _ _);exact⟨j,cb s j.below 0,cb m j.below 0,cb s j.below 1,cb m j.below 1,cb s j.below 2,cb m j.below 2,cb s j.below 3,cb m j.below 3,cb s j.below 4,cb m j.below 4⟩)
 have V:w.heap.size+1<W.heap.size:=m.o.lt;refine wp_region_held_drew (S:=fun w'=>VZ W w'/\w'.cell? (aN w 0)=some (sT a.Z9)/\w'.cell? (aD (w.heap.size+1) 0)=some (sT b.Z9)/\w'.cell? (aN w 1)=some (sT a.ZZ)/\w'.cell? (aD (w.heap.size+1) 1)=some (sT b.ZZ)/\w'.cell? (aN w 2)=some (i6 a.right)/\w'.cell? (aD (w.heap.size+1) 2)=some (i6 b.right)/\w'.cell? (aN w 3)=some (sT a.ZM)/\w'.cell? (aD (w.heap.size+1) 3)=some (sT b.ZM)/\w'.cell? (aN w 4)=some (sT a.to)/\w'.cell? (aD (w.heap.size+1) 4)=some (sT b.to)) (by kernel_rfl) G (fun d=> ?_)
 (try simp only [pp]);refine tk 0 5 d ?_;refine tk 1 6 d ?_;refine tk 2 7 d ?_;refine tk 3 8 d ?_;refine tk 5 10 d ?_;refine tk 6 11 d ?_;refine tk 7 12 d ?_;refine tk 8 13 d ?_;refine tk 10 15 d ?_;refine tk 11 16 d ?_;refine tk 12 17 d ?_;refine tk 13 18 d ?_;refine tk 15 20 d ?_;refine tk 16 21 d ?_;refine tk 17 22 d ?_;refine tk 18 23 d ?_;refine tk 20 25 d ?_;refine tk 21 26 d ?_;refine tk 22 27 d ?_;refine tk 23 28 d ?_;refine on 4 9 fun K h=> ?_
 go_simp;go_at_call 107
 refine(E _).mono ?_
 rintro e u ⟨rfl,rfl⟩;refine h _ _ d (fun d=> ?_)
 clear h K;(try simp only [pp])
 refine on 9 14 fun K h=> ?_
 go_simp;go_at_call 107
 refine(N _).mono ?_
 rintro e u ⟨rfl,rfl⟩;refine h _ _ d (fun d=> ?_)
 clear h K;(try simp only [pp])
 refine on 14 19 fun K h=> ?_
 go_simp;go_at_call 150
 refine(O _).mono ?_
 rintro e u ⟨rfl,rfl⟩;refine h _ _ d (fun d=> ?_)
 clear h K;(try simp only [pp])
 refine on 19 24 fun K h=> ?_
 go_simp;go_at_call 107
 refine(j _).mono ?_
 rintro e u ⟨rfl,rfl⟩;refine h _ _ d (fun d=> ?_)
 clear h K;(try simp only [pp])
 refine on 24 29 fun K h=> ?_
 go_simp;go_at_call 107
 refine(T _).mono ?_
 rintro e u ⟨rfl,rfl⟩;refine h _ _ d (fun d=> ?_)
 clear h K;(try simp only [pp])
 refine on 25 30 fun K h=> ?_
 go_simp;refine h _ _ (F.o _ _ d) (fun d=> ?_)
 clear h K;(try simp only [pp])
 refine on 26 31 fun K h=> ?_
 go_simp;go_at_call 149
 refine(I W.heap.size _ (ZP.new W _ _).drew).mono ?_
 rintro e u ⟨rfl,rfl⟩;refine h _ _ d (fun d=> ?_)
 clear h K;(try simp only [pp])
 refine tk 27 4 d ?_;refine wpAnyH_done (by kernel_rfl) ?_ _
 have M:Hid (VZ w _):=hid (J.o.trans d.1);clear d;go_wp2;go_ret;exact⟨by rw [L.o];rfl,M.o⟩
theorem Lf {a b:List lU}(h:YV a=YV b):a=b:=by
 unfold YV at h;exact(List.map_inj_right (by intro x y d;injection d with h1;injection h1)).1 h
theorem Cl.Wu {a b:Cl}(h:a.da=b.da):a=b:=by
 cases a;cases b
 simp [Cl.da] at h;obtain⟨rfl,rfl,rfl⟩:=h;rfl
theorem Ru.Wu {a b:Ru}(h:a.da=b.da):a=b:=by
 cases a;cases b
 simp only [Ru.da,List.cons.injEq,Da.Z2.injEq,Da.int.injEq,Da.rows.injEq,and_true] at h;obtain⟨rfl,rfl,d,rfl,rfl,rfl,rfl,rfl⟩:=h;rw [Lf d]
theorem Tb.Wu {a b:Tb}(h:a.da=b.da):a=b:=by
 cases a;cases b
 simp only [Tb.da,List.cons.injEq,Da.Z2.injEq,Da.rows.injEq,and_true] at h;obtain⟨rfl,rfl,rfl,d,j⟩:=h;rw [(List.map_inj_right fun _ _=>Cl.Wu).1 d,(List.map_inj_right fun _ _=>Ru.Wu).1 j]
theorem Ru.YY {w:World}{S:Nat->Prop}{c:Ru}{d:lV}(h:ZE w S YF c.da d): ∃ A n,d=c.cs A n/\ZT w S [.Z2] (YV c.Z3) A/\
  (-9223372036854775808<=c.low/\c.low<=9223372036854775807)/\(-9223372036854775808<=c.ZB/\c.ZB<=9223372036854775807):=by
 obtain⟨r,A,n,j,m,s⟩:=Ru.YG h;obtain rfl:=Ru.Wu j;exact⟨A,n,m,s⟩
theorem Tb.YY {w:World}{S:Nat->Prop}{c:Tb}{d:lV}(h:ZE w S Zn c.da d): ∃ A n B m,d=c.cs A n B m/\ZT w S Zz (c.Z3.map Cl.da) A/\ZT w S YF (c.ZW.map Ru.da) B:=by
 obtain⟨r,A,n,B,m,j,s,u⟩:=Tb.YG h;obtain rfl:=Tb.Wu j;exact⟨A,n,B,m,s,u⟩
theorem J3 (l:List Ru)(A:oA)(k:Nat)(w:World)(hA:rA w YF (l.map Ru.da) A)(hn:l.length<=1099511627776):
  cQ 163 #[.slice A l.length k,.func (.func 164) #[] #[]] w fun e w'=>e= .returned (.bool (Zt WM l))/\Bw w w':=by
 have V:=hid hA;clear hA;go_enter func163,ntmps163
 go_wp2;go_loopw [10] (fun i wr=> ∃ j:Nat,(j+1<=l.length∨j=0)/\i=i6 j/\Hid (Zt WM l=Zt WM (l.drop j))/\Hid (Bw w wr)) (fun i _=>l.length - (intOf i).toNat)
 case atStart=>exact⟨0,Or.inr rfl,rfl,hid (by rw [List.drop_zero]),hid br⟩
 case round=>
  obtain⟨j,hj,rfl,Z,E⟩:=hrel;by_cases hlt:j+1<l.length
  ·have ab:(j:Int)< (l.length:Int) - 1:=by omega
   have ai:(j:Int)+1< (l.length:Int):=by omega
   have aj:(0:Int)<=(j:Int)+1:=by omega
   have ak:((j:Int)+1).toNat=j+1:=by omega
   have am:(j:Int)< (l.length:Int):=by omega
   have an:IntKind.i64.wrap ((j:Int)+1)=(j:Int)+1:=by simp [IntKind.wrap,IntKind.bits,IntKind.signed];omega
   have ac:(max 0 ((l.length:Int) - 1))=(l.length:Int) - 1:=by omega
   obtain⟨d,vs,rfl,N,u⟩:=(V.o.below E.o).at_ (j:=j) (by simpa using (by omega:j<l.length));obtain⟨ah,ao,M,K,s⟩:=(V.o.below E.o).at_ (j:=j+1) (by simpa using hlt);injection M with M
   subst M;rw [List.getElem_map] at N K;have HX:Hid (Zt WM l=(decide (WM l[j] l[j+1]<0) && Zt WM (l.drop (j+1)))):=hid (Z.o.trans (Ty WM l j hlt));generalize l[j]=x at*;generalize l[j+1]=y at*;obtain⟨X,n,rfl,_⟩:=Ru.YY N;obtain⟨F,G,rfl,_⟩:=Ru.YY K;have a0:=e0 (m:=j*8) u;have a1:=ef (m:=j*8) u 1;have a2:=ef (m:=j*8) u 2;have a3:=ef (m:=j*8) u 3;have a4:=ef (m:=j*8) u 4;have a5:=ef (m:=j*8) u 5;have a6:=ef (m:=j*8) u 6;have a7:=ef (m:=j*8) u 7;have L:=e0 (m:=(j+1)*8) s;have b1:=ef (m:=(j+1)*8) s 1;have b2:=ef (m:=(j+1)*8) s 2;have b3:=ef (m:=(j+1)*8) s 3;have b4:=ef (m:=(j+1)*8) s 4;have b5:=ef (m:=(j+1)*8) s 5;have b6:=ef (m:=(j+1)*8) s 6;have b7:=ef (m:=(j+1)*8) s 7;clear N K u s;rw [ac];have D:=World.block_lt_of_cell? wr _ a0;have C:=World.block_lt_of_cell? wr _ L;have ae:Bw wr wr.drew:=Below.drew br;have aa:Hid (∀ O I,(fun w'=>Bw wr w'/\w'.cell? (d.add (j*8))=some (sT x.name)/\w'.cell? ⟨(d.add (j*8)).block,(d.add (j*8)).off+1,none⟩=some (i6 x.ZV)/\w'.cell? ⟨(d.add (j*8)).block,(d.add (j*8)).off+2,none⟩=some (sl X x.Z3 n)/\w'.cell? ⟨(d.add (j*8)).block,(d.add (j*8)).off+3,none⟩=some (i6 x.low)/\w'.cell? ⟨(d.add (j*8)).block,(d.add (j*8)).off+4,none⟩=some (i6 x.ZB)/\w'.cell? ⟨(d.add (j*8)).block,(d.add (j*8)).off+5,none⟩=some (sT x.Z9)/\w'.cell? ⟨(d.add (j*8)).block,(d.add (j*8)).off+6,none⟩=some (sT x.ZZ)/\w'.cell? ⟨(d.add (j*8)).block,(d.add (j*8)).off+7,none⟩=some (sT x.key)/\w'.cell? (d.add ((j+1)*8))=some (sT y.name)/\w'.cell? ⟨(d.add ((j+1)*8)).block,(d.add ((j+1)*8)).off+1,none⟩=some (i6 y.ZV)/\w'.cell? ⟨(d.add ((j+1)*8)).block,(d.add ((j+1)*8)).off+2,none⟩=some (sl F y.Z3 G)/\w'.cell? ⟨(d.add ((j+1)*8)).block,(d.add ((j+1)*8)).off+3,none⟩=some (i6 y.low)/\w'.cell? ⟨(d.add ((j+1)*8)).block,(d.add ((j+1)*8)).off+4,none⟩=some (i6 y.ZB)/\w'.cell? ⟨(d.add ((j+1)*8)).block,(d.add ((j+1)*8)).off+5,none⟩=some (sT y.Z9)/\w'.cell? ⟨(d.add ((j+1)*8)).block,(d.add ((j+1)*8)).off+6,none⟩=some (sT y.ZZ)/\w'.cell? ⟨(d.add ((j+1)*8)).block,(d.add ((j+1)*8)).off+7,none⟩=some (sT y.key)) O->Bw O I->(fun w'=>Bw wr w'/\w'.cell? (d.add (j*8))=some (sT x.name)/\w'.cell? ⟨(d.add (j*8)).block,(d.add (j*8)).off+1,none⟩=some (i6 x.ZV)/\w'.cell? ⟨(d.add (j*8)).block,(d.add (j*8)).off+2,none⟩=some (sl X x.Z3 n)/\w'.cell? ⟨(d.add (j*8)).block,(d.add (j*8)).off+3,none⟩=some (i6 x.low)/\w'.cell? ⟨(d.add (j*8)).block,(d.add (j*8)).off+4,none⟩=some (i6 x.ZB)/\w'.cell? ⟨(d.add (j*8)).block,(d.add (j*8)).off+5,none⟩=some (sT x.Z9)/\w'.cell? ⟨(d.add (j*8)).block,(d.add (j*8)).off+6,none⟩=some (sT x.ZZ)/\w'.cell? ⟨(d.add (j*8)).block,(d.add (j*8)).off+7,none⟩=some (sT x.key)/\w'.cell? (d.add ((j+1)*8))=some (sT y.name)/\w'.cell? ⟨(d.add ((j+1)*8)).block,(d.add ((j+1)*8)).off+1,none⟩=some (i6 y.ZV)/\w'.cell? ⟨(d.add ((j+1)*8)).block,(d.add ((j+1)*8)).off+2,none⟩=some (sl F y.Z3 G)/\w'.cell? ⟨(d.add ((j+1)*8)).block,(d.add ((j+1)*8)).off+3,none⟩=some (i6 y.low)/\w'.cell? ⟨(d.add ((j+1)*8)).block,(d.add ((j+1)*8)).off+4,none⟩=some (i6 y.ZB)/\w'.cell? ⟨(d.add ((j+1)*8)).block,(d.add ((j+1)*8)).off+5,none⟩=some (sT y.Z9)/\w'.cell? ⟨(d.add ((j+1)*8)).block,(d.add ((j+1)*8)).off+6,none⟩=some (sT y.ZZ)/\w'.cell? ⟨(d.add ((j+1)*8)).block,(d.add ((j+1)*8)).off+7,none⟩=some (sT y.key)) I):=hid (by
    intro O I ⟨h1,_⟩ h2;have h:Bw wr I:=h1.trans (h2.mono h1.size);exact⟨h,(h.cell (p:=(d.add (j*8))) D).trans a0,ct a1 h D,ct a2 h D,ct a3 h D,ct a4 h D,ct a5 h D,ct a6 h D,ct a7 h D,(h.cell (p:=(d.add ((j+1)*8))) C).trans L,ct b1 h C,ct b2 h C,ct b3 h C,ct b4 h C,ct b5 h C,ct b6 h C,ct b7 h C⟩)
   have T:=fun W=>Ka x y X n F G W
   unfold Ru.cs at T;generalize WM x y=r at*;go_wp2_with fail;go_region_held_law (fun w'=>Bw wr w'/\w'.cell? (d.add (j*8))=some (sT x.name)/\w'.cell? ⟨(d.add (j*8)).block,(d.add (j*8)).off+1,none⟩=some (i6 x.ZV)/\w'.cell? ⟨(d.add (j*8)).block,(d.add (j*8)).off+2,none⟩=some (sl X x.Z3 n)/\w'.cell? ⟨(d.add (j*8)).block,(d.add (j*8)).off+3,none⟩=some (i6 x.low)/\w'.cell? ⟨(d.add (j*8)).block,(d.add (j*8)).off+4,none⟩=some (i6 x.ZB)/\w'.cell? ⟨(d.add (j*8)).block,(d.add (j*8)).off+5,none⟩=some (sT x.Z9)/\w'.cell? ⟨(d.add (j*8)).block,(d.add (j*8)).off+6,none⟩=some (sT x.ZZ)/\w'.cell? ⟨(d.add (j*8)).block,(d.add (j*8)).off+7,none⟩=some (sT x.key)/\w'.cell? (d.add ((j+1)*8))=some (sT y.name)/\w'.cell? ⟨(d.add ((j+1)*8)).block,(d.add ((j+1)*8)).off+1,none⟩=some (i6 y.ZV)/\w'.cell? ⟨(d.add ((j+1)*8)).block,(d.add ((j+1)*8)).off+2,none⟩=some (sl F y.Z3 G)/\w'.cell? ⟨(d.add ((j+1)*8)).block,(d.add ((j+1)*8)).off+3,none⟩=some (i6 y.low)/\w'.cell? ⟨(d.add ((j+1)*8)).block,(d.add ((j+1)*8)).off+4,none⟩=some (i6 y.ZB)/\w'.cell? ⟨(d.add ((j+1)*8)).block,(d.add ((j+1)*8)).off+5,none⟩=some (sT y.Z9)/\w'.cell? ⟨(d.add ((j+1)*8)).block,(d.add ((j+1)*8)).off+6,none⟩=some (sT y.ZZ)/\w'.cell? ⟨(d.add ((j+1)*8)).block,(d.add ((j+1)*8)).off+7,none⟩=some (sT y.key))
    (first | exact aa.o _ _ (by assumption) (by assumption) | exact⟨ae,a0,a1,a2,a3,a4,a5,a6,a7,L,b1,b2,b3,b4,b5,b6,b7⟩)
    (first | (go_at_call 164;refine(T _).mono ?_;rintro e w' ⟨rfl,hb⟩))
   rename_i hS;have U:=bt E hS.1;clear hS;by_cases hq:r<0
   ·have J:Hid (Zt WM l=Zt WM (l.drop (j+1))):=hid (by rw [HX.o];simp [hq]);have af: ¬ r>=0:=by omega
    have ag: ¬ 0<=r:=by omega
    go_wp2;go_roundw
    case rel=>exact⟨j+1,by omega,by go_num,J,U⟩
    case measure=>simp [intOf];omega
   ·have J:Hid (Zt WM l=false):=hid (by rw [HX.o];simp [hq]);have af:r>=0:=by omega
    have ag:0<=r:=by omega
    go_wp2;go_ret;exact⟨by rw [J.o];rfl,U.o⟩
  ·have HR:Hid (Zt WM l=true):=hid (Z.o.trans (SE WM l j (by omega)));have ab: ¬ (j:Int)<max 0 ((l.length:Int) - 1):=by omega
   go_wp2;go_ret;exact⟨by rw [HR.o];rfl,E.o⟩
theorem Lt (l:List Tb)(A:oA)(k:Nat)(w:World)(hA:rA w Zn (l.map Tb.da) A)(hn:l.length<=1099511627776):
  cQ 103 #[.slice A l.length k,.func (.func 104) #[] #[]] w fun e w'=>e= .returned (.bool (Zt Xg l))/\Bw w w':=by
 have HA:=hid hA;clear hA;go_enter func103,ntmps103
 go_wp2;go_loopw [10] (fun i wr=> ∃ j:Nat,(j+1<=l.length∨j=0)/\i=i6 j/\Hid (Zt Xg l=Zt Xg (l.drop j))/\Hid (Bw w wr)) (fun i _=>l.length - (intOf i).toNat)
 case atStart=>exact⟨0,Or.inr rfl,rfl,hid (by rw [List.drop_zero]),hid br⟩
 case round=>
  obtain⟨j,hj,rfl,HE,E⟩:=hrel;by_cases hlt:j+1<l.length
  ·have ab:(j:Int)< (l.length:Int) - 1:=by omega
   have ai:(j:Int)+1< (l.length:Int):=by omega
   have aj:(0:Int)<=(j:Int)+1:=by omega
   have ak:((j:Int)+1).toNat=j+1:=by omega
   have am:(j:Int)< (l.length:Int):=by omega
   have an:IntKind.i64.wrap ((j:Int)+1)=(j:Int)+1:=by simp [IntKind.wrap,IntKind.bits,IntKind.signed];omega
   have ac:(max 0 ((l.length:Int) - 1))=(l.length:Int) - 1:=by omega
   obtain⟨d,vs,rfl,T,u⟩:=(HA.o.below E.o).at_ (j:=j) (by simpa using (by omega:j<l.length));obtain⟨ah,ao,O,M,s⟩:=(HA.o.below E.o).at_ (j:=j+1) (by simpa using hlt);injection O with O
   subst O;rw [List.getElem_map] at T M;have HX:Hid (Zt Xg l=(decide (Xg l[j] l[j+1]<0) && Zt Xg (l.drop (j+1)))):=hid (HE.o.trans (Ty Xg l j hlt));generalize l[j]=x at*;generalize l[j+1]=y at*;obtain⟨X,n,Y,m,rfl,_⟩:=Tb.YY T;obtain⟨F,J,G,I,rfl,_⟩:=Tb.YY M;have a0:=e0 (m:=j*5) u;have a1:=ef (m:=j*5) u 1;have a2:=ef (m:=j*5) u 2;have a3:=ef (m:=j*5) u 3;have a4:=ef (m:=j*5) u 4;have N:=e0 (m:=(j+1)*5) s;have b1:=ef (m:=(j+1)*5) s 1;have b2:=ef (m:=(j+1)*5) s 2;have b3:=ef (m:=(j+1)*5) s 3;have b4:=ef (m:=(j+1)*5) s 4;clear T M u s;rw [ac];have D:=World.block_lt_of_cell? wr _ a0;have C:=World.block_lt_of_cell? wr _ N;have ae:Bw wr wr.drew:=Below.drew br;have aa:Hid (∀ U K,(fun w'=>Bw wr w'/\w'.cell? (d.add (j*5))=some (sT x.Z9)/\w'.cell? ⟨(d.add (j*5)).block,(d.add (j*5)).off+1,none⟩=some (sT x.name)/\w'.cell? ⟨(d.add (j*5)).block,(d.add (j*5)).off+2,none⟩=some (sT x.ZN)/\w'.cell? ⟨(d.add (j*5)).block,(d.add (j*5)).off+3,none⟩=some (sl X x.Z3 n)/\w'.cell? ⟨(d.add (j*5)).block,(d.add (j*5)).off+4,none⟩=some (sl Y x.ZW m)/\w'.cell? (d.add ((j+1)*5))=some (sT y.Z9)/\w'.cell? ⟨(d.add ((j+1)*5)).block,(d.add ((j+1)*5)).off+1,none⟩=some (sT y.name)/\w'.cell? ⟨(d.add ((j+1)*5)).block,(d.add ((j+1)*5)).off+2,none⟩=some (sT y.ZN)/\w'.cell? ⟨(d.add ((j+1)*5)).block,(d.add ((j+1)*5)).off+3,none⟩=some (sl F y.Z3 J)/\w'.cell? ⟨(d.add ((j+1)*5)).block,(d.add ((j+1)*5)).off+4,none⟩=some (sl G y.ZW I)) U->Bw U K->(fun w'=>Bw wr w'/\w'.cell? (d.add (j*5))=some (sT x.Z9)/\w'.cell? ⟨(d.add (j*5)).block,(d.add (j*5)).off+1,none⟩=some (sT x.name)/\w'.cell? ⟨(d.add (j*5)).block,(d.add (j*5)).off+2,none⟩=some (sT x.ZN)/\w'.cell? ⟨(d.add (j*5)).block,(d.add (j*5)).off+3,none⟩=some (sl X x.Z3 n)/\w'.cell? ⟨(d.add (j*5)).block,(d.add (j*5)).off+4,none⟩=some (sl Y x.ZW m)/\w'.cell? (d.add ((j+1)*5))=some (sT y.Z9)/\w'.cell? ⟨(d.add ((j+1)*5)).block,(d.add ((j+1)*5)).off+1,none⟩=some (sT y.name)/\w'.cell? ⟨(d.add ((j+1)*5)).block,(d.add ((j+1)*5)).off+2,none⟩=some (sT y.ZN)/\w'.cell? ⟨(d.add ((j+1)*5)).block,(d.add ((j+1)*5)).off+3,none⟩=some (sl F y.Z3 J)/\w'.cell? ⟨(d.add ((j+1)*5)).block,(d.add ((j+1)*5)).off+4,none⟩=some (sl G y.ZW I)) K):=hid (by
    intro U K ⟨h1,_⟩ h2;have h:Bw wr K:=h1.trans (h2.mono h1.size);exact⟨h,(h.cell (p:=(d.add (j*5))) D).trans a0,ct a1 h D,ct a2 h D,ct a3 h D,ct a4 h D,(h.cell (p:=(d.add ((j+1)*5))) C).trans N,ct b1 h C,ct b2 h C,ct b3 h C,ct b4 h C⟩)
   have V:=fun W=>Ll x y X n Y m F J G I W
   unfold Tb.cs at V;generalize Xg x y=r at*;go_wp2_with fail;go_region_held_law (fun w'=>Bw wr w'/\w'.cell? (d.add (j*5))=some (sT x.Z9)/\w'.cell? ⟨(d.add (j*5)).block,(d.add (j*5)).off+1,none⟩=some (sT x.name)/\w'.cell? ⟨(d.add (j*5)).block,(d.add (j*5)).off+2,none⟩=some (sT x.ZN)/\w'.cell? ⟨(d.add (j*5)).block,(d.add (j*5)).off+3,none⟩=some (sl X x.Z3 n)/\w'.cell? ⟨(d.add (j*5)).block,(d.add (j*5)).off+4,none⟩=some (sl Y x.ZW m)/\w'.cell? (d.add ((j+1)*5))=some (sT y.Z9)/\w'.cell? ⟨(d.add ((j+1)*5)).block,(d.add ((j+1)*5)).off+1,none⟩=some (sT y.name)/\w'.cell? ⟨(d.add ((j+1)*5)).block,(d.add ((j+1)*5)).off+2,none⟩=some (sT y.ZN)/\w'.cell? ⟨(d.add ((j+1)*5)).block,(d.add ((j+1)*5)).off+3,none⟩=some (sl F y.Z3 J)/\w'.cell? ⟨(d.add ((j+1)*5)).block,(d.add ((j+1)*5)).off+4,none⟩=some (sl G y.ZW I))
    (first | exact aa.o _ _ (by assumption) (by assumption) | exact⟨ae,a0,a1,a2,a3,a4,N,b1,b2,b3,b4⟩)
    (first | (go_at_call 104;refine(V _).mono ?_;rintro e w' ⟨rfl,hb⟩;have hb:=hb.below))
   rename_i hS;have Z:=bt E hS.1;clear hS;by_cases hq:r<0
   ·have L:Hid (Zt Xg l=Zt Xg (l.drop (j+1))):=hid (by rw [HX.o];simp [hq]);have af: ¬ r>=0:=by omega
    have ag: ¬ 0<=r:=by omega
    go_wp2;go_roundw
    case rel=>exact⟨j+1,by omega,by go_num,L,Z⟩
    case measure=>simp [intOf];omega
   ·have L:Hid (Zt Xg l=false):=hid (by rw [HX.o];simp [hq]);have af:r>=0:=by omega
    have ag:0<=r:=by omega
    go_wp2;go_ret;exact⟨by rw [L.o];rfl,Z.o⟩
  ·have HR:Hid (Zt Xg l=true):=hid (HE.o.trans (SE Xg l j (by omega)));have ab: ¬ (j:Int)<max 0 ((l.length:Int) - 1):=by omega
   go_wp2;go_ret;exact⟨by rw [HR.o];rfl,E.o⟩
def Ru.Zo (r:Ru)(M:Nat):Prop:=r.Z3.length<=M/\r.Z9.length<=M/\r.ZZ.length<=M/\r.key.length<=M
theorem Ks (l:List lU)(h:0<l.length):l.headD []=l[0]:=by
 cases l with
 | nil=>simp at h
 | cons a t=>rfl
theorem F8 (a b c:lU):(Z2 a ++Z2 b ++Z2 c).toList.isEmpty=(a ++b ++c == []):=by
 rw [ByteArray.toList_eq];have h:(Z2 a ++Z2 b ++Z2 c).data.toList=a ++b ++c:=by simp [Z2,ByteArray.data_append]
 rw [h]
 cases a ++b ++c <;> rfl
theorem Rr (l:List Cl)(cs:List lU)(j:Nat)(h:j<cs.length):YL l cs j (cs.drop j)=((Y7 l cs[j]).isSome && cs.findIdx? (· == cs[j]) == some j && YL l cs (j+1) (cs.drop (j+1))):=by
 rw [List.drop_eq_getElem_cons h];rfl
theorem Md (cs:List lU)(n:lU):cs.findIdx? (· == n)=cs.findIdx? (fun m=>n == m):=by
 congr 1
 funext m
 exact Bool.eq_iff_iff.2 ⟨fun h=>by simp_all,fun h=>by simp_all⟩
theorem Su (o:Option Nat):o.isSome=decide (0<=WS o):=by
 cases o with
 | none=>rfl
 | some i=>simp [WS]
theorem LY (l:List Cl)(r:Ru)(A:oA)(k:Nat)(B:oA)(n:Nat)(w:World)(hA:ZT w (· < w.heap.size) Zz (l.map Cl.da) A)(hB:ZT w (· < w.heap.size) [.Z2] (YV r.Z3) B)
  (K:l.length<=1099511627776) (hr:r.Zo 1099511627776):
  cQ 161 #[.slice A l.length k,.agg (r.cs B n).toArray] w fun e w'=>e= .returned (.bool (YA l r))/\Bw w w':=by
 have HA:=hid hA;have HB:=hid hB;clear hA hB;obtain⟨hm,t1,t2,t3⟩:=hr;have z1: ¬ 9223372036854775807< (Z2 r.Z9).size+ (Z2 r.ZZ).size:=by rw [Yk,Yk];omega
 have z2: ¬ 9223372036854775807< (Z2 r.Z9).size+ (Z2 r.ZZ).size+ (Z2 r.key).size:=by rw [Yk,Yk,Yk];omega
 have D:Hid (YA l r=(Zw r.name && decide (1<=r.Z3.length) && decide (r.Z3.length<=l.length) && YL l r.Z3 0 r.Z3 && Tn l r)):=hid rfl;unfold Ru.cs;go_enter func161,ntmps161
 go_wp2_with fail;refine Zi _ fun W hW=> ?_
 have N:=bP hW;have ab:=nC hW;clear hW;refine(YI r.name W).mono ?_
 rintro e w1 ⟨rfl,L,rfl⟩
 cases hN:Zw r.name
 ·rw [hN] at D;have O:Hid (YA l r=false):=hid D.o;go_wp2;go_ret;exact⟨by rw [O.o];rfl,below_drewN N.o L⟩
 have c2:=cd (ab.o.drewN L) 2;rw [hN,Bool.true_and] at D;by_cases h1:r.Z3.length<1
 ·have O:Hid (YA l r=false):=hid (by rw [D.o,decide_eq_false (by omega)];rfl);have an:(r.Z3.length:Int)<1:=by omega
  go_wp2;go_ret;exact⟨by rw [O.o];rfl,below_drewN N.o L⟩
 rw [decide_eq_true (show 1<=r.Z3.length by omega),Bool.true_and] at D;have an: ¬ (r.Z3.length:Int)<1:=by omega
 by_cases h2:r.Z3.length > l.length
 ·have O:Hid (YA l r=false):=hid (by rw [D.o,decide_eq_false (by omega)];rfl);have ao:(r.Z3.length:Int) >(l.length:Int):=by omega
  go_wp2;go_ret;exact⟨by rw [O.o];rfl,below_drewN N.o L⟩
 rw [decide_eq_true (show r.Z3.length<=l.length by omega),Bool.true_and] at D;have ao: ¬ (r.Z3.length:Int) >(l.length:Int):=by omega
 have ae:=hid (below_drewN N.o L);have af:=hid (ab.o.drewN L);clear N ab;generalize W.drewN L=W1 at*;go_wp2;go_loopw [29] (fun i wr=> ∃ j:Nat,j<=r.Z3.length/\i=i6 j/\Hid (YL l r.Z3 0 r.Z3=YL l r.Z3 j (r.Z3.drop j))/\Hid (∀ n∈r.Z3.take j,(Y7 l n).isSome=true)/\Hid (Bw w wr)/\Hid (ZP wr w.heap.size 40 [sT r.name,i6 r.ZV,.slice B r.Z3.length n,i6 r.low,i6 r.ZB,sT r.Z9,sT r.ZZ,sT r.key])) (fun i _=>r.Z3.length - (intOf i).toNat)
 case atStart=>exact⟨0,Nat.zero_le _,rfl,hid (by rw [List.drop_zero]),hid (by simp),ae,af⟩
 case round=>
  clear ae af c2;obtain⟨j,hj,rfl,HE,HS,s,F⟩:=hrel;have c2:=ce F 2;by_cases hlt:j<r.Z3.length
  ·obtain⟨ad,rfl,a0⟩:=RB (HB.o.below s.o) hlt;have V:Hid (YL l r.Z3 0 r.Z3=((Y7 l r.Z3[j]).isSome && r.Z3.findIdx? (· == r.Z3[j]) == some j && YL l r.Z3 (j+1) (r.Z3.drop (j+1)))):=hid (HE.o.trans (Rr l r.Z3 j hlt));have HT:Hid (r.Z3.take (j+1)=r.Z3.take j ++ [r.Z3[j]]):=hid (List.take_succ_eq_append_getElem hlt);generalize r.Z3[j]=nm at*;go_wp2_with fail;have J:=Xl (l.map Cl.da) A k nm wr ((HA.o.below s.o).YW (fun _ h=>Nat.lt_of_lt_of_le h s.o.size) fun _ _=>rfl) (by simpa using K);rw [List.length_map,XL] at J;refine J.mono ?_
   rintro e w2 ⟨rfl,hb⟩;have C:=bt s hb;have U:=bl F hb;have d2:=ce U 2;clear hb J F s a0 c2;rw [Su] at V;have am:Hid (0<=WS (Y7 l nm)-> ∀ n∈r.Z3.take (j+1),(Y7 l n).isSome=true):=hid fun h n K=>by
    rw [HT.o,List.mem_append,List.mem_singleton] at K;rcases K with K | rfl
    ·exact HS.o n K
    ·rw [Su];exact decide_eq_true h
   generalize WS (Y7 l nm)=p at*;by_cases hp:p<0
   ·have T:Hid (YA l r=false):=hid (by rw [D.o,V.o,decide_eq_false (by omega)];rfl);go_wp2;go_ret;exact⟨by rw [T.o];rfl,C.o⟩
   have ar:=hid (am.o (by omega));rw [decide_eq_true (show 0<=p by omega),Bool.true_and,Md,Ii,<-US] at V;go_wp2_with fail;have cI:=NV r.Z3 (some ad) n nm w2 ((HB.o.below C.o).YW (fun _ h=>Nat.lt_of_lt_of_le h C.o.size) fun _ _=>rfl) hm;refine cI.mono ?_
   rintro e w3 ⟨rfl,rfl⟩;clear cI;generalize Zd (fun m=>nm == m) r.Z3 0=q at*;by_cases hq:q=j
   ·subst hq;have T:Hid (YL l r.Z3 0 r.Z3=YL l r.Z3 (j+1) (r.Z3.drop (j+1))):=hid (by rw [V.o];simp)
    go_wp2;go_roundw
    case rel=>exact⟨j+1,by omega,by go_num,T,ar,C,U⟩
    case measure=>simp [intOf];omega
   ·have T:Hid (YA l r=false):=hid (by rw [D.o,V.o];simp [hq]);have aB:(q ==(j:Int))=false:=by simpa using hq
    have aC:(q !=(j:Int))=true:=by simp [hq]
    go_wp2;go_ret;exact⟨by rw [T.o];rfl,C.o⟩
  ·obtain rfl:j=r.Z3.length:=by omega
   rw [List.drop_length] at HE;rw [List.take_length] at HS;have G:Hid (YA l r=Tn l r):=hid (by rw [D.o,HE.o];rfl)
   clear D HE;have c1:=ce F 1;have c3:=ce F 3;have c4:=ce F 4;have c5:=ce F 5;have c6:=ce F 6;have c7:=ce F 7;have az:(Z2 r.Z9 ++Z2 r.ZZ ++Z2 r.key).toList.isEmpty=QX r:=F8 _ _ _;have I:Hid (Tn l r=if r.ZV=3 then QX r && r.Z3.length == 1 && Yf l (r.Z3.headD []) == some 2 && decide (r.low<=r.ZB)
    else if r.ZV=4 then Zw r.Z9 && Zw r.ZZ && Zw r.key && r.low == 0 && r.ZB == 0
    else if r.ZV=1∨r.ZV=2 then QX r && r.low == 0 && r.ZB == 0 else false):=hid rfl
   generalize QX r=bp at*;by_cases h3:r.ZV=3
   ·have u:Hid (YA l r=(bp && r.Z3.length == 1 && Yf l (r.Z3.headD []) == some 2 && decide (r.low<=r.ZB))):=hid (by rw [G.o,I.o,if_pos h3]);clear G I
    cases bp
    ·have d:Hid (YA l r=false):=hid u.o;go_wp2;go_ret;exact⟨by rw [d.o];rfl,s.o⟩
    by_cases h6:r.Z3.length=1
    ·have ag:((r.Z3.length:Int) == 1)=true:=by simp;omega
     have ah:r.Z3.headD []=r.Z3[0]:=Ks _ (by omega);obtain⟨ad,rfl,a0⟩:=RB (HB.o.below s.o) (show 0<r.Z3.length by omega);have ay:(0:Int)< (r.Z3.length:Int):=by omega
     have ak:=hid (HS.o r.Z3[0] (List.getElem_mem _));have ai:Hid (YA l r=(Yf l r.Z3[0] == some 2 && decide (r.low<=r.ZB))):=hid (by rw [u.o,ah];simp [h6]);have av:wr.cell? ad=some (.string (Z2 r.Z3[0])):=a0;have aj:=hid (fun i=> @NU l r.Z3[0] i);clear u a0 ah HS;generalize r.Z3[0]=nm at*;go_wp2_with fail;have J:=Xl (l.map Cl.da) A k nm wr ((HA.o.below s.o).YW (fun _ h=>Nat.lt_of_lt_of_le h s.o.size) fun _ _=>rfl) (by simpa using K);rw [List.length_map,XL] at J;refine J.mono ?_
     rintro e w2 ⟨rfl,hb⟩;have C:=bt s hb;have U:=bl F hb;clear hb J
     cases hc:Y7 l nm with
     | none=>exact absurd ak.o (by rw [hc];simp)
     | some i=>
      obtain⟨hi,hk⟩:=aj.o i hc;have aa:Hid (YA l r=(l[i].ZV == 2 && decide (r.low<=r.ZB))):=hid (by rw [ai.o,hk];rfl)
      obtain⟨aw,vs,rfl,hv,hr⟩:=(HA.o.below C.o).at_ (j:=i) (by simpa using hi);rw [List.getElem_map] at hv;generalize l[i]=cl at*;obtain rfl:=Cl.YY hv;have a1:=ef (m:=i*3) hr 1;have d3:=ce U 3;have d4:=ce U 4;rw [show WS (some i)=(i:Int) from rfl];clear hv hr;have hi':(0:Int)<=(i:Int):=by omega
      have aA:(i:Int)< (l.length:Int):=by omega
      cases h7:(cl.ZV == 2)
      ·rw [h7] at aa;have d:Hid (YA l r=false):=hid aa.o;go_wp2;go_ret;exact⟨by rw [d.o];rfl,C.o⟩
      ·rw [h7,Bool.true_and] at aa;go_wp2;go_ret;exact⟨by rw [aa.o];rfl,C.o⟩
    ·have ag:((r.Z3.length:Int) == 1)=false:=by simp;omega
     have d:Hid (YA l r=false):=hid (by rw [u.o];simp [h6]);go_wp2;go_ret;exact⟨by rw [d.o];rfl,s.o⟩
   by_cases h4:r.ZV=4
   ·have u:Hid (YA l r=(Zw r.Z9 && Zw r.ZZ && Zw r.key && r.low == 0 && r.ZB == 0)):=hid (by rw [G.o,I.o,if_neg h3,if_pos h4]);clear G I;have hs:=fun W=>YI r.Z9 W
    have ht:=fun W=>YI r.ZZ W
    have hk:=fun W=>YI r.key W
    generalize Zw r.Z9=n1 at*;generalize Zw r.ZZ=n2 at*;generalize Zw r.key=n3 at*;go_wp2_with fail;refine(hs _).mono ?_
    rintro e w2 ⟨rfl,M,rfl⟩
    cases n1
    ·have d:Hid (YA l r=false):=hid u.o;go_wp2;go_ret;exact⟨by rw [d.o];rfl,below_drewN s.o M⟩
    have e6:(wr.drewN M).cell? (aD w.heap.size 6)=some (sT r.ZZ):=c6;go_wp2_with fail;refine(ht _).mono ?_
    rintro e w2 ⟨rfl,Z,rfl⟩
    cases n2
    ·have d:Hid (YA l r=false):=hid u.o;go_wp2;go_ret;exact⟨by rw [d.o];rfl,below_drewN s.o (M+Z)⟩
    have e7:((wr.drewN M).drewN Z).cell? (aD w.heap.size 7)=some (sT r.key):=c7;go_wp2_with fail;refine(hk _).mono ?_
    rintro e w2 ⟨rfl,m4,rfl⟩;have C:=hid (below_drewN s.o (M+Z+m4));have d3:(wr.drewN (M+Z+m4)).cell? (aD w.heap.size 3)=some (i6 r.low):=c3;have d4:(wr.drewN (M+Z+m4)).cell? (aD w.heap.size 4)=some (i6 r.ZB):=c4
    cases n3
    ·have d:Hid (YA l r=false):=hid u.o;go_wp2;go_ret;exact⟨by rw [d.o];rfl,C.o⟩
    by_cases hl0:r.low=0
    ·by_cases hh0:r.ZB=0
     ·have d:Hid (YA l r=true):=hid (by rw [u.o];simp [hl0,hh0]);go_wp2;go_ret;exact⟨by rw [d.o];rfl,C.o⟩
     ·have d:Hid (YA l r=false):=hid (by rw [u.o];simp [hh0]);have ac:(r.ZB == 0)=false:=by simpa using hh0
      go_wp2;go_ret;exact⟨by rw [d.o];rfl,C.o⟩
    ·have d:Hid (YA l r=false):=hid (by rw [u.o];simp [hl0]);have ac:(r.low == 0)=false:=by simpa using hl0
     go_wp2;go_ret;exact⟨by rw [d.o];rfl,C.o⟩
   by_cases E:r.ZV=1∨r.ZV=2
   ·have u:Hid (YA l r=(bp && r.low == 0 && r.ZB == 0)):=hid (by rw [G.o,I.o,if_neg h3,if_neg h4,if_pos E]);clear G I;have ap:(r.ZV == 3)=false:=by simpa using h3
    have aq:(r.ZV == 4)=false:=by simpa using h4
    have au:(r.ZV == 1)=true∨(r.ZV == 1)=false/\(r.ZV == 2)=true:=by rcases E with E | E <;> simp [E]
    clear E;rcases au with E | ⟨E,h6⟩
    all_goals
     cases bp
     ·have d:Hid (YA l r=false):=hid u.o;go_wp2;go_ret;exact⟨by rw [d.o];rfl,s.o⟩
     by_cases hl0:r.low=0
     ·by_cases hh0:r.ZB=0
      ·have d:Hid (YA l r=true):=hid (by rw [u.o];simp [hl0,hh0]);go_wp2;go_ret;exact⟨by rw [d.o];rfl,s.o⟩
      ·have d:Hid (YA l r=false):=hid (by rw [u.o];simp [hh0]);have ac:(r.ZB == 0)=false:=by simpa using hh0
       go_wp2;go_ret;exact⟨by rw [d.o];rfl,s.o⟩
     ·have d:Hid (YA l r=false):=hid (by rw [u.o];simp [hl0]);have ac:(r.low == 0)=false:=by simpa using hl0
      go_wp2;go_ret;exact⟨by rw [d.o];rfl,s.o⟩
   have d:Hid (YA l r=false):=hid (by rw [G.o,I.o,if_neg h3,if_neg h4,if_neg E]);have ap:(r.ZV == 3)=false:=by simpa using h3
   have aq:(r.ZV == 4)=false:=by simpa using h4
   have ax:(r.ZV == 1)=false:=by simp;exact fun h=>E (Or.inl h)
   have ag:(r.ZV == 2)=false:=by simp;exact fun h=>E (Or.inr h)
   go_wp2;go_ret;exact⟨by rw [d.o];rfl,s.o⟩
theorem ZT.later {w W:World}{l:List Sh}{ds:List (List Da)}{A:Option Addr}(h:ZT w (· < w.heap.size) l ds A)(hb:Below w.heap.size w W):ZT W (· < W.heap.size) l ds A:=
 (h.below hb).YW (fun _ h=>Nat.lt_of_lt_of_le h hb.size) fun _ _=>rfl
def Uq (w:World)(l:List Int)(A:Option Addr):Prop:= ∀ (j:Nat) (h:j<l.length),∃ ad,A=some ad/\w.cell? (ad.add j)=some (.int .i64 l[j])
theorem Uq.own {w:World}{base c:Nat}{l:List Int}{A:Option Addr}{n:Nat}(h:w.ownsRow base 62 1 (.slice A n c) n (Pp l))(C:n=l.length):Uq w l A:=by
 intro j m;obtain⟨g,cap,s,_,u⟩:=h.form (by omega);have d:A=some ⟨g,0,none⟩:=by injection s
 subst d;exact⟨_,rfl,h.cells (g:=g) rfl j _ (by simp [Pp,m])⟩
theorem Uq.below {w W:World}{B:Nat}{l:List Int}{A:Option Addr}(h:Uq w l A)(hb:Below w.heap.size w W):Uq W l A:=fun j s=>by
 obtain⟨m,e,d⟩:=h j s;exact⟨m,e,(hb.cell (World.block_lt_of_cell? w _ d)).trans d⟩
theorem Me (l m:List Int)(A:Option Addr)(k:Nat)(B:Option Addr)(n:Nat)(w:World)(L:Uq w l A)(M:Uq w m B)(hl:l.length<=1099511627776)(hm:m.length<=1099511627776):
  Calls prog 237 #[.slice A l.length k,.slice B m.length n] w fun e w'=>e= .returned (.bool (decide (l=m)))/\Below w.heap.size w w':=by
 have V:=hid L;have Z:=hid M;clear L M;by_cases hlen:l.length=m.length
 ·have I:=hid hlen;rw [hlen];clear hlen;go_enter func237,ntmps237
  go_wp2;go_loopw [13] (fun i wr=> ∃ j:Nat,j<=m.length/\i= .int .i64 j/\Hid (decide (l=m)=decide (l.drop j=m.drop j))/\Hid (Below w.heap.size w wr)) (fun i _=>m.length - (intOf i).toNat)
  case atStart=>exact⟨0,Nat.zero_le _,rfl,hid (by rw [List.drop_zero,List.drop_zero]),hid br⟩
  case round=>
   obtain⟨j,hj,rfl,G,s⟩:=hrel;by_cases hlt:j<m.length
   ·have C:j<l.length:=by have:=I.out;omega
    obtain⟨K,rfl,a0⟩:=V.out j C;obtain⟨E,rfl,u⟩:=Z.out j hlt;have N:decide (l=m)=(decide (l[j]=m[j]) && decide (l.drop (j+1)=m.drop (j+1))):=by
     rw [G.out,List.drop_eq_getElem_cons hlt,List.drop_eq_getElem_cons C,Bool.eq_iff_iff];simp only [decide_eq_true_eq,Bool.and_eq_true,List.cons.injEq]
    have J:=hid N;clear N;generalize l[j]=x at*;generalize m[j]=y at*;have hz:=World.block_lt_of_cell? w _ a0;have U:=World.block_lt_of_cell? w _ u;have c0:wr.cell? (K.add j)=some (.int .i64 x):=ct a0 s.out hz;have c1:wr.cell? (E.add j)=some (.int .i64 y):=ct u s.out U;clear a0 u;have aa:(j:Int)< (m.length:Int):=by omega
    have F:Below w.heap.size w wr.drew:=s.out.drew;go_wp2_with fail;go_region_held_law (fun w'=>Below w.heap.size w w'/\w'.cell? (K.add j)=some (.int .i64 x)/\w'.cell? (E.add j)=some (.int .i64 y))
     (first | exact⟨F,c0,c1⟩ | assumption)
     (fail)
    have D:Hid (Below w.heap.size w wr.drew):=hid F;by_cases hq:x=y
    ·have d:Hid (decide (l=m)=decide (l.drop (j+1)=m.drop (j+1))):=hid (by rw [J.out];simp [hq]);have O:(x == y)=true:=by simpa using hq
     have T:(x != y)=false:=by simp [hq]
     go_wp2;go_roundw
     case rel=>exact⟨j+1,by omega,by go_num,d,D⟩
     case measure=>simp [intOf];omega
    ·have d:Hid (decide (l=m)=false):=hid (by rw [J.out];simp [hq]);have O:(x == y)=false:=by simpa using hq
     have T:(x != y)=true:=by simp [hq]
     go_wp2;go_ret;exact⟨by rw [d.out];rfl,D.out⟩
   ·obtain rfl:j=m.length:=by omega
    have d:Hid (decide (l=m)=true):=hid (by rw [G.out,List.drop_length,List.drop_eq_nil_of_le (by have:=I.out;omega)];rfl);go_wp2;go_ret;exact⟨by rw [d.out];rfl,s.out⟩
 ·have d:Hid (decide (l=m)=false):=hid (decide_eq_false fun h=>hlen (by rw [h]));have h1:((l.length:Int) ==(m.length:Int))=false:=by simp;omega
  have h2:((l.length:Int) !=(m.length:Int))=true:=by simp;omega
  go_enter func237,ntmps237
  go_wp2;go_ret;exact⟨by rw [d.out];rfl,Below.refl _ _⟩
def Tb.Zo (t:Tb)(M:Nat):Prop:=t.Z3.length<=M/\t.ZW.length<=M/\ ∀ r∈t.ZW,r.Zo M
def Ob.Zo (o:Ob)(M:Nat):Prop:=o.Z7.length<=M/\o.Z8.length<=M/\ ∀ t∈o.Z8,t.Zo M
theorem Wt {α:Type}{p:α->Bool}{l:List α}{i:Nat}(h:l.findIdx? p=some i): ∃ d:i<l.length,l.find? p=some l[i]:=by
 rw [List.findIdx?_eq_some_iff_getElem] at h;obtain⟨d,m,s⟩:=h;exact⟨d,List.find?_eq_some_iff_getElem.2 ⟨m,i,d,rfl,fun j u=>by simpa using s j u⟩⟩
theorem M9 {α:Type}{p:α->Bool}{l:List α}(h:l.findIdx? p=none):l.find? p=none:=by
 rw [List.findIdx?_eq_none_iff] at h;exact List.find?_eq_none.2 fun x d=>by simpa using h x d
theorem Ut (o:Ob)(s n:lU):Zd (ST s n) (o.Z8.map Tb.da) 0=WS (XA o s n):=by
 rw [UD,US];rfl
theorem Ts (o:Ob)(s n:lU):(o.Z8.map Tb.da).any (ST s n)=(XA o s n).isSome:=by
 rw [<-WN,Ut,Su]
theorem Rh (l:List Ru)(n:lU):Zd (fun d=>tx d 0 == n) (l.map Ru.da) 0=WS (SD l n):=by
 rw [UD,US];rfl
theorem Te (l:List Sc)(n:lU):Zd (fun d=>tx d 0 == n) (l.map Sc.da) 0=WS (Xd l n):=by
 rw [UD,US];rfl
theorem IW {o:Ob}{l:List Cl}{r:Ru}(h:XA o r.Z9 r.ZZ=none):UB o l r=61:=by
 unfold UB;rw [M9 h]
theorem IV {o:Ob}{l:List Cl}{r:Ru}{i:Nat}(h:XA o r.Z9 r.ZZ=some i): ∃ j:i<o.Z8.length,(SD o.Z8[i].ZW r.key=none->UB o l r=61)/\
  ∀ k,SD o.Z8[i].ZW r.key=some k-> ∃ m:k<o.Z8[i].ZW.length,UB o l r=if o.Z8[i].ZW[k].ZV≠2 then 61 else
   if o.Z8[i].ZW[k].Z3.length=r.Z3.length/\(YP o.Z8[i].Z3 o.Z8[i].ZW[k].Z3).length=o.Z8[i].ZW[k].Z3.length/\YP l r.Z3=YP o.Z8[i].Z3 o.Z8[i].ZW[k].Z3 then 0 else 63:=by
 obtain⟨j,d⟩:=Wt h;refine⟨j,fun C=> ?_,fun k m=> ?_⟩
 ·unfold UB;rw [d];dsimp only;rw [M9 C]
 ·obtain⟨u,s⟩:=Wt m;refine⟨u,?_⟩
  unfold UB;rw [d];dsimp only;rw [s]
theorem Js (o:Ob)(A0:oA)(k0:Nat)(A1:oA)(k1:Nat)(l:List Cl)(A:oA)(k:Nat)(r:Ru)(B:oA)(n:Nat)(w:World)(hT:ZT w (· < w.heap.size) Zn (o.Z8.map Tb.da) A1)
  (hA:ZT w (· < w.heap.size) Zz (l.map Cl.da) A) (hB:ZT w (· < w.heap.size) [.Z2] (YV r.Z3) B) (ho:o.Zo 1099511627776) (hl:l.length<=1099511627776) (E:r.Zo 1099511627776):
  cQ 162 #[.agg #[.slice A0 o.Z7.length k0,.slice A1 o.Z8.length k1],.slice A l.length k,.agg (r.cs B n).toArray] w fun e w'=>e= .returned (i6 (UB o l r))/\Bw w w':=by
 have HT:=hid hT;have HA:=hid hA;have HB:=hid hB;have HO:=hid ho.2.2;have aV:=ho.2.1;have hm:=E.1;clear hT hA hB ho E;have ay:=hid (@IW o l r);have az:=hid (fun i=> @IV o l r i);have HI:=iN 73 5;unfold Ru.cs;generalize UB o l r=C at*;go_enter func162,ntmps162
 go_wp2_with fail;refine Zi _ fun W D=> ?_
 have ah:=bQ D;have aC:=nD D;have aE:=nF D;clear D;have cW:=Us (o.Z7.map Sc.da) (o.Z8.map Tb.da) A0 k0 A1 k1 r.Z9 r.ZZ W (HT.o.later ah.o) (by simpa using aV);rw [List.length_map,List.length_map,Ut,Ts] at cW;refine cW.mono ?_
 rintro e L ⟨rfl,hb⟩;have N:=bt ah hb;have aG:=bl aC hb;have aj:=bl aE hb;clear hb cW ah aC aE
 cases ht:XA o r.Z9 r.ZZ with
 | none=>
  obtain rfl:C=61:=ay.o ht;go_wp2;go_ret;exact⟨rfl,N.o⟩
 | some i=>
  obtain⟨hi,ao,ap⟩:=az.o i ht;have aw:=hid ao;have ax:=hid ap;have T:=hid (HO.o o.Z8[i] (List.getElem_mem hi));clear ao ap ay az HO;obtain⟨ad,vs,rfl,I,E⟩:=(HT.o.later N.o).at_ (j:=i) (by simpa using hi);rw [List.getElem_map] at I;generalize o.Z8[i]=t at*;obtain⟨X,x,Y,y,rfl,hX,hY⟩:=Tb.YY I;have aR:=hid hX;have aH:=hid hY;have HG:Hid (∀ i' u,(t.cs X x Y y)[i']?=some u->L.cell? ((ad.add (i*5)).add i')=some u):=hid fun i' u hu=>by rw [ZG];exact E i' u hu
  clear I E hX hY;unfold Tb.cs at HG;have HL:Hid ((prog.info? 73).map (·.size)=some ([sT t.Z9,sT t.name,sT t.ZN,.slice X t.Z3.length x,.slice Y t.ZW.length y]:lV).length):=HI;have y1:=ce aG 1;rw [show WS (some i)=(i:Int) from rfl];have a6:(0:Int)<=(i:Int):=by omega
  have a7:(i:Int)< (o.Z8.length:Int):=by omega
  have y7:(L.alloc (.cells #[sT t.Z9,sT t.name,sT t.ZN,.slice X t.Z3.length x,.slice Y t.ZW.length y] 73)).cell? (aD (w.heap.size+1) 7)=some (sT r.key):=(aj.o.alloc _).cell 7;go_wp2_with (first | (with_reducible refine ZK rfl 73 _ rfl (ad.add (i*5)) rfl [sT t.Z9,sT t.name,sT t.ZN,.slice X t.Z3.length x,.slice Y t.ZW.length y] _ HG.o underlying73 rfl HL.o ?_) | fail);refine Zi _ fun W D=> ?_
  have ar:=rL D (N.o.alloc N.o.size _);have M:=bP D;have aF:=nC D;have aI:=bl aj M.o;clear D y7 y1 HG HL aG aj;have cR:=TQ (t.ZW.map Ru.da) Y y r.key W (aH.o.later M.o) (by simpa using T.o.2.1);rw [List.length_map,Rh] at cR;refine cR.mono ?_
  rintro e F ⟨rfl,hb⟩;have G:=bt ar hb;have ab:=bt M hb;have Z:=bl aF hb;have HZ:=bl aI hb;clear hb cR ar M aF aI
  cases hk:SD t.ZW r.key with
  | none=>
   obtain rfl:C=61:=aw.o hk;go_wp2;go_ret;exact⟨rfl,G.o⟩
  | some s=>
   obtain⟨aq,ag⟩:=ax.o s hk;have ac:=hid ag;have aK:=(T.o.2.2 t.ZW[s] (List.getElem_mem aq)).1;have aY:=T.o.1;clear ag aw ax T;obtain⟨aZ,vs,rfl,I,E⟩:=(aH.o.later ab.o).at_ (j:=s) (by simpa using aq);rw [List.getElem_map] at I;have aS:s<t.ZW.length:=aq;generalize t.ZW[s]=q at*;obtain⟨V,v,rfl,hV,_⟩:=Ru.YY I;have aQ:=hid hV;have q1:=ef (m:=s*8) E 1;have q2:=ef (m:=s*8) E 2;have z4:=ce Z 4;clear I E hV;rw [show WS (some s)=(s:Int) from rfl];have ao:(0:Int)<=(s:Int):=by omega
   have ap:(s:Int)< (t.ZW.length:Int):=by omega
   by_cases hq:q.ZV=2
   ·have U:Hid (C=if q.Z3.length=r.Z3.length/\(YP t.Z3 q.Z3).length=q.Z3.length/\YP l r.Z3=YP t.Z3 q.Z3 then 0 else 63):=hid (by rw [ac.o,if_neg (by simp [hq])]);clear ac;have aW:(q.ZV == 2)=true:=by simpa using hq
    have aX:(q.ZV != 2)=false:=by simp [hq]
    have s2:=ce HZ 2;have s3:=ce Z 3;go_wp2_with fail;have aU:=HZ.o.lt;have aT:=Z.o.lt;have aJ:(fun w'=>Bw F w'/\w'.cell? (aD (w.heap.size+1) 2)=some (.slice B r.Z3.length n)/\w'.cell? (aD L.heap.size 3)=some (.slice X t.Z3.length x)) F.drew:=⟨br.drew,s2,s3⟩
    have aa:Hid (∀ w',Bw F w'->(fun w'=>Bw F w'/\w'.cell? (aD (w.heap.size+1) 2)=some (.slice B r.Z3.length n)/\w'.cell? (aD L.heap.size 3)=some (.slice X t.Z3.length x)) w'):=hid fun w' h=>⟨h,ct s2 h aU,ct s3 h aT⟩
    refine wp_region_held_drew (S:=fun w'=>Bw F w'/\w'.cell? (aD (w.heap.size+1) 2)=some (.slice B r.Z3.length n)/\w'.cell? (aD L.heap.size 3)=some (.slice X t.Z3.length x)) (by kernel_rfl) aJ (fun d=> ?_)
    (try simp only [pp]);refine tk 0 52 d ?_;refine tk 1 53 d ?_;refine tk 2 54 d ?_;refine tk 4 56 d ?_;refine tk 5 57 d ?_;refine tk 6 58 d ?_;refine on 3 55 fun K J=> ?_
    go_simp;go_at_call 236
    have ak:Bw F F.drew:=br.drew;refine(NS l r.Z3 A k B n F.drew (HA.o.later (G.o.trans (ak.mono G.o.size))) (HB.o.later (G.o.trans (ak.mono G.o.size))) hl hm).mono ?_
    rintro e w5 ⟨A5,c5,rfl,aL,hb⟩;have O:Hid (Bw F w5):=hid (ak.trans hb);have aA:=hid aL;clear hb aL;refine J _ _ (aa.o _ O.o) (fun d=> ?_)
    clear J K;(try simp only [pp])
    refine on 7 59 fun K J=> ?_
    go_simp;go_at_call 236
    refine(NS t.Z3 q.Z3 X x V v w5 (aR.o.later (ab.o.trans (O.o.mono ab.o.size))) (aQ.o.later O.o) aY aK).mono ?_
    rintro e w6 ⟨A6,c6,rfl,aM,hb⟩;have au:=bt O hb;have aO:=hid ((Uq.own aA.o rfl).below (B:=0) hb);have aP:=hid (Uq.own aM rfl);clear hb aM aA;refine J _ _ (aa.o _ au.o) (fun d=> ?_)
    clear J K;(try simp only [pp])
    refine tk 8 12 d ?_;refine tk 9 13 d ?_;refine wpAnyH_done (by kernel_rfl) ?_ _
    have l5:(YP l r.Z3).length<=1099511627776:=Nat.le_trans (List.length_filterMap_le _ _) hm;have l6:(YP t.Z3 q.Z3).length<=1099511627776:=Nat.le_trans (List.length_filterMap_le _ _) aK;have ai:=bt G au.o;have u2:w6.cell? (aD (w.heap.size+1) 2)=some (.slice B r.Z3.length n):=d.2.1;clear d aJ aa s2 s3 z4 q1 q2 Z HZ;generalize YP l r.Z3=ks at*;generalize YP t.Z3 q.Z3=ls at*;by_cases hc1:q.Z3.length=r.Z3.length
    ·have am:((q.Z3.length:Int) ==(r.Z3.length:Int))=true:=by simp;omega
     have ae:((q.Z3.length:Int) !=(r.Z3.length:Int))=false:=by simp;omega
     by_cases hc2:ls.length=q.Z3.length
     ·have an:((ls.length:Int) ==(q.Z3.length:Int))=true:=by simp;omega
      have af:((ls.length:Int) !=(q.Z3.length:Int))=false:=by simp;omega
      have aB:Hid (C=if decide (ks=ls)=true then 0 else 63):=hid (by rw [U.o];simp [hc1,hc2]);clear hc1 hc2 U;go_wp2_with fail;refine(Me ks ls A5 c5 A6 c6 w6 aO.o aP.o l5 l6).mono ?_
      rintro e w7 ⟨rfl,hb⟩;have av:=bt ai hb;clear hb;generalize decide (ks=ls)=bb at*
      cases bb
      ·obtain rfl:C=63:=aB.o;go_wp2;go_ret;exact⟨rfl,av.o⟩
      ·obtain rfl:C=0:=aB.o;go_wp2;go_ret;exact⟨rfl,av.o⟩
     ·obtain rfl:C=63:=by rw [U.o,if_neg (fun h=>hc2 h.2.1)]
      have an:((ls.length:Int) ==(q.Z3.length:Int))=false:=by simp;omega
      have af:((ls.length:Int) !=(q.Z3.length:Int))=true:=by simp;omega
      go_wp2;go_ret;exact⟨rfl,ai.o⟩
    ·obtain rfl:C=63:=by rw [U.o,if_neg (fun h=>hc1 h.1)]
     have am:((q.Z3.length:Int) ==(r.Z3.length:Int))=false:=by simp;omega
     have ae:((q.Z3.length:Int) !=(r.Z3.length:Int))=true:=by simp;omega
     go_wp2;go_ret;exact⟨rfl,ai.o⟩
   ·obtain rfl:C=61:=by rw [ac.o,if_pos hq]
    have aW:(q.ZV == 2)=false:=by simpa using hq
    have aX:(q.ZV != 2)=true:=by simp [hq]
    go_wp2;go_ret;exact⟨rfl,G.o⟩
theorem Vi {α:Type}(p:α->Bool)(l:List α)(j:Nat)(h:j<l.length):(l.drop j).all p=(p l[j] && (l.drop (j+1)).all p):=by
 rw [List.drop_eq_getElem_cons h];rfl
theorem NH (o:Ob)(G:oA)(k0:Nat)(K:oA)(k1:Nat)(t:Tb)(X:oA)(x:Nat)(Y:oA)(y:Nat)(w:World)(hS:ZT w (· < w.heap.size) Ze (o.Z7.map Sc.da) G)(hT:ZT w (· < w.heap.size) Zn (o.Z8.map Tb.da) K)
  (hX:ZT w (· < w.heap.size) Zz (t.Z3.map Cl.da) X) (hY:ZT w (· < w.heap.size) YF (t.ZW.map Ru.da) Y) (ho:o.Zo 1099511627776) (Z:t.Zo 1099511627776):
  cQ 109 #[.agg #[.slice G o.Z7.length k0,.slice K o.Z8.length k1],.agg (t.cs X x Y y).toArray] w fun e w'=>e= .returned (.bool (YN o t))/\Bw w w':=by
 have HS:=hid hS;have HT:=hid hT;have ag:=hid hX;have aq:=hid hY;have HO:=hid ho;have av:=hid Z;have ah:=Z.1;have aB:=Z.2.1;have aC:=ho.1;clear hS hT hX hY ho Z;have h:Hid (YN o t=(Zw t.name && Zw t.ZN && YJ t.Z3 && decide (t.ZW.length<=8) && (Xd o.Z7 t.Z9).isSome && t.ZW.all (U4 o t) && Zt WM t.ZW)):=hid rfl;have HI:=iN 40 8;unfold Tb.cs;generalize YN o t=res at*;go_enter func109,ntmps109
 go_wp2_with fail;refine Zi _ fun W m=> ?_
 have ai:=bQ m;have ao:=nD m;have ap:=nF m;clear m;refine(YI t.name W).mono ?_
 rintro e w1 ⟨rfl,m1,rfl⟩;have aa:=hid (below_drewN ai.o m1);have Y0:=hid (ao.o.drewN m1);have Y1:=hid (ap.o.drewN m1);clear ai ao ap;generalize W.drewN m1=W1 at*;generalize Zw t.name=p1 at*
 cases p1
 ·have d:Hid (res=false):=hid h.o;go_wp2;go_ret;exact⟨by rw [d.o];rfl,aa.o⟩
 rw [Bool.true_and] at h;have y2:=ce Y1 2;go_wp2_with fail;refine(YI t.ZN W1).mono ?_
 rintro e w1 ⟨rfl,m2,rfl⟩;have J:=hid (below_drewN aa.o m2);have Z0:=hid (Y0.o.drewN m2);have Z1:=hid (Y1.o.drewN m2);clear aa Y0 Y1 y2;generalize W1.drewN m2=W2 at*;generalize Zw t.ZN=p2 at*
 cases p2
 ·have d:Hid (res=false):=hid h.o;go_wp2;go_ret;exact⟨by rw [d.o];rfl,J.o⟩
 rw [Bool.true_and] at h;have z3:=ce Z1 3;go_wp2_with fail;refine(TD t.Z3 X x W2 (ag.o.later J.o) ah).mono ?_
 rintro e W3 ⟨rfl,hb⟩;have D:=bt J hb;have V0:=bl Z0 hb;have T:=bl Z1 hb;clear hb J Z0 Z1 z3;generalize YJ t.Z3=p3 at*
 cases p3
 ·have d:Hid (res=false):=hid h.o;go_wp2;go_ret;exact⟨by rw [d.o];rfl,D.o⟩
 rw [Bool.true_and] at h;have v4:=ce T 4;have v0:=ce T 0;have o0:=ce V0 0;by_cases h8:t.ZW.length<=8
 case neg=>
  have d:Hid (res=false):=hid (by rw [h.o,decide_eq_false h8];rfl);have ay:(t.ZW.length:Int) > 8:=by omega
  go_wp2;go_ret;exact⟨by rw [d.o];rfl,D.o⟩
 rw [decide_eq_true h8,Bool.true_and] at h;have ay: ¬ (t.ZW.length:Int) > 8:=by omega
 go_wp2_with fail;have cS:=VO (o.Z7.map Sc.da) G k0 t.Z9 W3 (HS.o.later D.o) (by simpa using aC);rw [List.length_map,Te] at cS;refine cS.mono ?_
 rintro e W4 ⟨rfl,hb⟩;have ab:=bt D hb;have U0:=bl V0 hb;have U1:=bl T hb;clear hb cS D V0 T v4 v0 o0;rw [Su] at h;generalize WS (Xd o.Z7 t.Z9)=p5 at*;by_cases h5:p5<0
 ·have d:Hid (res=false):=hid (by rw [h.o,decide_eq_false (by omega)];rfl);go_wp2;go_ret;exact⟨by rw [d.o];rfl,ab.o⟩
 have aE:=ce U1 4;rw [decide_eq_true (show 0<=p5 by omega),Bool.true_and] at h;go_wp2;go_loopw [40] (fun i wr=> ∃ j:Nat,j<=t.ZW.length/\i=i6 j/\Hid (t.ZW.all (U4 o t)=(t.ZW.drop j).all (U4 o t))/\Hid (Bw w wr)/\Hid (ZP wr w.heap.size 26 [.slice G o.Z7.length k0,.slice K o.Z8.length k1])/\Hid (ZP wr (w.heap.size+1) 73 [sT t.Z9,sT t.name,sT t.ZN,.slice X t.Z3.length x,.slice Y t.ZW.length y])) (fun i _=>t.ZW.length - (intOf i).toNat)
 case atStart=>exact⟨0,Nat.zero_le _,rfl,hid (by rw [List.drop_zero]),ab,U0,U1⟩
 case round=>
  clear ab U0 U1 aE;obtain⟨j,hj,rfl,HE,F,K0,N⟩:=hrel;by_cases hlt:j<t.ZW.length
  ·have M:=hid (HE.o.trans (Vi (U4 o t) t.ZW j hlt));have au:=av.o.2.2 t.ZW[j] (List.getElem_mem hlt);obtain⟨ad,vs,rfl,hv,hr⟩:=(aq.o.later F.o).at_ (j:=j) (by simpa using hlt);rw [List.getElem_map] at hv;generalize t.ZW[j]=q at*;obtain⟨V,v,rfl,hV,_⟩:=Ru.YY hv;have an:=hid hV;have HQ:=hid au;have HG:Hid (∀ i u,(q.cs V v)[i]?=some u->wr.cell? ((ad.add (j*8)).add i)=some u):=hid fun i u hu=>by rw [ZG];exact hr i u hu
   clear hv hr hV au;unfold Ru.cs at HG;have HL:Hid ((prog.info? 40).map (·.size)=some ([sT q.name,i6 q.ZV,.slice V q.Z3.length v,i6 q.low,i6 q.ZB,sT q.Z9,sT q.ZZ,sT q.key]:lV).length):=HI;have k3:(wr.alloc (.cells #[sT q.name,i6 q.ZV,.slice V q.Z3.length v,i6 q.low,i6 q.ZB,sT q.Z9,sT q.ZZ,sT q.key] 40)).cell? (aD (w.heap.size+1) 3)=some (.slice X t.Z3.length x):=(N.o.alloc _).cell 3;go_wp2_with (first | (with_reducible refine ZK rfl 40 _ rfl (ad.add (j*8)) rfl [sT q.name,i6 q.ZV,.slice V q.Z3.length v,i6 q.low,i6 q.ZB,sT q.Z9,sT q.ZZ,sT q.key] _ HG.o underlying40 rfl HL.o ?_) | fail);refine Zi _ fun Wl m=> ?_
   have E:=rL m (F.o.alloc F.o.size _);have ac:=bP m;have am:=nC m;have M0:=rB m (K0.o.alloc _);have M1:=rB m (N.o.alloc _);clear m k3 HG HL K0 N;have cF:=LY t.Z3 q X x V v Wl (ag.o.later E.o) (an.o.later ac.o) ah HQ.o;unfold Ru.cs at cF;refine cF.mono ?_
   rintro e w2 ⟨rfl,hb⟩;have C:=bt E hb;have ae:=bt ac hb;have s:=bl am hb;have I:=bl M0 hb;have O:=bl M1 hb;clear hb cF E ac am M0 M1;have L:Hid (U4 o t q=(YA t.Z3 q && (q.ZV != 4 || UB o t.Z3 q == 0))):=hid rfl;have ar:=fun W' h1 h2 h3=>Js o G k0 K k1 t.Z3 X x q V v W' h1 h2 h3 HO.o ah HQ.o
   generalize YA t.Z3 q=f1 at*;generalize UB o t.Z3 q=kp at*
   cases f1
   ·have d:Hid (res=false):=hid (by rw [h.o,M.o,L.o];rfl);go_wp2;go_ret;exact⟨by rw [d.o];rfl,C.o⟩
   rw [Bool.true_and] at L;have b1:=ce s 1;by_cases h4:q.ZV=4
   case neg=>
    have ax:(q.ZV == 4)=false:=by simpa using h4
    have af:Hid (t.ZW.all (U4 o t)=(t.ZW.drop (j+1)).all (U4 o t)):=hid (by rw [M.o,L.o];simp [h4]);go_wp2;go_roundw
    case rel=>exact⟨j+1,by omega,by go_num,af,C,I,O⟩
    case measure=>simp [intOf];omega
   have ax:(q.ZV == 4)=true:=by simpa using h4
   have ak:Hid (U4 o t q=(kp == 0)):=hid (by rw [L.o];simp [h4]);have b0:=ce s 0;have b2:=ce s 2;have b3:=ce s 3;have b4:=ce s 4;have b5:=ce s 5;have b6:=ce s 6;have b7:=ce s 7;have b8:=ce I 0;have b9:=ce I 1;have aw:=ce O 3;go_wp2_with fail;have U:=ar w2 (HT.o.later C.o) (ag.o.later C.o) (an.o.later ae.o);unfold Ru.cs at U;clear ar;rw [h4] at U;refine U.mono ?_
   rintro e w3 ⟨rfl,hb⟩;have aj:=bt C hb;have P0:=bl I hb;have P1:=bl O hb;clear hb U C s I O b0 b1 b2 b3 b4 b5 b6 b7 b8 b9 aw;by_cases hk0:kp=0
   ·have af:Hid (t.ZW.all (U4 o t)=(t.ZW.drop (j+1)).all (U4 o t)):=hid (by rw [M.o,ak.o];simp [hk0]);have az:(kp == 0)=true:=by simpa using hk0
    have aA:(kp != 0)=false:=by simp [hk0]
    go_wp2;go_roundw
    case rel=>exact⟨j+1,by omega,by go_num,af,aj,P0,P1⟩
    case measure=>simp [intOf];omega
   ·have d:Hid (res=false):=hid (by rw [h.o,M.o,ak.o];simp [hk0]);have az:(kp == 0)=false:=by simpa using hk0
    have aA:(kp != 0)=true:=by simp [hk0]
    go_wp2;go_ret;exact⟨by rw [d.o];rfl,aj.o⟩
  ·obtain rfl:j=t.ZW.length:=by omega
   rw [List.drop_length] at HE;have d:Hid (res=Zt WM t.ZW):=hid (by rw [h.o,HE.o];rfl)
   have k4:=ce N 4;go_wp2_with fail;refine(J3 t.ZW Y y wr (aq.o.later F.o) aB).mono ?_
   rintro e w2 ⟨rfl,hb⟩;have E:=bt F hb;rw [<-d.o];clear hb;go_wp2;go_ret;exact⟨rfl,E.o⟩
end Go.Proofs.YtnhmoibjlakhjaaGreat
