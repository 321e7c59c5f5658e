/- Lemmas of the proof. No condition but each theorem's own. -/
import Derived.Test.YtnhmoibjlakhjaaGreatR16
import Derived.Sort.Grow
import Derived.Deep.Draws
import Derived.Test.YtnhmoibjlakhjaaGreatR18
import Derived.Test.YtnhmoibjlakhjaaGreatR03
import Derived.Test.YtnhmoibjlakhjaaGreatR10
set_option linter.unusedVariables false
set_option linter.unusedSimpArgs false
namespace Go.Proofs.YtnhmoibjlakhjaaGreat
open Lib (hid)
set_option maxRecDepth 100000
set_option maxHeartbeats 16000000
open Go.RowKit
structure WU (w w':World):Prop where
 below:Below w.heap.size w w'
 drawn:w.drawn≤w'.drawn
theorem WU.refl (w:World):WU w w:=⟨Below.refl _ _,Nat.le_refl _⟩
theorem WU.trans {a b c:World}(h:WU a b)(g:WU b c):WU a c:=⟨h.below.trans (g.below.mono h.below.size),Nat.le_trans h.drawn g.drawn⟩
theorem WU.drew (w:World):WU w w.drew:=⟨br.drew,Nat.le_succ _⟩
theorem WU.alloc (w:World)(o:Obj):WU w (w.alloc o):=⟨br.alloc lr o,Nat.le_refl _⟩
theorem WU.grown {w w':World}(h:WU w w'): ∃ q os,w'=Sort.grow (w.drewN q) os:=by
 obtain⟨⟨h1,h2,h3,h4,h5⟩,h6⟩:=h;refine⟨w'.drawn - w.drawn,w'.heap.extract w.heap.size w'.heap.size,?_⟩
 have hh:w'.heap=w.heap ++w'.heap.extract w.heap.size w'.heap.size:=by
  apply Array.ext_getElem?
  intro k;rw [Array.getElem?_append];split
  ·rename_i hk;exact h5 k hk
  ·rename_i hk;rw [Array.getElem?_extract];split
   ·congr 1
    omega
   ·rw [Array.getElem?_eq_none];omega
 have hd:w'.drawn=w.drawn+ (w'.drawn - w.drawn):=by omega
 unfold Sort.grow World.drewN;dsimp only;rw [←hh,←hd,←h1,←h2,←h3]
theorem RB (a:Int):QP a 0=a:=by
 unfold QP;split <;> simp_all
theorem Oi (a b:Tb)(A:Option Addr)(n:Nat)(B:Option Addr)(m:Nat)(A':Option Addr)(n':Nat)(B':Option Addr)(m':Nat)(w:World):
  Calls Tryz.prog 104 #[.agg (a.cs A n B m).toArray,.agg (b.cs A' n' B' m').toArray] w fun e w'=>e= .returned (.int .i64 (Xm a b))∧WU w w':=by
 unfold Tb.cs;have h0:=fun W=>XP a.Z8 b.Z8 W
 have h1:=fun W=>XP a.name b.name W
 have HE:Hid (Xm a b=Pm [Y4 a.Z8 b.Z8,Y4 a.name b.name]):=hid (by simp only [Xm,Pm,RB]);generalize Y4 a.Z8 b.Z8=r0 at*;generalize Y4 a.name b.name=r1 at*;have hor: ∀ g W,ZP W g 3 [.int .i64 r0,.int .i64 r1]→Calls Tryz.prog 149 #[.slice (some ⟨g,0,none⟩) 2 2] W fun e w'=>e= .returned (.int .i64 (Pm [r0,r1]))∧w'=W:=fun g W hB=>ND [r0,r1] g 2 W hB (by simp)
 generalize Xm a b=r at*;go_enter Tryz.func104,Tryz.ntmps104
 go_wp2;refine Uv _ fun W hW=> ?_
 have HB:Hid (WU w W):=hid (by rw [hW];exact(WU.alloc _ _).trans (WU.alloc _ _));have X0:Hid (ZP W w.heap.size 73 [.string (Z9 a.Z8),.string (Z9 a.name),.string (Z9 a.ZL),.slice A a.ZX.length n,.slice B a.ZS.length m]):=hid (by rw [hW];exact(ZP.new w 73 [.string (Z9 a.Z8),.string (Z9 a.name),.string (Z9 a.ZL),.slice A a.ZX.length n,.slice B a.ZS.length m]).alloc _);have X1:=nF hW;clear hW;have hS0:(fun w'=>WU W w'∧w'.cell? ⟨w.heap.size,0,none⟩=some (.string (Z9 a.Z8))∧w'.cell? ⟨w.heap.size+1,0,none⟩=some (.string (Z9 b.Z8))∧w'.cell? ⟨w.heap.size,1,none⟩=some (.string (Z9 a.name))∧w'.cell? ⟨w.heap.size+1,1,none⟩=some (.string (Z9 b.name))) W.drew:=⟨WU.drew W,(X0.out.drew.cell 0),(X1.out.drew.cell 0),(X0.out.drew.cell 1),(X1.out.drew.cell 1)⟩
 have hkeep:Hid (∀ w1 o,(fun w'=>WU W w'∧w'.cell? ⟨w.heap.size,0,none⟩=some (.string (Z9 a.Z8))∧w'.cell? ⟨w.heap.size+1,0,none⟩=some (.string (Z9 b.Z8))∧w'.cell? ⟨w.heap.size,1,none⟩=some (.string (Z9 a.name))∧w'.cell? ⟨w.heap.size+1,1,none⟩=some (.string (Z9 b.name))) w1→(fun w'=>WU W w'∧w'.cell? ⟨w.heap.size,0,none⟩=some (.string (Z9 a.Z8))∧w'.cell? ⟨w.heap.size+1,0,none⟩=some (.string (Z9 b.Z8))∧w'.cell? ⟨w.heap.size,1,none⟩=some (.string (Z9 a.name))∧w'.cell? ⟨w.heap.size+1,1,none⟩=some (.string (Z9 b.name))) (w1.alloc o)):=hid (by
  intro w1 o ⟨h0,_⟩;have h3:WU W (w1.alloc o):=h0.trans (WU.alloc _ _);exact⟨h3,cb X0 h3.below 0,cb X1 h3.below 0,cb X0 h3.below 1,cb X1 h3.below 1⟩)
 have hW1:w.heap.size+1<W.heap.size:=X1.out.lt;refine wp_region_held_drew (S:=fun w'=>WU W w'∧w'.cell? ⟨w.heap.size,0,none⟩=some (.string (Z9 a.Z8))∧w'.cell? ⟨w.heap.size+1,0,none⟩=some (.string (Z9 b.Z8))∧w'.cell? ⟨w.heap.size,1,none⟩=some (.string (Z9 a.name))∧w'.cell? ⟨w.heap.size+1,1,none⟩=some (.string (Z9 b.name))) (by kernel_rfl) hS0 (fun HD=> ?_)
 (try simp only [pp]);refine tk 0 5 HD ?_;refine tk 1 6 HD ?_;refine tk 2 7 HD ?_;refine tk 3 8 HD ?_;refine tk 5 10 HD ?_;refine tk 6 11 HD ?_;refine tk 7 12 HD ?_;refine tk 8 13 HD ?_;refine on 4 9 fun K hK=> ?_
 go_simp;go_at_call 107
 refine(h0 _).mono ?_
 rintro e w2 ⟨rfl,rfl⟩;refine hK _ _ HD (fun HD=> ?_)
 clear hK K;(try simp only [pp])
 refine on 9 14 fun K hK=> ?_
 go_simp;go_at_call 107
 refine(h1 _).mono ?_
 rintro e w2 ⟨rfl,rfl⟩;refine hK _ _ HD (fun HD=> ?_)
 clear hK K;(try simp only [pp])
 refine on 10 15 fun K hK=> ?_
 go_simp;refine hK _ _ (hkeep.out _ _ HD) (fun HD=> ?_)
 clear hK K;(try simp only [pp])
 refine on 11 16 fun K hK=> ?_
 go_simp;go_at_call 149
 refine(hor W.heap.size _ (ZP.new W _ _).drew).mono ?_
 rintro e w2 ⟨rfl,rfl⟩;refine hK _ _ HD (fun HD=> ?_)
 clear hK K;(try simp only [pp])
 refine tk 12 4 HD ?_;refine wpAnyH_done (by kernel_rfl) ?_ _
 have HF:Hid (WU w _):=hid (HB.out.trans HD.1);clear HD;go_wp2;go_ret;exact⟨by rw [HE.out];rfl,HF.out⟩
theorem Tv (a b:Mb) (w:World):
  Calls Tryz.prog 153 #[.agg (a.cs).toArray,.agg (b.cs).toArray] w fun e w'=>e= .returned (.int .i64 (X3 a b))∧WU w w':=by
 unfold Mb.cs;have h0:=fun W=>XP a.ZT b.ZT W
 have h1:=fun W=>XP a.of b.of W
 have HE:Hid (X3 a b=Pm [Y4 a.ZT b.ZT,Y4 a.of b.of]):=hid (by simp only [X3,Pm,RB]);generalize Y4 a.ZT b.ZT=r0 at*;generalize Y4 a.of b.of=r1 at*;have hor: ∀ g W,ZP W g 3 [.int .i64 r0,.int .i64 r1]→Calls Tryz.prog 149 #[.slice (some ⟨g,0,none⟩) 2 2] W fun e w'=>e= .returned (.int .i64 (Pm [r0,r1]))∧w'=W:=fun g W hB=>ND [r0,r1] g 2 W hB (by simp)
 generalize X3 a b=r at*;go_enter Tryz.func153,Tryz.ntmps153
 go_wp2;refine Uv _ fun W hW=> ?_
 have HB:Hid (WU w W):=hid (by rw [hW];exact(WU.alloc _ _).trans (WU.alloc _ _));have X0:Hid (ZP W w.heap.size 147 [.string (Z9 a.ZT),.string (Z9 a.of)]):=hid (by rw [hW];exact(ZP.new w 147 [.string (Z9 a.ZT),.string (Z9 a.of)]).alloc _);have X1:=nF hW;clear hW;have hS0:(fun w'=>WU W w'∧w'.cell? ⟨w.heap.size,0,none⟩=some (.string (Z9 a.ZT))∧w'.cell? ⟨w.heap.size+1,0,none⟩=some (.string (Z9 b.ZT))∧w'.cell? ⟨w.heap.size,1,none⟩=some (.string (Z9 a.of))∧w'.cell? ⟨w.heap.size+1,1,none⟩=some (.string (Z9 b.of))) W.drew:=⟨WU.drew W,(X0.out.drew.cell 0),(X1.out.drew.cell 0),(X0.out.drew.cell 1),(X1.out.drew.cell 1)⟩
 have hkeep:Hid (∀ w1 o,(fun w'=>WU W w'∧w'.cell? ⟨w.heap.size,0,none⟩=some (.string (Z9 a.ZT))∧w'.cell? ⟨w.heap.size+1,0,none⟩=some (.string (Z9 b.ZT))∧w'.cell? ⟨w.heap.size,1,none⟩=some (.string (Z9 a.of))∧w'.cell? ⟨w.heap.size+1,1,none⟩=some (.string (Z9 b.of))) w1→(fun w'=>WU W w'∧w'.cell? ⟨w.heap.size,0,none⟩=some (.string (Z9 a.ZT))∧w'.cell? ⟨w.heap.size+1,0,none⟩=some (.string (Z9 b.ZT))∧w'.cell? ⟨w.heap.size,1,none⟩=some (.string (Z9 a.of))∧w'.cell? ⟨w.heap.size+1,1,none⟩=some (.string (Z9 b.of))) (w1.alloc o)):=hid (by
  intro w1 o ⟨h0,_⟩;have h3:WU W (w1.alloc o):=h0.trans (WU.alloc _ _);exact⟨h3,cb X0 h3.below 0,cb X1 h3.below 0,cb X0 h3.below 1,cb X1 h3.below 1⟩)
 have hW1:w.heap.size+1<W.heap.size:=X1.out.lt;refine wp_region_held_drew (S:=fun w'=>WU W w'∧w'.cell? ⟨w.heap.size,0,none⟩=some (.string (Z9 a.ZT))∧w'.cell? ⟨w.heap.size+1,0,none⟩=some (.string (Z9 b.ZT))∧w'.cell? ⟨w.heap.size,1,none⟩=some (.string (Z9 a.of))∧w'.cell? ⟨w.heap.size+1,1,none⟩=some (.string (Z9 b.of))) (by kernel_rfl) hS0 (fun HD=> ?_)
 (try simp only [pp]);refine tk 0 5 HD ?_;refine tk 1 6 HD ?_;refine tk 2 7 HD ?_;refine tk 3 8 HD ?_;refine tk 5 10 HD ?_;refine tk 6 11 HD ?_;refine tk 7 12 HD ?_;refine tk 8 13 HD ?_;refine on 4 9 fun K hK=> ?_
 go_simp;go_at_call 107
 refine(h0 _).mono ?_
 rintro e w2 ⟨rfl,rfl⟩;refine hK _ _ HD (fun HD=> ?_)
 clear hK K;(try simp only [pp])
 refine on 9 14 fun K hK=> ?_
 go_simp;go_at_call 107
 refine(h1 _).mono ?_
 rintro e w2 ⟨rfl,rfl⟩;refine hK _ _ HD (fun HD=> ?_)
 clear hK K;(try simp only [pp])
 refine on 10 15 fun K hK=> ?_
 go_simp;refine hK _ _ (hkeep.out _ _ HD) (fun HD=> ?_)
 clear hK K;(try simp only [pp])
 refine on 11 16 fun K hK=> ?_
 go_simp;go_at_call 149
 refine(hor W.heap.size _ (ZP.new W _ _).drew).mono ?_
 rintro e w2 ⟨rfl,rfl⟩;refine hK _ _ HD (fun HD=> ?_)
 clear hK K;(try simp only [pp])
 refine tk 12 4 HD ?_;refine wpAnyH_done (by kernel_rfl) ?_ _
 have HF:Hid (WU w _):=hid (HB.out.trans HD.1);clear HD;go_wp2;go_ret;exact⟨by rw [HE.out];rfl,HF.out⟩
theorem TC (a b:Gr) (w:World):
  Calls Tryz.prog 90 #[.agg (a.cs).toArray,.agg (b.cs).toArray] w fun e w'=>e= .returned (.int .i64 (TD a b))∧WU w w':=by
 unfold Gr.cs;have h0:=fun W=>XP a.Z8 b.Z8 W
 have h1:=fun W=>XP a.ZY b.ZY W
 have h2:=fun W=>Lh a.right b.right W
 have h3:=fun W=>XP a.ZN b.ZN W
 have h4:=fun W=>XP a.to b.to W
 have HE:Hid (TD a b=Pm [Y4 a.Z8 b.Z8,Y4 a.ZY b.ZY,Lib.compareInt a.right b.right,Y4 a.ZN b.ZN,Y4 a.to b.to]):=hid (by simp only [TD,Pm,RB]);generalize Y4 a.Z8 b.Z8=r0 at*;generalize Y4 a.ZY b.ZY=r1 at*;generalize Lib.compareInt a.right b.right=r2 at*;generalize Y4 a.ZN b.ZN=r3 at*;generalize Y4 a.to b.to=r4 at*;have hor: ∀ g W,ZP W g 3 [.int .i64 r0,.int .i64 r1,.int .i64 r2,.int .i64 r3,.int .i64 r4]→Calls Tryz.prog 149 #[.slice (some ⟨g,0,none⟩) 5 5] W fun e w'=>e= .returned (.int .i64 (Pm [r0,r1,r2,r3,r4]))∧w'=W:=fun g W hB=>ND [r0,r1,r2,r3,r4] g 5 W hB (by simp)
 generalize TD a b=r at*;go_enter Tryz.func90,Tryz.ntmps90
 go_wp2;refine Uv _ fun W hW=> ?_
 have HB:Hid (WU w W):=hid (by rw [hW];exact(WU.alloc _ _).trans (WU.alloc _ _));have X0:Hid (ZP W w.heap.size 53 [.string (Z9 a.Z8),.string (Z9 a.ZY),.int .i64 a.right,.string (Z9 a.ZN),.string (Z9 a.to),.bool a.Zz]):=hid (by rw [hW];exact(ZP.new w 53 [.string (Z9 a.Z8),.string (Z9 a.ZY),.int .i64 a.right,.string (Z9 a.ZN),.string (Z9 a.to),.bool a.Zz]).alloc _);have X1:=nF hW;clear hW;have hS0:(fun w'=>WU W w'∧w'.cell? ⟨w.heap.size,0,none⟩=some (.string (Z9 a.Z8))∧w'.cell? ⟨w.heap.size+1,0,none⟩=some (.string (Z9 b.Z8))∧w'.cell? ⟨w.heap.size,1,none⟩=some (.string (Z9 a.ZY))∧w'.cell? ⟨w.heap.size+1,1,none⟩=some (.string (Z9 b.ZY))∧w'.cell? ⟨w.heap.size,2,none⟩=some (.int .i64 a.right)∧w'.cell? ⟨w.heap.size+1,2,none⟩=some (.int .i64 b.right)∧w'.cell? ⟨w.heap.size,3,none⟩=some (.string (Z9 a.ZN))∧w'.cell? ⟨w.heap.size+1,3,none⟩=some (.string (Z9 b.ZN))∧w'.cell? ⟨w.heap.size,4,none⟩=some (.string (Z9 a.to))∧w'.cell? ⟨w.heap.size+1,4,none⟩=some (.string (Z9 b.to))) W.drew:=⟨WU.drew W,(X0.out.drew.cell 0),(X1.out.drew.cell 0),(X0.out.drew.cell 1),(X1.out.drew.cell 1),(X0.out.drew.cell 2),(X1.out.drew.cell 2),(X0.out.drew.cell 3),(X1.out.drew.cell 3),(X0.out.drew.cell 4),(X1.out.drew.cell 4)⟩
 have hkeep:Hid (∀ w1 o,(fun w'=>WU W w'∧w'.cell? ⟨w.heap.size,0,none⟩=some (.string (Z9 a.Z8))∧w'.cell? ⟨w.heap.size+1,0,none⟩=some (.string (Z9 b.Z8))∧w'.cell? ⟨w.heap.size,1,none⟩=some (.string (Z9 a.ZY))∧w'.cell? ⟨w.heap.size+1,1,none⟩=some (.string (Z9 b.ZY))∧w'.cell? ⟨w.heap.size,2,none⟩=some (.int .i64 a.right)∧w'.cell? ⟨w.heap.size+1,2,none⟩=some (.int .i64 b.right)∧w'.cell? ⟨w.heap.size,3,none⟩=some (.string (Z9 a.ZN))∧w'.cell? ⟨w.heap.size+1,3,none⟩=some (.string (Z9 b.ZN))∧w'.cell? ⟨w.heap.size,4,none⟩=some (.string (Z9 a.to))∧w'.cell? ⟨w.heap.size+1,4,none⟩=some (.string (Z9 b.to))) w1→(fun w'=>WU W w'∧w'.cell? ⟨w.heap.size,0,none⟩=some (.string (Z9 a.Z8))∧w'.cell? ⟨w.heap.size+1,0,none⟩=some (.string (Z9 b.Z8))∧w'.cell? ⟨w.heap.size,1,none⟩=some (.string (Z9 a.ZY))∧w'.cell? ⟨w.heap.size+1,1,none⟩=some (.string (Z9 b.ZY))∧w'.cell? ⟨w.heap.size,2,none⟩=some (.int .i64 a.right)∧w'.cell? ⟨w.heap.size+1,2,none⟩=some (.int .i64 b.right)∧w'.cell? ⟨w.heap.size,3,none⟩=some (.string (Z9 a.ZN))∧w'.cell? ⟨w.heap.size+1,3,none⟩=some (.string (Z9 b.ZN))∧w'.cell? ⟨w.heap.size,4,none⟩=some (.string (Z9 a.to))∧w'.cell? ⟨w.heap.size+1,4,none⟩=some (.string (Z9 b.to))) (w1.alloc o)):=hid (by
  intro w1 o ⟨h0,_⟩;have h3:WU W (w1.alloc o):=h0.trans (WU.alloc _ _);exact⟨h3,cb X0 h3.below 0,cb X1 h3.below 0,cb X0 h3.below 1,cb X1 h3.below 1,cb X0 h3.below 2,cb X1 h3.below 2,cb X0 h3.below 3,cb X1 h3.below 3,cb X0 h3.below 4,cb X1 h3.below 4⟩)
 have hW1:w.heap.size+1<W.heap.size:=X1.out.lt;refine wp_region_held_drew (S:=fun w'=>WU W w'∧w'.cell? ⟨w.heap.size,0,none⟩=some (.string (Z9 a.Z8))∧w'.cell? ⟨w.heap.size+1,0,none⟩=some (.string (Z9 b.Z8))∧w'.cell? ⟨w.heap.size,1,none⟩=some (.string (Z9 a.ZY))∧w'.cell? ⟨w.heap.size+1,1,none⟩=some (.string (Z9 b.ZY))∧w'.cell? ⟨w.heap.size,2,none⟩=some (.int .i64 a.right)∧w'.cell? ⟨w.heap.size+1,2,none⟩=some (.int .i64 b.right)∧w'.cell? ⟨w.heap.size,3,none⟩=some (.string (Z9 a.ZN))∧w'.cell? ⟨w.heap.size+1,3,none⟩=some (.string (Z9 b.ZN))∧w'.cell? ⟨w.heap.size,4,none⟩=some (.string (Z9 a.to))∧w'.cell? ⟨w.heap.size+1,4,none⟩=some (.string (Z9 b.to))) (by kernel_rfl) hS0 (fun HD=> ?_)
 (try simp only [pp]);refine tk 0 5 HD ?_;refine tk 1 6 HD ?_;refine tk 2 7 HD ?_;refine tk 3 8 HD ?_;refine tk 5 10 HD ?_;refine tk 6 11 HD ?_;refine tk 7 12 HD ?_;refine tk 8 13 HD ?_;refine tk 10 15 HD ?_;refine tk 11 16 HD ?_;refine tk 12 17 HD ?_;refine tk 13 18 HD ?_;refine tk 15 20 HD ?_;refine tk 16 21 HD ?_;refine tk 17 22 HD ?_;refine tk 18 23 HD ?_;refine tk 20 25 HD ?_;refine tk 21 26 HD ?_;refine tk 22 27 HD ?_;refine tk 23 28 HD ?_;refine on 4 9 fun K hK=> ?_
 go_simp;go_at_call 107
 refine(h0 _).mono ?_
 rintro e w2 ⟨rfl,rfl⟩;refine hK _ _ HD (fun HD=> ?_)
 clear hK K;(try simp only [pp])
 refine on 9 14 fun K hK=> ?_
 go_simp;go_at_call 107
 refine(h1 _).mono ?_
 rintro e w2 ⟨rfl,rfl⟩;refine hK _ _ HD (fun HD=> ?_)
 clear hK K;(try simp only [pp])
 refine on 14 19 fun K hK=> ?_
 go_simp;go_at_call 150
 refine(h2 _).mono ?_
 rintro e w2 ⟨rfl,rfl⟩;refine hK _ _ HD (fun HD=> ?_)
 clear hK K;(try simp only [pp])
 refine on 19 24 fun K hK=> ?_
 go_simp;go_at_call 107
 refine(h3 _).mono ?_
 rintro e w2 ⟨rfl,rfl⟩;refine hK _ _ HD (fun HD=> ?_)
 clear hK K;(try simp only [pp])
 refine on 24 29 fun K hK=> ?_
 go_simp;go_at_call 107
 refine(h4 _).mono ?_
 rintro e w2 ⟨rfl,rfl⟩;refine hK _ _ HD (fun HD=> ?_)
 clear hK K;(try simp only [pp])
 refine on 25 30 fun K hK=> ?_
 go_simp;refine hK _ _ (hkeep.out _ _ HD) (fun HD=> ?_)
 clear hK K;(try simp only [pp])
 refine on 26 31 fun K hK=> ?_
 go_simp;go_at_call 149
 refine(hor W.heap.size _ (ZP.new W _ _).drew).mono ?_
 rintro e w2 ⟨rfl,rfl⟩;refine hK _ _ HD (fun HD=> ?_)
 clear hK K;(try simp only [pp])
 refine tk 27 4 HD ?_;refine wpAnyH_done (by kernel_rfl) ?_ _
 have HF:Hid (WU w _):=hid (HB.out.trans HD.1);clear HD;go_wp2;go_ret;exact⟨by rw [HE.out];rfl,HF.out⟩
theorem Of {a b:List (List UInt8)}(h:YU a=YU b):a=b:=by
 unfold YU at h;exact(List.map_inj_right (by intro x y hxy;injection hxy with h1;injection h1)).1 h
theorem Cl.Vm {a b:Cl}(h:a.da=b.da):a=b:=by
 cases a;cases b
 simp [Cl.da] at h;obtain⟨rfl,rfl,rfl⟩:=h;rfl
theorem Ru.Vm {a b:Ru}(h:a.da=b.da):a=b:=by
 cases a;cases b
 simp only [Ru.da,List.cons.injEq,Da.Z9.injEq,Da.int.injEq,Da.rows.injEq,and_true] at h;obtain⟨rfl,rfl,h1,rfl,rfl,rfl,rfl,rfl⟩:=h;rw [Of h1]
theorem Tb.Vm {a b:Tb}(h:a.da=b.da):a=b:=by
 cases a;cases b
 simp only [Tb.da,List.cons.injEq,Da.Z9.injEq,Da.rows.injEq,and_true] at h;obtain⟨rfl,rfl,rfl,h1,h2⟩:=h;rw [(List.map_inj_right fun _ _=>Cl.Vm).1 h1,(List.map_inj_right fun _ _=>Ru.Vm).1 h2]
theorem Ru.YO {w:World}{S:Nat→Prop}{c:Ru}{vs:List Value}(h:ZH w S Yx c.da vs): ∃ A n,vs=c.cs A n∧ZV w S [.Z9] (YU c.ZX) A∧
  (-9223372036854775808≤c.low∧c.low≤9223372036854775807)∧(-9223372036854775808≤c.ZF∧c.ZF≤9223372036854775807):=by
 obtain⟨r,A,n,h1,h2,h3⟩:=Ru.YN h;obtain rfl:=Ru.Vm h1;exact⟨A,n,h2,h3⟩
theorem Tb.YO {w:World}{S:Nat→Prop}{c:Tb}{vs:List Value}(h:ZH w S Zt c.da vs): ∃ A n B m,vs=c.cs A n B m∧ZV w S Zl (c.ZX.map Cl.da) A∧ZV w S Yx (c.ZS.map Ru.da) B:=by
 obtain⟨r,A,n,B,m,h1,h2,h3⟩:=Tb.YN h;obtain rfl:=Tb.Vm h1;exact⟨A,n,B,m,h2,h3⟩
theorem Nt (l:List Ru)(A:Option Addr)(k:Nat)(w:World)(hA:ZV w (· < w.heap.size) Yx (l.map Ru.da) A)(hn:l.length≤1099511627776):
  Calls Tryz.prog 163 #[.slice A l.length k,.func (.func 164) #[] #[]] w fun e w'=>e= .returned (.bool (Zo WQ l))∧Below w.heap.size w w':=by
 have HA:=hid hA;clear hA;go_enter Tryz.func163,Tryz.ntmps163
 go_wp2;go_loopw [10] (fun i wr=> ∃ j:Nat,(j+1≤l.length∨j=0)∧i= .int .i64 j∧Hid (Zo WQ l=Zo WQ (l.drop j))∧Hid (Below w.heap.size w wr)) (fun i _=>l.length - (intOf i).toNat)
 case atStart=>exact⟨0,Or.inr rfl,rfl,hid (by rw [List.drop_zero]),hid br⟩
 case round=>
  obtain⟨j,hj,rfl,HE,HBw⟩:=hrel;by_cases hlt:j+1<l.length
  ·have hlt':(j:Int)< (l.length:Int) - 1:=by omega
   have hb1:(j:Int)+1< (l.length:Int):=by omega
   have hb2:(0:Int)≤(j:Int)+1:=by omega
   have hb3:((j:Int)+1).toNat=j+1:=by omega
   have hb4:(j:Int)< (l.length:Int):=by omega
   have hwr:IntKind.i64.wrap ((j:Int)+1)=(j:Int)+1:=by simp [IntKind.wrap,IntKind.bits,IntKind.signed];omega
   have hmax:(max 0 ((l.length:Int) - 1))=(l.length:Int) - 1:=by omega
   obtain⟨ad,vs,rfl,hv,hr⟩:=(HA.out.below HBw.out).at_ (j:=j) (by simpa using (by omega:j<l.length));obtain⟨ad',vs',e',hv',hr'⟩:=(HA.out.below HBw.out).at_ (j:=j+1) (by simpa using hlt);injection e' with e'
   subst e';rw [List.getElem_map] at hv hv';have HX:Hid (Zo WQ l=(decide (WQ l[j] l[j+1]<0) && Zo WQ (l.drop (j+1)))):=hid (HE.out.trans (UP WQ l j hlt));generalize l[j]=x at*;generalize l[j+1]=y at*;obtain⟨X,n,rfl,_⟩:=Ru.YO hv;obtain⟨X',n',rfl,_⟩:=Ru.YO hv';have a0:=e0 (m:=j*8) hr;have a1:=ef (m:=j*8) hr 1;have a2:=ef (m:=j*8) hr 2;have a3:=ef (m:=j*8) hr 3;have a4:=ef (m:=j*8) hr 4;have a5:=ef (m:=j*8) hr 5;have a6:=ef (m:=j*8) hr 6;have a7:=ef (m:=j*8) hr 7;have b0:=e0 (m:=(j+1)*8) hr';have b1:=ef (m:=(j+1)*8) hr' 1;have b2:=ef (m:=(j+1)*8) hr' 2;have b3:=ef (m:=(j+1)*8) hr' 3;have b4:=ef (m:=(j+1)*8) hr' 4;have b5:=ef (m:=(j+1)*8) hr' 5;have b6:=ef (m:=(j+1)*8) hr' 6;have b7:=ef (m:=(j+1)*8) hr' 7;clear hv hv' hr hr';rw [hmax];have hz:=World.block_lt_of_cell? wr _ a0;have hz':=World.block_lt_of_cell? wr _ b0;have hW0:Below wr.heap.size wr wr.drew:=Below.drew br;have hkeep:Hid (∀ w1 w2,(fun w'=>Below wr.heap.size wr w'∧w'.cell? (ad.add (j*8))=some (.string (Z9 x.name))∧w'.cell? ⟨(ad.add (j*8)).block,(ad.add (j*8)).off+1,none⟩=some (.int .i64 x.ZQ)∧w'.cell? ⟨(ad.add (j*8)).block,(ad.add (j*8)).off+2,none⟩=some (.slice X x.ZX.length n)∧w'.cell? ⟨(ad.add (j*8)).block,(ad.add (j*8)).off+3,none⟩=some (.int .i64 x.low)∧w'.cell? ⟨(ad.add (j*8)).block,(ad.add (j*8)).off+4,none⟩=some (.int .i64 x.ZF)∧w'.cell? ⟨(ad.add (j*8)).block,(ad.add (j*8)).off+5,none⟩=some (.string (Z9 x.Z8))∧w'.cell? ⟨(ad.add (j*8)).block,(ad.add (j*8)).off+6,none⟩=some (.string (Z9 x.ZY))∧w'.cell? ⟨(ad.add (j*8)).block,(ad.add (j*8)).off+7,none⟩=some (.string (Z9 x.key))∧w'.cell? (ad.add ((j+1)*8))=some (.string (Z9 y.name))∧w'.cell? ⟨(ad.add ((j+1)*8)).block,(ad.add ((j+1)*8)).off+1,none⟩=some (.int .i64 y.ZQ)∧w'.cell? ⟨(ad.add ((j+1)*8)).block,(ad.add ((j+1)*8)).off+2,none⟩=some (.slice X' y.ZX.length n')∧w'.cell? ⟨(ad.add ((j+1)*8)).block,(ad.add ((j+1)*8)).off+3,none⟩=some (.int .i64 y.low)∧w'.cell? ⟨(ad.add ((j+1)*8)).block,(ad.add ((j+1)*8)).off+4,none⟩=some (.int .i64 y.ZF)∧w'.cell? ⟨(ad.add ((j+1)*8)).block,(ad.add ((j+1)*8)).off+5,none⟩=some (.string (Z9 y.Z8))∧w'.cell? ⟨(ad.add ((j+1)*8)).block,(ad.add ((j+1)*8)).off+6,none⟩=some (.string (Z9 y.ZY))∧w'.cell? ⟨(ad.add ((j+1)*8)).block,(ad.add ((j+1)*8)).off+7,none⟩=some (.string (Z9 y.key))) w1→Below w1.heap.size w1 w2→(fun w'=>Below wr.heap.size wr w'∧w'.cell? (ad.add (j*8))=some (.string (Z9 x.name))∧w'.cell? ⟨(ad.add (j*8)).block,(ad.add (j*8)).off+1,none⟩=some (.int .i64 x.ZQ)∧w'.cell? ⟨(ad.add (j*8)).block,(ad.add (j*8)).off+2,none⟩=some (.slice X x.ZX.length n)∧w'.cell? ⟨(ad.add (j*8)).block,(ad.add (j*8)).off+3,none⟩=some (.int .i64 x.low)∧w'.cell? ⟨(ad.add (j*8)).block,(ad.add (j*8)).off+4,none⟩=some (.int .i64 x.ZF)∧w'.cell? ⟨(ad.add (j*8)).block,(ad.add (j*8)).off+5,none⟩=some (.string (Z9 x.Z8))∧w'.cell? ⟨(ad.add (j*8)).block,(ad.add (j*8)).off+6,none⟩=some (.string (Z9 x.ZY))∧w'.cell? ⟨(ad.add (j*8)).block,(ad.add (j*8)).off+7,none⟩=some (.string (Z9 x.key))∧w'.cell? (ad.add ((j+1)*8))=some (.string (Z9 y.name))∧w'.cell? ⟨(ad.add ((j+1)*8)).block,(ad.add ((j+1)*8)).off+1,none⟩=some (.int .i64 y.ZQ)∧w'.cell? ⟨(ad.add ((j+1)*8)).block,(ad.add ((j+1)*8)).off+2,none⟩=some (.slice X' y.ZX.length n')∧w'.cell? ⟨(ad.add ((j+1)*8)).block,(ad.add ((j+1)*8)).off+3,none⟩=some (.int .i64 y.low)∧w'.cell? ⟨(ad.add ((j+1)*8)).block,(ad.add ((j+1)*8)).off+4,none⟩=some (.int .i64 y.ZF)∧w'.cell? ⟨(ad.add ((j+1)*8)).block,(ad.add ((j+1)*8)).off+5,none⟩=some (.string (Z9 y.Z8))∧w'.cell? ⟨(ad.add ((j+1)*8)).block,(ad.add ((j+1)*8)).off+6,none⟩=some (.string (Z9 y.ZY))∧w'.cell? ⟨(ad.add ((j+1)*8)).block,(ad.add ((j+1)*8)).off+7,none⟩=some (.string (Z9 y.key))) w2):=hid (by
    intro w1 w2 ⟨h1,_⟩ h2;have h3:Below wr.heap.size wr w2:=h1.trans (h2.mono h1.size);exact⟨h3,(h3.cell (p:=(ad.add (j*8))) hz).trans a0,ct a1 h3 hz,ct a2 h3 hz,ct a3 h3 hz,ct a4 h3 hz,ct a5 h3 hz,ct a6 h3 hz,ct a7 h3 hz,(h3.cell (p:=(ad.add ((j+1)*8))) hz').trans b0,ct b1 h3 hz',ct b2 h3 hz',ct b3 h3 hz',ct b4 h3 hz',ct b5 h3 hz',ct b6 h3 hz',ct b7 h3 hz'⟩)
   have hcmp:=fun W=>NB x y X n X' n' W
   unfold Ru.cs at hcmp;generalize WQ x y=r at*;go_wp2_with fail;go_region_held_law (fun w'=>Below wr.heap.size wr w'∧w'.cell? (ad.add (j*8))=some (.string (Z9 x.name))∧w'.cell? ⟨(ad.add (j*8)).block,(ad.add (j*8)).off+1,none⟩=some (.int .i64 x.ZQ)∧w'.cell? ⟨(ad.add (j*8)).block,(ad.add (j*8)).off+2,none⟩=some (.slice X x.ZX.length n)∧w'.cell? ⟨(ad.add (j*8)).block,(ad.add (j*8)).off+3,none⟩=some (.int .i64 x.low)∧w'.cell? ⟨(ad.add (j*8)).block,(ad.add (j*8)).off+4,none⟩=some (.int .i64 x.ZF)∧w'.cell? ⟨(ad.add (j*8)).block,(ad.add (j*8)).off+5,none⟩=some (.string (Z9 x.Z8))∧w'.cell? ⟨(ad.add (j*8)).block,(ad.add (j*8)).off+6,none⟩=some (.string (Z9 x.ZY))∧w'.cell? ⟨(ad.add (j*8)).block,(ad.add (j*8)).off+7,none⟩=some (.string (Z9 x.key))∧w'.cell? (ad.add ((j+1)*8))=some (.string (Z9 y.name))∧w'.cell? ⟨(ad.add ((j+1)*8)).block,(ad.add ((j+1)*8)).off+1,none⟩=some (.int .i64 y.ZQ)∧w'.cell? ⟨(ad.add ((j+1)*8)).block,(ad.add ((j+1)*8)).off+2,none⟩=some (.slice X' y.ZX.length n')∧w'.cell? ⟨(ad.add ((j+1)*8)).block,(ad.add ((j+1)*8)).off+3,none⟩=some (.int .i64 y.low)∧w'.cell? ⟨(ad.add ((j+1)*8)).block,(ad.add ((j+1)*8)).off+4,none⟩=some (.int .i64 y.ZF)∧w'.cell? ⟨(ad.add ((j+1)*8)).block,(ad.add ((j+1)*8)).off+5,none⟩=some (.string (Z9 y.Z8))∧w'.cell? ⟨(ad.add ((j+1)*8)).block,(ad.add ((j+1)*8)).off+6,none⟩=some (.string (Z9 y.ZY))∧w'.cell? ⟨(ad.add ((j+1)*8)).block,(ad.add ((j+1)*8)).off+7,none⟩=some (.string (Z9 y.key)))
    (first | exact hkeep.out _ _ (by assumption) (by assumption) | exact⟨hW0,a0,a1,a2,a3,a4,a5,a6,a7,b0,b1,b2,b3,b4,b5,b6,b7⟩)
    (first | (go_at_call 164;refine(hcmp _).mono ?_;rintro e w' ⟨rfl,hb⟩))
   rename_i hS;have HB2:=bt HBw hS.1;clear hS;by_cases hq:r<0
   ·have HX':Hid (Zo WQ l=Zo WQ (l.drop (j+1))):=hid (by rw [HX.out];simp [hq]);have hq': ¬ r≥0:=by omega
    have hq2: ¬ 0≤r:=by omega
    go_wp2;go_roundw
    case rel=>exact⟨j+1,by omega,by go_num,HX',HB2⟩
    case measure=>simp [intOf];omega
   ·have HX':Hid (Zo WQ l=false):=hid (by rw [HX.out];simp [hq]);have hq':r≥0:=by omega
    have hq2:0≤r:=by omega
    go_wp2;go_ret;exact⟨by rw [HX'.out];rfl,HB2.out⟩
  ·have HR:Hid (Zo WQ l=true):=hid (HE.out.trans (Ub WQ l j (by omega)));have hlt': ¬ (j:Int)<max 0 ((l.length:Int) - 1):=by omega
   go_wp2;go_ret;exact⟨by rw [HR.out];rfl,HBw.out⟩
theorem On (l:List Tb)(A:Option Addr)(k:Nat)(w:World)(hA:ZV w (· < w.heap.size) Zt (l.map Tb.da) A)(hn:l.length≤1099511627776):
  Calls Tryz.prog 103 #[.slice A l.length k,.func (.func 104) #[] #[]] w fun e w'=>e= .returned (.bool (Zo Xm l))∧Below w.heap.size w w':=by
 have HA:=hid hA;clear hA;go_enter Tryz.func103,Tryz.ntmps103
 go_wp2;go_loopw [10] (fun i wr=> ∃ j:Nat,(j+1≤l.length∨j=0)∧i= .int .i64 j∧Hid (Zo Xm l=Zo Xm (l.drop j))∧Hid (Below w.heap.size w wr)) (fun i _=>l.length - (intOf i).toNat)
 case atStart=>exact⟨0,Or.inr rfl,rfl,hid (by rw [List.drop_zero]),hid br⟩
 case round=>
  obtain⟨j,hj,rfl,HE,HBw⟩:=hrel;by_cases hlt:j+1<l.length
  ·have hlt':(j:Int)< (l.length:Int) - 1:=by omega
   have hb1:(j:Int)+1< (l.length:Int):=by omega
   have hb2:(0:Int)≤(j:Int)+1:=by omega
   have hb3:((j:Int)+1).toNat=j+1:=by omega
   have hb4:(j:Int)< (l.length:Int):=by omega
   have hwr:IntKind.i64.wrap ((j:Int)+1)=(j:Int)+1:=by simp [IntKind.wrap,IntKind.bits,IntKind.signed];omega
   have hmax:(max 0 ((l.length:Int) - 1))=(l.length:Int) - 1:=by omega
   obtain⟨ad,vs,rfl,hv,hr⟩:=(HA.out.below HBw.out).at_ (j:=j) (by simpa using (by omega:j<l.length));obtain⟨ad',vs',e',hv',hr'⟩:=(HA.out.below HBw.out).at_ (j:=j+1) (by simpa using hlt);injection e' with e'
   subst e';rw [List.getElem_map] at hv hv';have HX:Hid (Zo Xm l=(decide (Xm l[j] l[j+1]<0) && Zo Xm (l.drop (j+1)))):=hid (HE.out.trans (UP Xm l j hlt));generalize l[j]=x at*;generalize l[j+1]=y at*;obtain⟨X,n,Y,m,rfl,_⟩:=Tb.YO hv;obtain⟨X',n',Y',m',rfl,_⟩:=Tb.YO hv';have a0:=e0 (m:=j*5) hr;have a1:=ef (m:=j*5) hr 1;have a2:=ef (m:=j*5) hr 2;have a3:=ef (m:=j*5) hr 3;have a4:=ef (m:=j*5) hr 4;have b0:=e0 (m:=(j+1)*5) hr';have b1:=ef (m:=(j+1)*5) hr' 1;have b2:=ef (m:=(j+1)*5) hr' 2;have b3:=ef (m:=(j+1)*5) hr' 3;have b4:=ef (m:=(j+1)*5) hr' 4;clear hv hv' hr hr';rw [hmax];have hz:=World.block_lt_of_cell? wr _ a0;have hz':=World.block_lt_of_cell? wr _ b0;have hW0:Below wr.heap.size wr wr.drew:=Below.drew br;have hkeep:Hid (∀ w1 w2,(fun w'=>Below wr.heap.size wr w'∧w'.cell? (ad.add (j*5))=some (.string (Z9 x.Z8))∧w'.cell? ⟨(ad.add (j*5)).block,(ad.add (j*5)).off+1,none⟩=some (.string (Z9 x.name))∧w'.cell? ⟨(ad.add (j*5)).block,(ad.add (j*5)).off+2,none⟩=some (.string (Z9 x.ZL))∧w'.cell? ⟨(ad.add (j*5)).block,(ad.add (j*5)).off+3,none⟩=some (.slice X x.ZX.length n)∧w'.cell? ⟨(ad.add (j*5)).block,(ad.add (j*5)).off+4,none⟩=some (.slice Y x.ZS.length m)∧w'.cell? (ad.add ((j+1)*5))=some (.string (Z9 y.Z8))∧w'.cell? ⟨(ad.add ((j+1)*5)).block,(ad.add ((j+1)*5)).off+1,none⟩=some (.string (Z9 y.name))∧w'.cell? ⟨(ad.add ((j+1)*5)).block,(ad.add ((j+1)*5)).off+2,none⟩=some (.string (Z9 y.ZL))∧w'.cell? ⟨(ad.add ((j+1)*5)).block,(ad.add ((j+1)*5)).off+3,none⟩=some (.slice X' y.ZX.length n')∧w'.cell? ⟨(ad.add ((j+1)*5)).block,(ad.add ((j+1)*5)).off+4,none⟩=some (.slice Y' y.ZS.length m')) w1→Below w1.heap.size w1 w2→(fun w'=>Below wr.heap.size wr w'∧w'.cell? (ad.add (j*5))=some (.string (Z9 x.Z8))∧w'.cell? ⟨(ad.add (j*5)).block,(ad.add (j*5)).off+1,none⟩=some (.string (Z9 x.name))∧w'.cell? ⟨(ad.add (j*5)).block,(ad.add (j*5)).off+2,none⟩=some (.string (Z9 x.ZL))∧w'.cell? ⟨(ad.add (j*5)).block,(ad.add (j*5)).off+3,none⟩=some (.slice X x.ZX.length n)∧w'.cell? ⟨(ad.add (j*5)).block,(ad.add (j*5)).off+4,none⟩=some (.slice Y x.ZS.length m)∧w'.cell? (ad.add ((j+1)*5))=some (.string (Z9 y.Z8))∧w'.cell? ⟨(ad.add ((j+1)*5)).block,(ad.add ((j+1)*5)).off+1,none⟩=some (.string (Z9 y.name))∧w'.cell? ⟨(ad.add ((j+1)*5)).block,(ad.add ((j+1)*5)).off+2,none⟩=some (.string (Z9 y.ZL))∧w'.cell? ⟨(ad.add ((j+1)*5)).block,(ad.add ((j+1)*5)).off+3,none⟩=some (.slice X' y.ZX.length n')∧w'.cell? ⟨(ad.add ((j+1)*5)).block,(ad.add ((j+1)*5)).off+4,none⟩=some (.slice Y' y.ZS.length m')) w2):=hid (by
    intro w1 w2 ⟨h1,_⟩ h2;have h3:Below wr.heap.size wr w2:=h1.trans (h2.mono h1.size);exact⟨h3,(h3.cell (p:=(ad.add (j*5))) hz).trans a0,ct a1 h3 hz,ct a2 h3 hz,ct a3 h3 hz,ct a4 h3 hz,(h3.cell (p:=(ad.add ((j+1)*5))) hz').trans b0,ct b1 h3 hz',ct b2 h3 hz',ct b3 h3 hz',ct b4 h3 hz'⟩)
   have hcmp:=fun W=>Oi x y X n Y m X' n' Y' m' W
   unfold Tb.cs at hcmp;generalize Xm x y=r at*;go_wp2_with fail;go_region_held_law (fun w'=>Below wr.heap.size wr w'∧w'.cell? (ad.add (j*5))=some (.string (Z9 x.Z8))∧w'.cell? ⟨(ad.add (j*5)).block,(ad.add (j*5)).off+1,none⟩=some (.string (Z9 x.name))∧w'.cell? ⟨(ad.add (j*5)).block,(ad.add (j*5)).off+2,none⟩=some (.string (Z9 x.ZL))∧w'.cell? ⟨(ad.add (j*5)).block,(ad.add (j*5)).off+3,none⟩=some (.slice X x.ZX.length n)∧w'.cell? ⟨(ad.add (j*5)).block,(ad.add (j*5)).off+4,none⟩=some (.slice Y x.ZS.length m)∧w'.cell? (ad.add ((j+1)*5))=some (.string (Z9 y.Z8))∧w'.cell? ⟨(ad.add ((j+1)*5)).block,(ad.add ((j+1)*5)).off+1,none⟩=some (.string (Z9 y.name))∧w'.cell? ⟨(ad.add ((j+1)*5)).block,(ad.add ((j+1)*5)).off+2,none⟩=some (.string (Z9 y.ZL))∧w'.cell? ⟨(ad.add ((j+1)*5)).block,(ad.add ((j+1)*5)).off+3,none⟩=some (.slice X' y.ZX.length n')∧w'.cell? ⟨(ad.add ((j+1)*5)).block,(ad.add ((j+1)*5)).off+4,none⟩=some (.slice Y' y.ZS.length m'))
    (first | exact hkeep.out _ _ (by assumption) (by assumption) | exact⟨hW0,a0,a1,a2,a3,a4,b0,b1,b2,b3,b4⟩)
    (first | (go_at_call 104;refine(hcmp _).mono ?_;rintro e w' ⟨rfl,hb⟩;have hb:=hb.below))
   rename_i hS;have HB2:=bt HBw hS.1;clear hS;by_cases hq:r<0
   ·have HX':Hid (Zo Xm l=Zo Xm (l.drop (j+1))):=hid (by rw [HX.out];simp [hq]);have hq': ¬ r≥0:=by omega
    have hq2: ¬ 0≤r:=by omega
    go_wp2;go_roundw
    case rel=>exact⟨j+1,by omega,by go_num,HX',HB2⟩
    case measure=>simp [intOf];omega
   ·have HX':Hid (Zo Xm l=false):=hid (by rw [HX.out];simp [hq]);have hq':r≥0:=by omega
    have hq2:0≤r:=by omega
    go_wp2;go_ret;exact⟨by rw [HX'.out];rfl,HB2.out⟩
  ·have HR:Hid (Zo Xm l=true):=hid (HE.out.trans (Ub Xm l j (by omega)));have hlt': ¬ (j:Int)<max 0 ((l.length:Int) - 1):=by omega
   go_wp2;go_ret;exact⟨by rw [HR.out];rfl,HBw.out⟩
def Ru.Zv (r:Ru)(M:Nat):Prop:=r.ZX.length≤M∧r.Z8.length≤M∧r.ZY.length≤M∧r.key.length≤M
theorem NN (l:List (List UInt8))(h:0<l.length):l.headD []=l[0]:=by
 cases l with
 | nil=>simp at h
 | cons a t=>rfl
theorem KI (a b c:List UInt8):(Z9 a ++Z9 b ++Z9 c).toList.isEmpty=(a ++b ++c == []):=by
 rw [ByteArray.toList_eq];have h:(Z9 a ++Z9 b ++Z9 c).data.toList=a ++b ++c:=by simp [Z9,ByteArray.data_append]
 rw [h]
 cases a ++b ++c <;> rfl
theorem Te (l:List Cl)(cs:List (List UInt8))(j:Nat)(h:j<cs.length):Yq l cs j (cs.drop j)=((XJ l cs[j]).isSome && cs.findIdx? (· == cs[j]) == some j && Yq l cs (j+1) (cs.drop (j+1))):=by
 rw [List.drop_eq_getElem_cons h];rfl
theorem OO (cs:List (List UInt8))(n:List UInt8):cs.findIdx? (· == n)=cs.findIdx? (fun m=>n == m):=by
 congr 1
 funext m
 exact Bool.eq_iff_iff.2 ⟨fun h=>by simp_all,fun h=>by simp_all⟩
theorem TQ (o:Option Nat):o.isSome=decide (0≤Xe o):=by
 cases o with
 | none=>rfl
 | some i=>simp [Xe]
theorem OL (l:List Cl)(r:Ru)(A:Option Addr)(k:Nat)(B:Option Addr)(n:Nat)(w:World)(hA:ZV w (· < w.heap.size) Zl (l.map Cl.da) A)(hB:ZV w (· < w.heap.size) [.Z9] (YU r.ZX) B)
  (hn:l.length≤1099511627776) (hr:r.Zv 1099511627776):
  Calls Tryz.prog 161 #[.slice A l.length k,.agg (r.cs B n).toArray] w fun e w'=>e= .returned (.bool (Yy l r))∧Below w.heap.size w w':=by
 have HA:=hid hA;have HB:=hid hB;clear hA hB;obtain⟨hm,t1,t2,t3⟩:=hr;have z1: ¬ 9223372036854775807< (Z9 r.Z8).size+ (Z9 r.ZY).size:=by rw [YA,YA];omega
 have z2: ¬ 9223372036854775807< (Z9 r.Z8).size+ (Z9 r.ZY).size+ (Z9 r.key).size:=by rw [YA,YA,YA];omega
 have HR:Hid (Yy l r=(Zr r.name && decide (1≤r.ZX.length) && decide (r.ZX.length≤l.length) && Yq l r.ZX 0 r.ZX && TG l r)):=hid rfl;unfold Ru.cs;go_enter Tryz.func161,Tryz.ntmps161
 go_wp2_with fail;refine Zm _ fun W hW=> ?_
 have HB1:=bP hW;have HX1:=nC hW;clear hW;refine(YL r.name W).mono ?_
 rintro e w1 ⟨rfl,m1,rfl⟩
 cases hN:Zr r.name
 ·rw [hN] at HR;have HR':Hid (Yy l r=false):=hid HR.out;go_wp2;go_ret;exact⟨by rw [HR'.out];rfl,below_drewN HB1.out m1⟩
 have c2:=cd (HX1.out.drewN m1) 2;rw [hN,Bool.true_and] at HR;by_cases h1:r.ZX.length<1
 ·have HR':Hid (Yy l r=false):=hid (by rw [HR.out,decide_eq_false (by omega)];rfl);have h1':(r.ZX.length:Int)<1:=by omega
  go_wp2;go_ret;exact⟨by rw [HR'.out];rfl,below_drewN HB1.out m1⟩
 rw [decide_eq_true (show 1≤r.ZX.length by omega),Bool.true_and] at HR;have h1': ¬ (r.ZX.length:Int)<1:=by omega
 by_cases h2:r.ZX.length > l.length
 ·have HR':Hid (Yy l r=false):=hid (by rw [HR.out,decide_eq_false (by omega)];rfl);have h2':(r.ZX.length:Int) >(l.length:Int):=by omega
  go_wp2;go_ret;exact⟨by rw [HR'.out];rfl,below_drewN HB1.out m1⟩
 rw [decide_eq_true (show r.ZX.length≤l.length by omega),Bool.true_and] at HR;have h2': ¬ (r.ZX.length:Int) >(l.length:Int):=by omega
 have HB2:=hid (below_drewN HB1.out m1);have HX2:=hid (HX1.out.drewN m1);clear HB1 HX1;generalize W.drewN m1=W1 at*;go_wp2;go_loopw [29] (fun i wr=> ∃ j:Nat,j≤r.ZX.length∧i= .int .i64 j∧Hid (Yq l r.ZX 0 r.ZX=Yq l r.ZX j (r.ZX.drop j))∧Hid (∀ n∈r.ZX.take j,(XJ l n).isSome=true)∧Hid (Below w.heap.size w wr)∧Hid (ZP wr w.heap.size 40 [.string (Z9 r.name),.int .i64 r.ZQ,.slice B r.ZX.length n,.int .i64 r.low,.int .i64 r.ZF,.string (Z9 r.Z8),.string (Z9 r.ZY),.string (Z9 r.key)])) (fun i _=>r.ZX.length - (intOf i).toNat)
 case atStart=>exact⟨0,Nat.zero_le _,rfl,hid (by rw [List.drop_zero]),hid (by simp),HB2,HX2⟩
 case round=>
  clear HB2 HX2 c2;obtain⟨j,hj,rfl,HE,HS,HBw,HXw⟩:=hrel;have c2:=ce HXw 2;by_cases hlt:j<r.ZX.length
  ·obtain⟨ad,rfl,a0⟩:=Tl (HB.out.below HBw.out) hlt;have HX:Hid (Yq l r.ZX 0 r.ZX=((XJ l r.ZX[j]).isSome && r.ZX.findIdx? (· == r.ZX[j]) == some j && Yq l r.ZX (j+1) (r.ZX.drop (j+1)))):=hid (HE.out.trans (Te l r.ZX j hlt));have HT:Hid (r.ZX.take (j+1)=r.ZX.take j ++ [r.ZX[j]]):=hid (List.take_succ_eq_append_getElem hlt);generalize r.ZX[j]=nm at*;go_wp2_with fail;have cB:=XH (l.map Cl.da) A k nm wr ((HA.out.below HBw.out).Y6 (fun _ h=>Nat.lt_of_lt_of_le h HBw.out.size) fun _ _=>rfl) (by simpa using hn);rw [List.length_map,Xz] at cB;refine cB.mono ?_
   rintro e w2 ⟨rfl,hb⟩;have HB3:=bt HBw hb;have HX3:=bl HXw hb;have d2:=ce HX3 2;clear hb cB HXw HBw a0 c2;rw [TQ] at HX;have HS1:Hid (0≤Xe (XJ l nm)→ ∀ n∈r.ZX.take (j+1),(XJ l n).isSome=true):=hid fun h n hn=>by
    rw [HT.out,List.mem_append,List.mem_singleton] at hn;rcases hn with hn | rfl
    ·exact HS.out n hn
    ·rw [TQ];exact decide_eq_true h
   generalize Xe (XJ l nm)=p at*;by_cases hp:p<0
   ·have HX':Hid (Yy l r=false):=hid (by rw [HR.out,HX.out,decide_eq_false (by omega)];rfl);go_wp2;go_ret;exact⟨by rw [HX'.out];rfl,HB3.out⟩
   have hS1:=hid (HS1.out (by omega));rw [decide_eq_true (show 0≤p by omega),Bool.true_and,OO,LP,←VO] at HX;go_wp2_with fail;have cI:=Qt r.ZX (some ad) n nm w2 ((HB.out.below HB3.out).Y6 (fun _ h=>Nat.lt_of_lt_of_le h HB3.out.size) fun _ _=>rfl) hm;refine cI.mono ?_
   rintro e w3 ⟨rfl,rfl⟩;clear cI;generalize Zi (fun m=>nm == m) r.ZX 0=q at*;by_cases hq:q=j
   ·subst hq;have HX':Hid (Yq l r.ZX 0 r.ZX=Yq l r.ZX (j+1) (r.ZX.drop (j+1))):=hid (by rw [HX.out];simp)
    go_wp2;go_roundw
    case rel=>exact⟨j+1,by omega,by go_num,HX',hS1,HB3,HX3⟩
    case measure=>simp [intOf];omega
   ·have HX':Hid (Yy l r=false):=hid (by rw [HR.out,HX.out];simp [hq]);have hq':(q ==(j:Int))=false:=by simpa using hq
    have hq2:(q !=(j:Int))=true:=by simp [hq]
    go_wp2;go_ret;exact⟨by rw [HX'.out];rfl,HB3.out⟩
  ·obtain rfl:j=r.ZX.length:=by omega
   rw [List.drop_length] at HE;rw [List.take_length] at HS;have HR2:Hid (Yy l r=TG l r):=hid (by rw [HR.out,HE.out];rfl)
   clear HR HE;have c1:=ce HXw 1;have c3:=ce HXw 3;have c4:=ce HXw 4;have c5:=ce HXw 5;have c6:=ce HXw 6;have c7:=ce HXw 7;have hbr:(Z9 r.Z8 ++Z9 r.ZY ++Z9 r.key).toList.isEmpty=SS r:=KI _ _ _;have hFK:Hid (TG l r=if r.ZQ=3 then SS r && r.ZX.length == 1 && VW l (r.ZX.headD []) == some 2 && decide (r.low≤r.ZF)
    else if r.ZQ=4 then Zr r.Z8 && Zr r.ZY && Zr r.key && r.low == 0 && r.ZF == 0
    else if r.ZQ=1∨r.ZQ=2 then SS r && r.low == 0 && r.ZF == 0 else false):=hid rfl
   generalize SS r=bp at*;by_cases h3:r.ZQ=3
   ·have HK:Hid (Yy l r=(bp && r.ZX.length == 1 && VW l (r.ZX.headD []) == some 2 && decide (r.low≤r.ZF))):=hid (by rw [HR2.out,hFK.out,if_pos h3]);clear HR2 hFK
    cases bp
    ·have HK':Hid (Yy l r=false):=hid HK.out;go_wp2;go_ret;exact⟨by rw [HK'.out];rfl,HBw.out⟩
    by_cases h6:r.ZX.length=1
    ·have h6':((r.ZX.length:Int) == 1)=true:=by simp;omega
     have hnm:r.ZX.headD []=r.ZX[0]:=NN _ (by omega);obtain⟨ad,rfl,a0⟩:=Tl (HB.out.below HBw.out) (show 0<r.ZX.length by omega);have hb0:(0:Int)< (r.ZX.length:Int):=by omega
     have HS0:=hid (HS.out r.ZX[0] (List.getElem_mem _));have HK2:Hid (Yy l r=(VW l r.ZX[0] == some 2 && decide (r.low≤r.ZF))):=hid (by rw [HK.out,hnm];simp [h6]);have a0':wr.cell? ad=some (.string (Z9 r.ZX[0])):=a0;have HKo:=hid (fun i=> @Qs l r.ZX[0] i);clear HK a0 hnm HS;generalize r.ZX[0]=nm at*;go_wp2_with fail;have cB:=XH (l.map Cl.da) A k nm wr ((HA.out.below HBw.out).Y6 (fun _ h=>Nat.lt_of_lt_of_le h HBw.out.size) fun _ _=>rfl) (by simpa using hn);rw [List.length_map,Xz] at cB;refine cB.mono ?_
     rintro e w2 ⟨rfl,hb⟩;have HB3:=bt HBw hb;have HX3:=bl HXw hb;clear hb cB
     cases hc:XJ l nm with
     | none=>exact absurd HS0.out (by rw [hc];simp)
     | some i=>
      obtain⟨hi,hk⟩:=HKo.out i hc;have HK3:Hid (Yy l r=(l[i].ZQ == 2 && decide (r.low≤r.ZF))):=hid (by rw [HK2.out,hk];rfl)
      obtain⟨ad2,vs,rfl,hv,hr⟩:=(HA.out.below HB3.out).at_ (j:=i) (by simpa using hi);rw [List.getElem_map] at hv;generalize l[i]=cl at*;obtain rfl:=Cl.YO hv;have a1:=ef (m:=i*3) hr 1;have d3:=ce HX3 3;have d4:=ce HX3 4;rw [show Xe (some i)=(i:Int) from rfl];clear hv hr;have hi':(0:Int)≤(i:Int):=by omega
      have hi2:(i:Int)< (l.length:Int):=by omega
      cases h7:(cl.ZQ == 2)
      ·rw [h7] at HK3;have HK':Hid (Yy l r=false):=hid HK3.out;go_wp2;go_ret;exact⟨by rw [HK'.out];rfl,HB3.out⟩
      ·rw [h7,Bool.true_and] at HK3;go_wp2;go_ret;exact⟨by rw [HK3.out];rfl,HB3.out⟩
    ·have h6':((r.ZX.length:Int) == 1)=false:=by simp;omega
     have HK':Hid (Yy l r=false):=hid (by rw [HK.out];simp [h6]);go_wp2;go_ret;exact⟨by rw [HK'.out];rfl,HBw.out⟩
   by_cases h4:r.ZQ=4
   ·have HK:Hid (Yy l r=(Zr r.Z8 && Zr r.ZY && Zr r.key && r.low == 0 && r.ZF == 0)):=hid (by rw [HR2.out,hFK.out,if_neg h3,if_pos h4]);clear HR2 hFK;have hs:=fun W=>YL r.Z8 W
    have ht:=fun W=>YL r.ZY W
    have hk:=fun W=>YL r.key W
    generalize Zr r.Z8=n1 at*;generalize Zr r.ZY=n2 at*;generalize Zr r.key=n3 at*;go_wp2_with fail;refine(hs _).mono ?_
    rintro e w2 ⟨rfl,m2,rfl⟩
    cases n1
    ·have HK':Hid (Yy l r=false):=hid HK.out;go_wp2;go_ret;exact⟨by rw [HK'.out];rfl,below_drewN HBw.out m2⟩
    have e6:(wr.drewN m2).cell? ⟨w.heap.size,6,none⟩=some (.string (Z9 r.ZY)):=c6;go_wp2_with fail;refine(ht _).mono ?_
    rintro e w2 ⟨rfl,m3,rfl⟩
    cases n2
    ·have HK':Hid (Yy l r=false):=hid HK.out;go_wp2;go_ret;exact⟨by rw [HK'.out];rfl,below_drewN HBw.out (m2+m3)⟩
    have e7:((wr.drewN m2).drewN m3).cell? ⟨w.heap.size,7,none⟩=some (.string (Z9 r.key)):=c7;go_wp2_with fail;refine(hk _).mono ?_
    rintro e w2 ⟨rfl,m4,rfl⟩;have HB3:=hid (below_drewN HBw.out (m2+m3+m4));have d3:(wr.drewN (m2+m3+m4)).cell? ⟨w.heap.size,3,none⟩=some (.int .i64 r.low):=c3;have d4:(wr.drewN (m2+m3+m4)).cell? ⟨w.heap.size,4,none⟩=some (.int .i64 r.ZF):=c4
    cases n3
    ·have HK':Hid (Yy l r=false):=hid HK.out;go_wp2;go_ret;exact⟨by rw [HK'.out];rfl,HB3.out⟩
    by_cases hl0:r.low=0
    ·by_cases hh0:r.ZF=0
     ·have HK':Hid (Yy l r=true):=hid (by rw [HK.out];simp [hl0,hh0]);go_wp2;go_ret;exact⟨by rw [HK'.out];rfl,HB3.out⟩
     ·have HK':Hid (Yy l r=false):=hid (by rw [HK.out];simp [hh0]);have hh1:(r.ZF == 0)=false:=by simpa using hh0
      go_wp2;go_ret;exact⟨by rw [HK'.out];rfl,HB3.out⟩
    ·have HK':Hid (Yy l r=false):=hid (by rw [HK.out];simp [hl0]);have hh1:(r.low == 0)=false:=by simpa using hl0
     go_wp2;go_ret;exact⟨by rw [HK'.out];rfl,HB3.out⟩
   by_cases h5:r.ZQ=1∨r.ZQ=2
   ·have HK:Hid (Yy l r=(bp && r.low == 0 && r.ZF == 0)):=hid (by rw [HR2.out,hFK.out,if_neg h3,if_neg h4,if_pos h5]);clear HR2 hFK;have h3':(r.ZQ == 3)=false:=by simpa using h3
    have h4':(r.ZQ == 4)=false:=by simpa using h4
    have hin:(r.ZQ == 1)=true∨(r.ZQ == 1)=false∧(r.ZQ == 2)=true:=by rcases h5 with h5 | h5 <;> simp [h5]
    clear h5;rcases hin with h5 | ⟨h5,h6⟩
    all_goals
     cases bp
     ·have HK':Hid (Yy l r=false):=hid HK.out;go_wp2;go_ret;exact⟨by rw [HK'.out];rfl,HBw.out⟩
     by_cases hl0:r.low=0
     ·by_cases hh0:r.ZF=0
      ·have HK':Hid (Yy l r=true):=hid (by rw [HK.out];simp [hl0,hh0]);go_wp2;go_ret;exact⟨by rw [HK'.out];rfl,HBw.out⟩
      ·have HK':Hid (Yy l r=false):=hid (by rw [HK.out];simp [hh0]);have hh1:(r.ZF == 0)=false:=by simpa using hh0
       go_wp2;go_ret;exact⟨by rw [HK'.out];rfl,HBw.out⟩
     ·have HK':Hid (Yy l r=false):=hid (by rw [HK.out];simp [hl0]);have hh1:(r.low == 0)=false:=by simpa using hl0
      go_wp2;go_ret;exact⟨by rw [HK'.out];rfl,HBw.out⟩
   have HK':Hid (Yy l r=false):=hid (by rw [HR2.out,hFK.out,if_neg h3,if_neg h4,if_neg h5]);have h3':(r.ZQ == 3)=false:=by simpa using h3
   have h4':(r.ZQ == 4)=false:=by simpa using h4
   have h5':(r.ZQ == 1)=false:=by simp;exact fun h=>h5 (Or.inl h)
   have h6':(r.ZQ == 2)=false:=by simp;exact fun h=>h5 (Or.inr h)
   go_wp2;go_ret;exact⟨by rw [HK'.out];rfl,HBw.out⟩
theorem ZV.later {w W:World}{l:List Sh}{ds:List (List Da)}{A:Option Addr}(h:ZV w (· < w.heap.size) l ds A)(hb:Below w.heap.size w W):ZV W (· < W.heap.size) l ds A:=
 (h.below hb).Y6 (fun _ h=>Nat.lt_of_lt_of_le h hb.size) fun _ _=>rfl
def Vs (w:World)(l:List Int)(A:Option Addr):Prop:= ∀ (j:Nat) (h:j<l.length),∃ ad,A=some ad∧w.cell? (ad.add j)=some (.int .i64 l[j])
theorem Vs.own {w:World}{base c:Nat}{l:List Int}{A:Option Addr}{n:Nat}(h:w.ownsRow base 62 1 (.slice A n c) n (RJ l))(hn:n=l.length):Vs w l A:=by
 intro j hj;obtain⟨g,cap,hv,_,hlt⟩:=h.form (by omega);have hA:A=some ⟨g,0,none⟩:=by injection hv
 subst hA;exact⟨_,rfl,h.cells (g:=g) rfl j _ (by simp [RJ,hj])⟩
theorem Vs.below {w W:World}{B:Nat}{l:List Int}{A:Option Addr}(h:Vs w l A)(hb:Below w.heap.size w W):Vs W l A:=fun j hj=>by
 obtain⟨ad,e,h1⟩:=h j hj;exact⟨ad,e,(hb.cell (World.block_lt_of_cell? w _ h1)).trans h1⟩
theorem OP (l m:List Int)(A:Option Addr)(k:Nat)(B:Option Addr)(n:Nat)(w:World)(hA:Vs w l A)(hB:Vs w m B)(hl:l.length≤1099511627776)(hm:m.length≤1099511627776):
  Calls Tryz.prog 237 #[.slice A l.length k,.slice B m.length n] w fun e w'=>e= .returned (.bool (decide (l=m)))∧Below w.heap.size w w':=by
 have HA:=hid hA;have HB:=hid hB;clear hA hB;by_cases hlen:l.length=m.length
 ·have HL:=hid hlen;rw [hlen];clear hlen;go_enter Tryz.func237,Tryz.ntmps237
  go_wp2;go_loopw [13] (fun i wr=> ∃ j:Nat,j≤m.length∧i= .int .i64 j∧Hid (decide (l=m)=decide (l.drop j=m.drop j))∧Hid (Below w.heap.size w wr)) (fun i _=>m.length - (intOf i).toNat)
  case atStart=>exact⟨0,Nat.zero_le _,rfl,hid (by rw [List.drop_zero,List.drop_zero]),hid br⟩
  case round=>
   obtain⟨j,hj,rfl,HE,HBw⟩:=hrel;by_cases hlt:j<m.length
   ·have hlt2:j<l.length:=by have:=HL.out;omega
    obtain⟨ad,rfl,a0⟩:=HA.out j hlt2;obtain⟨ad',rfl,b0⟩:=HB.out j hlt;have hX:decide (l=m)=(decide (l[j]=m[j]) && decide (l.drop (j+1)=m.drop (j+1))):=by
     rw [HE.out,List.drop_eq_getElem_cons hlt,List.drop_eq_getElem_cons hlt2,Bool.eq_iff_iff];simp only [decide_eq_true_eq,Bool.and_eq_true,List.cons.injEq]
    have HX:=hid hX;clear hX;generalize l[j]=x at*;generalize m[j]=y at*;have hz:=World.block_lt_of_cell? w _ a0;have hz':=World.block_lt_of_cell? w _ b0;have c0:wr.cell? (ad.add j)=some (.int .i64 x):=ct a0 HBw.out hz;have c1:wr.cell? (ad'.add j)=some (.int .i64 y):=ct b0 HBw.out hz';clear a0 b0;have hb1:(j:Int)< (m.length:Int):=by omega
    have hW0:Below w.heap.size w wr.drew:=HBw.out.drew;go_wp2_with fail;go_region_held_law (fun w'=>Below w.heap.size w w'∧w'.cell? (ad.add j)=some (.int .i64 x)∧w'.cell? (ad'.add j)=some (.int .i64 y))
     (first | exact⟨hW0,c0,c1⟩ | assumption)
     (fail)
    have HB2:Hid (Below w.heap.size w wr.drew):=hid hW0;by_cases hq:x=y
    ·have HX':Hid (decide (l=m)=decide (l.drop (j+1)=m.drop (j+1))):=hid (by rw [HX.out];simp [hq]);have hq1:(x == y)=true:=by simpa using hq
     have hq2:(x != y)=false:=by simp [hq]
     go_wp2;go_roundw
     case rel=>exact⟨j+1,by omega,by go_num,HX',HB2⟩
     case measure=>simp [intOf];omega
    ·have HX':Hid (decide (l=m)=false):=hid (by rw [HX.out];simp [hq]);have hq1:(x == y)=false:=by simpa using hq
     have hq2:(x != y)=true:=by simp [hq]
     go_wp2;go_ret;exact⟨by rw [HX'.out];rfl,HB2.out⟩
   ·obtain rfl:j=m.length:=by omega
    have HX':Hid (decide (l=m)=true):=hid (by rw [HE.out,List.drop_length,List.drop_eq_nil_of_le (by have:=HL.out;omega)];rfl);go_wp2;go_ret;exact⟨by rw [HX'.out];rfl,HBw.out⟩
 ·have HX':Hid (decide (l=m)=false):=hid (decide_eq_false fun h=>hlen (by rw [h]));have h1:((l.length:Int) ==(m.length:Int))=false:=by simp;omega
  have h2:((l.length:Int) !=(m.length:Int))=true:=by simp;omega
  go_enter Tryz.func237,Tryz.ntmps237
  go_wp2;go_ret;exact⟨by rw [HX'.out];rfl,Below.refl _ _⟩
def Tb.Zv (t:Tb)(M:Nat):Prop:=t.ZX.length≤M∧t.ZS.length≤M∧ ∀ r∈t.ZS,r.Zv M
def Ob.Zv (o:Ob)(M:Nat):Prop:=o.Z4.length≤M∧o.Z7.length≤M∧ ∀ t∈o.Z7,t.Zv M
theorem Xa {α:Type}{p:α→Bool}{l:List α}{i:Nat}(h:l.findIdx? p=some i): ∃ hi:i<l.length,l.find? p=some l[i]:=by
 rw [List.findIdx?_eq_some_iff_getElem] at h;obtain⟨hi,h1,h2⟩:=h;exact⟨hi,List.find?_eq_some_iff_getElem.2 ⟨h1,i,hi,rfl,fun j hj=>by simpa using h2 j hj⟩⟩
theorem PB {α:Type}{p:α→Bool}{l:List α}(h:l.findIdx? p=none):l.find? p=none:=by
 rw [List.findIdx?_eq_none_iff] at h;exact List.find?_eq_none.2 fun x hx=>by simpa using h x hx
theorem Vu (o:Ob)(s n:List UInt8):Zi (Ul s n) (o.Z7.map Tb.da) 0=Xe (Xs o s n):=by
 rw [VC,VO];rfl
theorem UM (o:Ob)(s n:List UInt8):(o.Z7.map Tb.da).any (Ul s n)=(Xs o s n).isSome:=by
 rw [←WZ,Vu,TQ]
theorem S3 (l:List Ru)(n:List UInt8):Zi (fun d=>tx d 0 == n) (l.map Ru.da) 0=Xe (S4 l n):=by
 rw [VC,VO];rfl
theorem UB (l:List Sc)(n:List UInt8):Zi (fun d=>tx d 0 == n) (l.map Sc.da) 0=Xe (WY l n):=by
 rw [VC,VO];rfl
theorem Mo {o:Ob}{l:List Cl}{r:Ru}(h:Xs o r.Z8 r.ZY=none):Uu o l r=61:=by
 unfold Uu;rw [PB h]
theorem Mn {o:Ob}{l:List Cl}{r:Ru}{i:Nat}(h:Xs o r.Z8 r.ZY=some i): ∃ hi:i<o.Z7.length,(S4 o.Z7[i].ZS r.key=none→Uu o l r=61)∧
  ∀ k,S4 o.Z7[i].ZS r.key=some k→ ∃ hk:k<o.Z7[i].ZS.length,Uu o l r=if o.Z7[i].ZS[k].ZQ≠2 then 61 else
   if o.Z7[i].ZS[k].ZX.length=r.ZX.length∧(YE o.Z7[i].ZX o.Z7[i].ZS[k].ZX).length=o.Z7[i].ZS[k].ZX.length∧YE l r.ZX=YE o.Z7[i].ZX o.Z7[i].ZS[k].ZX then 0 else 63:=by
 obtain⟨hi,hf⟩:=Xa h;refine⟨hi,fun hn=> ?_,fun k hk=> ?_⟩
 ·unfold Uu;rw [hf];dsimp only;rw [PB hn]
 ·obtain⟨hk1,hf1⟩:=Xa hk;refine⟨hk1,?_⟩
  unfold Uu;rw [hf];dsimp only;rw [hf1]
theorem MO (o:Ob)(A0:Option Addr)(k0:Nat)(A1:Option Addr)(k1:Nat)(l:List Cl)(A:Option Addr)(k:Nat)(r:Ru)(B:Option Addr)(n:Nat)(w:World)(hT:ZV w (· < w.heap.size) Zt (o.Z7.map Tb.da) A1)
  (hA:ZV w (· < w.heap.size) Zl (l.map Cl.da) A) (hB:ZV w (· < w.heap.size) [.Z9] (YU r.ZX) B) (ho:o.Zv 1099511627776) (hl:l.length≤1099511627776) (hr:r.Zv 1099511627776):
  Calls Tryz.prog 162 #[.agg #[.slice A0 o.Z4.length k0,.slice A1 o.Z7.length k1],.slice A l.length k,.agg (r.cs B n).toArray] w fun e w'=>e= .returned (.int .i64 (Uu o l r))∧Below w.heap.size w w':=by
 have HT:=hid hT;have HA:=hid hA;have HB:=hid hB;have HO:=hid ho.2.2;have ho2:=ho.2.1;have hm:=hr.1;clear hT hA hB ho hr;have HKn:=hid (@Mo o l r);have HKs:=hid (fun i=> @Mn o l r i);have HI:=iN 73 5;unfold Ru.cs;generalize Uu o l r=res at*;go_enter Tryz.func162,Tryz.ntmps162
 go_wp2_with fail;refine Zm _ fun W hW=> ?_
 have HB1:=bQ hW;have HX0:=nD hW;have HX1:=nF hW;clear hW;have cW:=Vt (o.Z4.map Sc.da) (o.Z7.map Tb.da) A0 k0 A1 k1 r.Z8 r.ZY W (HT.out.later HB1.out) (by simpa using ho2);rw [List.length_map,List.length_map,Vu,UM] at cW;refine cW.mono ?_
 rintro e w2 ⟨rfl,hb⟩;have HB2:=bt HB1 hb;have HY0:=bl HX0 hb;have HY1:=bl HX1 hb;clear hb cW HB1 HX0 HX1
 cases ht:Xs o r.Z8 r.ZY with
 | none=>
  obtain rfl:res=61:=HKn.out ht;go_wp2;go_ret;exact⟨rfl,HB2.out⟩
 | some i=>
  obtain⟨hi,hk1,hk2⟩:=HKs.out i ht;have HK1:=hid hk1;have HK2:=hid hk2;have HOt:=hid (HO.out o.Z7[i] (List.getElem_mem hi));clear hk1 hk2 HKn HKs HO;obtain⟨ad,vs,rfl,hv,hr⟩:=(HT.out.later HB2.out).at_ (j:=i) (by simpa using hi);rw [List.getElem_map] at hv;generalize o.Z7[i]=t at*;obtain⟨X,x,Y,y,rfl,hX,hY⟩:=Tb.YO hv;have HXr:=hid hX;have HYr:=hid hY;have HG:Hid (∀ i' u,(t.cs X x Y y)[i']?=some u→w2.cell? ((ad.add (i*5)).add i')=some u):=hid fun i' u hu=>by rw [ZG];exact hr i' u hu
  clear hv hr hX hY;unfold Tb.cs at HG;have HL:Hid ((Tryz.prog.info? 73).map (·.size)=some ([.string (Z9 t.Z8),.string (Z9 t.name),.string (Z9 t.ZL),.slice X t.ZX.length x,.slice Y t.ZS.length y]:List Value).length):=HI;have y1:=ce HY0 1;rw [show Xe (some i)=(i:Int) from rfl];have hi1:(0:Int)≤(i:Int):=by omega
  have hi2:(i:Int)< (o.Z7.length:Int):=by omega
  have y7:(w2.alloc (.cells #[.string (Z9 t.Z8),.string (Z9 t.name),.string (Z9 t.ZL),.slice X t.ZX.length x,.slice Y t.ZS.length y] 73)).cell? ⟨w.heap.size+1,7,none⟩=some (.string (Z9 r.key)):=(HY1.out.alloc _).cell 7;go_wp2_with (first | (with_reducible refine ZI rfl 73 _ rfl (ad.add (i*5)) rfl [.string (Z9 t.Z8),.string (Z9 t.name),.string (Z9 t.ZL),.slice X t.ZX.length x,.slice Y t.ZS.length y] _ HG.out Tryz.underlying73 rfl HL.out ?_) | fail);refine Zm _ fun W hW=> ?_
  have HB3:=rL hW (HB2.out.alloc HB2.out.size _);have HB23:=bP hW;have HX3:=nC hW;have HZ1:=bl HY1 HB23.out;clear hW y7 y1 HG HL HY0 HY1;have cR:=U4 (t.ZS.map Ru.da) Y y r.key W (HYr.out.later HB23.out) (by simpa using HOt.out.2.1);rw [List.length_map,S3] at cR;refine cR.mono ?_
  rintro e w4 ⟨rfl,hb⟩;have HB4:=bt HB3 hb;have HB24:=bt HB23 hb;have HV:=bl HX3 hb;have HZ:=bl HZ1 hb;clear hb cR HB3 HB23 HX3 HZ1
  cases hk:S4 t.ZS r.key with
  | none=>
   obtain rfl:res=61:=HK1.out hk;go_wp2;go_ret;exact⟨rfl,HB4.out⟩
  | some kk=>
   obtain⟨hkl,hres⟩:=HK2.out kk hk;have HRes:=hid hres;have hcl:=(HOt.out.2.2 t.ZS[kk] (List.getElem_mem hkl)).1;have htl:=HOt.out.1;clear hres HK1 HK2 HOt;obtain⟨ad2,vs,rfl,hv,hr⟩:=(HYr.out.later HB24.out).at_ (j:=kk) (by simpa using hkl);rw [List.getElem_map] at hv;have hkl':kk<t.ZS.length:=hkl;generalize t.ZS[kk]=q at*;obtain⟨V,v,rfl,hV,_⟩:=Ru.YO hv;have HVr:=hid hV;have q1:=ef (m:=kk*8) hr 1;have q2:=ef (m:=kk*8) hr 2;have z4:=ce HV 4;clear hv hr hV;rw [show Xe (some kk)=(kk:Int) from rfl];have hk1:(0:Int)≤(kk:Int):=by omega
   have hk2:(kk:Int)< (t.ZS.length:Int):=by omega
   by_cases hq:q.ZQ=2
   ·have HR2:Hid (res=if q.ZX.length=r.ZX.length∧(YE t.ZX q.ZX).length=q.ZX.length∧YE l r.ZX=YE t.ZX q.ZX then 0 else 63):=hid (by rw [HRes.out,if_neg (by simp [hq])]);clear HRes;have hq2:(q.ZQ == 2)=true:=by simpa using hq
    have hq3:(q.ZQ != 2)=false:=by simp [hq]
    have s2:=ce HZ 2;have s3:=ce HV 3;go_wp2_with fail;have hlz:=HZ.out.lt;have hlv:=HV.out.lt;have hS0:(fun w'=>Below w4.heap.size w4 w'∧w'.cell? ⟨w.heap.size+1,2,none⟩=some (.slice B r.ZX.length n)∧w'.cell? ⟨w2.heap.size,3,none⟩=some (.slice X t.ZX.length x)) w4.drew:=⟨br.drew,s2,s3⟩
    have hkeep:Hid (∀ w',Below w4.heap.size w4 w'→(fun w'=>Below w4.heap.size w4 w'∧w'.cell? ⟨w.heap.size+1,2,none⟩=some (.slice B r.ZX.length n)∧w'.cell? ⟨w2.heap.size,3,none⟩=some (.slice X t.ZX.length x)) w'):=hid fun w' h=>⟨h,ct s2 h hlz,ct s3 h hlv⟩
    refine wp_region_held_drew (S:=fun w'=>Below w4.heap.size w4 w'∧w'.cell? ⟨w.heap.size+1,2,none⟩=some (.slice B r.ZX.length n)∧w'.cell? ⟨w2.heap.size,3,none⟩=some (.slice X t.ZX.length x)) (by kernel_rfl) hS0 (fun HD=> ?_)
    (try simp only [pp]);refine tk 0 52 HD ?_;refine tk 1 53 HD ?_;refine tk 2 54 HD ?_;refine tk 4 56 HD ?_;refine tk 5 57 HD ?_;refine tk 6 58 HD ?_;refine on 3 55 fun K hK=> ?_
    go_simp;go_at_call 236
    have hD1:Below w4.heap.size w4 w4.drew:=br.drew;refine(Qr l r.ZX A k B n w4.drew (HA.out.later (HB4.out.trans (hD1.mono HB4.out.size))) (HB.out.later (HB4.out.trans (hD1.mono HB4.out.size))) hl hm).mono ?_
    rintro e w5 ⟨A5,c5,rfl,ho5,hb⟩;have HB5:Hid (Below w4.heap.size w4 w5):=hid (hD1.trans hb);have HO5:=hid ho5;clear hb ho5;refine hK _ _ (hkeep.out _ HB5.out) (fun HD=> ?_)
    clear hK K;(try simp only [pp])
    refine on 7 59 fun K hK=> ?_
    go_simp;go_at_call 236
    refine(Qr t.ZX q.ZX X x V v w5 (HXr.out.later (HB24.out.trans (HB5.out.mono HB24.out.size))) (HVr.out.later HB5.out) htl hcl).mono ?_
    rintro e w6 ⟨A6,c6,rfl,ho6,hb⟩;have HB6:=bt HB5 hb;have HI5:=hid ((Vs.own HO5.out rfl).below (B:=0) hb);have HI6:=hid (Vs.own ho6 rfl);clear hb ho6 HO5;refine hK _ _ (hkeep.out _ HB6.out) (fun HD=> ?_)
    clear hK K;(try simp only [pp])
    refine tk 8 12 HD ?_;refine tk 9 13 HD ?_;refine wpAnyH_done (by kernel_rfl) ?_ _
    have l5:(YE l r.ZX).length≤1099511627776:=Nat.le_trans (List.length_filterMap_le _ _) hm;have l6:(YE t.ZX q.ZX).length≤1099511627776:=Nat.le_trans (List.length_filterMap_le _ _) hcl;have HBF:=bt HB4 HB6.out;have u2:w6.cell? ⟨w.heap.size+1,2,none⟩=some (.slice B r.ZX.length n):=HD.2.1;clear HD hS0 hkeep s2 s3 z4 q1 q2 HV HZ;generalize YE l r.ZX=ks at*;generalize YE t.ZX q.ZX=ls at*;by_cases hc1:q.ZX.length=r.ZX.length
    ·have hc1':((q.ZX.length:Int) ==(r.ZX.length:Int))=true:=by simp;omega
     have hc1'':((q.ZX.length:Int) !=(r.ZX.length:Int))=false:=by simp;omega
     by_cases hc2:ls.length=q.ZX.length
     ·have hc2':((ls.length:Int) ==(q.ZX.length:Int))=true:=by simp;omega
      have hc2'':((ls.length:Int) !=(q.ZX.length:Int))=false:=by simp;omega
      have HR3:Hid (res=if decide (ks=ls)=true then 0 else 63):=hid (by rw [HR2.out];simp [hc1,hc2]);clear hc1 hc2 HR2;go_wp2_with fail;refine(OP ks ls A5 c5 A6 c6 w6 HI5.out HI6.out l5 l6).mono ?_
      rintro e w7 ⟨rfl,hb⟩;have HB7:=bt HBF hb;clear hb;generalize decide (ks=ls)=bb at*
      cases bb
      ·obtain rfl:res=63:=HR3.out;go_wp2;go_ret;exact⟨rfl,HB7.out⟩
      ·obtain rfl:res=0:=HR3.out;go_wp2;go_ret;exact⟨rfl,HB7.out⟩
     ·obtain rfl:res=63:=by rw [HR2.out,if_neg (fun h=>hc2 h.2.1)]
      have hc2':((ls.length:Int) ==(q.ZX.length:Int))=false:=by simp;omega
      have hc2'':((ls.length:Int) !=(q.ZX.length:Int))=true:=by simp;omega
      go_wp2;go_ret;exact⟨rfl,HBF.out⟩
    ·obtain rfl:res=63:=by rw [HR2.out,if_neg (fun h=>hc1 h.1)]
     have hc1':((q.ZX.length:Int) ==(r.ZX.length:Int))=false:=by simp;omega
     have hc1'':((q.ZX.length:Int) !=(r.ZX.length:Int))=true:=by simp;omega
     go_wp2;go_ret;exact⟨rfl,HBF.out⟩
   ·obtain rfl:res=61:=by rw [HRes.out,if_pos hq]
    have hq2:(q.ZQ == 2)=false:=by simpa using hq
    have hq3:(q.ZQ != 2)=true:=by simp [hq]
    go_wp2;go_ret;exact⟨rfl,HB4.out⟩
theorem Wb {α:Type}(p:α→Bool)(l:List α)(j:Nat)(h:j<l.length):(l.drop j).all p=(p l[j] && (l.drop (j+1)).all p):=by
 rw [List.drop_eq_getElem_cons h];rfl
theorem Ql (o:Ob)(A0:Option Addr)(k0:Nat)(A1:Option Addr)(k1:Nat)(t:Tb)(X:Option Addr)(x:Nat)(Y:Option Addr)(y:Nat)(w:World)(hS:ZV w (· < w.heap.size) Zh (o.Z4.map Sc.da) A0)(hT:ZV w (· < w.heap.size) Zt (o.Z7.map Tb.da) A1)
  (hX:ZV w (· < w.heap.size) Zl (t.ZX.map Cl.da) X) (hY:ZV w (· < w.heap.size) Yx (t.ZS.map Ru.da) Y) (ho:o.Zv 1099511627776) (ht:t.Zv 1099511627776):
  Calls Tryz.prog 109 #[.agg #[.slice A0 o.Z4.length k0,.slice A1 o.Z7.length k1],.agg (t.cs X x Y y).toArray] w fun e w'=>e= .returned (.bool (YV o t))∧Below w.heap.size w w':=by
 have HS:=hid hS;have HT:=hid hT;have HXr:=hid hX;have HYr:=hid hY;have HO:=hid ho;have HTa:=hid ht;have hcl:=ht.1;have hrl:=ht.2.1;have hsl:=ho.1;clear hS hT hX hY ho ht;have HR:Hid (YV o t=(Zr t.name && Zr t.ZL && Yb t.ZX && decide (t.ZS.length≤8) && (WY o.Z4 t.Z8).isSome && t.ZS.all (U9 o t) && Zo WQ t.ZS)):=hid rfl;have HI:=iN 40 8;unfold Tb.cs;generalize YV o t=res at*;go_enter Tryz.func109,Tryz.ntmps109
 go_wp2_with fail;refine Zm _ fun W hW=> ?_
 have HB1:=bQ hW;have HX0:=nD hW;have HX1:=nF hW;clear hW;refine(YL t.name W).mono ?_
 rintro e w1 ⟨rfl,m1,rfl⟩;have HB2:=hid (below_drewN HB1.out m1);have Y0:=hid (HX0.out.drewN m1);have Y1:=hid (HX1.out.drewN m1);clear HB1 HX0 HX1;generalize W.drewN m1=W1 at*;generalize Zr t.name=p1 at*
 cases p1
 ·have HR':Hid (res=false):=hid HR.out;go_wp2;go_ret;exact⟨by rw [HR'.out];rfl,HB2.out⟩
 rw [Bool.true_and] at HR;have y2:=ce Y1 2;go_wp2_with fail;refine(YL t.ZL W1).mono ?_
 rintro e w1 ⟨rfl,m2,rfl⟩;have HB3:=hid (below_drewN HB2.out m2);have Z0:=hid (Y0.out.drewN m2);have Z1:=hid (Y1.out.drewN m2);clear HB2 Y0 Y1 y2;generalize W1.drewN m2=W2 at*;generalize Zr t.ZL=p2 at*
 cases p2
 ·have HR':Hid (res=false):=hid HR.out;go_wp2;go_ret;exact⟨by rw [HR'.out];rfl,HB3.out⟩
 rw [Bool.true_and] at HR;have z3:=ce Z1 3;go_wp2_with fail;refine(UW t.ZX X x W2 (HXr.out.later HB3.out) hcl).mono ?_
 rintro e W3 ⟨rfl,hb⟩;have HB4:=bt HB3 hb;have V0:=bl Z0 hb;have V1:=bl Z1 hb;clear hb HB3 Z0 Z1 z3;generalize Yb t.ZX=p3 at*
 cases p3
 ·have HR':Hid (res=false):=hid HR.out;go_wp2;go_ret;exact⟨by rw [HR'.out];rfl,HB4.out⟩
 rw [Bool.true_and] at HR;have v4:=ce V1 4;have v0:=ce V1 0;have o0:=ce V0 0;by_cases h8:t.ZS.length≤8
 case neg=>
  have HR':Hid (res=false):=hid (by rw [HR.out,decide_eq_false h8];rfl);have h8':(t.ZS.length:Int) > 8:=by omega
  go_wp2;go_ret;exact⟨by rw [HR'.out];rfl,HB4.out⟩
 rw [decide_eq_true h8,Bool.true_and] at HR;have h8': ¬ (t.ZS.length:Int) > 8:=by omega
 go_wp2_with fail;have cS:=WK (o.Z4.map Sc.da) A0 k0 t.Z8 W3 (HS.out.later HB4.out) (by simpa using hsl);rw [List.length_map,UB] at cS;refine cS.mono ?_
 rintro e W4 ⟨rfl,hb⟩;have HB5:=bt HB4 hb;have U0:=bl V0 hb;have U1:=bl V1 hb;clear hb cS HB4 V0 V1 v4 v0 o0;rw [TQ] at HR;generalize Xe (WY o.Z4 t.Z8)=p5 at*;by_cases h5:p5<0
 ·have HR':Hid (res=false):=hid (by rw [HR.out,decide_eq_false (by omega)];rfl);go_wp2;go_ret;exact⟨by rw [HR'.out];rfl,HB5.out⟩
 have su4:=ce U1 4;rw [decide_eq_true (show 0≤p5 by omega),Bool.true_and] at HR;go_wp2;go_loopw [40] (fun i wr=> ∃ j:Nat,j≤t.ZS.length∧i= .int .i64 j∧Hid (t.ZS.all (U9 o t)=(t.ZS.drop j).all (U9 o t))∧Hid (Below w.heap.size w wr)∧Hid (ZP wr w.heap.size 26 [.slice A0 o.Z4.length k0,.slice A1 o.Z7.length k1])∧Hid (ZP wr (w.heap.size+1) 73 [.string (Z9 t.Z8),.string (Z9 t.name),.string (Z9 t.ZL),.slice X t.ZX.length x,.slice Y t.ZS.length y])) (fun i _=>t.ZS.length - (intOf i).toNat)
 case atStart=>exact⟨0,Nat.zero_le _,rfl,hid (by rw [List.drop_zero]),HB5,U0,U1⟩
 case round=>
  clear HB5 U0 U1 su4;obtain⟨j,hj,rfl,HE,HBw,K0,K1⟩:=hrel;by_cases hlt:j<t.ZS.length
  ·have HX:=hid (HE.out.trans (Wb (U9 o t) t.ZS j hlt));have hqt:=HTa.out.2.2 t.ZS[j] (List.getElem_mem hlt);obtain⟨ad,vs,rfl,hv,hr⟩:=(HYr.out.later HBw.out).at_ (j:=j) (by simpa using hlt);rw [List.getElem_map] at hv;generalize t.ZS[j]=q at*;obtain⟨V,v,rfl,hV,_⟩:=Ru.YO hv;have HVr:=hid hV;have HQ:=hid hqt;have HG:Hid (∀ i u,(q.cs V v)[i]?=some u→wr.cell? ((ad.add (j*8)).add i)=some u):=hid fun i u hu=>by rw [ZG];exact hr i u hu
   clear hv hr hV hqt;unfold Ru.cs at HG;have HL:Hid ((Tryz.prog.info? 40).map (·.size)=some ([.string (Z9 q.name),.int .i64 q.ZQ,.slice V q.ZX.length v,.int .i64 q.low,.int .i64 q.ZF,.string (Z9 q.Z8),.string (Z9 q.ZY),.string (Z9 q.key)]:List Value).length):=HI;have k3:(wr.alloc (.cells #[.string (Z9 q.name),.int .i64 q.ZQ,.slice V q.ZX.length v,.int .i64 q.low,.int .i64 q.ZF,.string (Z9 q.Z8),.string (Z9 q.ZY),.string (Z9 q.key)] 40)).cell? ⟨w.heap.size+1,3,none⟩=some (.slice X t.ZX.length x):=(K1.out.alloc _).cell 3;go_wp2_with (first | (with_reducible refine ZI rfl 40 _ rfl (ad.add (j*8)) rfl [.string (Z9 q.name),.int .i64 q.ZQ,.slice V q.ZX.length v,.int .i64 q.low,.int .i64 q.ZF,.string (Z9 q.Z8),.string (Z9 q.ZY),.string (Z9 q.key)] _ HG.out Tryz.underlying40 rfl HL.out ?_) | fail);refine Zm _ fun Wl hW=> ?_
   have HB6:=rL hW (HBw.out.alloc HBw.out.size _);have HBr:=bP hW;have HQ1:=nC hW;have M0:=rB hW (K0.out.alloc _);have M1:=rB hW (K1.out.alloc _);clear hW k3 HG HL K0 K1;have cF:=OL t.ZX q X x V v Wl (HXr.out.later HB6.out) (HVr.out.later HBr.out) hcl HQ.out;unfold Ru.cs at cF;refine cF.mono ?_
   rintro e w2 ⟨rfl,hb⟩;have HB7:=bt HB6 hb;have HBr2:=bt HBr hb;have HQ2:=bl HQ1 hb;have N0:=bl M0 hb;have N1:=bl M1 hb;clear hb cF HB6 HBr HQ1 M0 M1;have HP:Hid (U9 o t q=(Yy t.ZX q && (q.ZQ != 4 || Uu o t.ZX q == 0))):=hid rfl;have cK0:=fun W' h1 h2 h3=>MO o A0 k0 A1 k1 t.ZX X x q V v W' h1 h2 h3 HO.out hcl HQ.out
   generalize Yy t.ZX q=f1 at*;generalize Uu o t.ZX q=kp at*
   cases f1
   ·have HR':Hid (res=false):=hid (by rw [HR.out,HX.out,HP.out];rfl);go_wp2;go_ret;exact⟨by rw [HR'.out];rfl,HB7.out⟩
   rw [Bool.true_and] at HP;have b1:=ce HQ2 1;by_cases h4:q.ZQ=4
   case neg=>
    have h4':(q.ZQ == 4)=false:=by simpa using h4
    have HX':Hid (t.ZS.all (U9 o t)=(t.ZS.drop (j+1)).all (U9 o t)):=hid (by rw [HX.out,HP.out];simp [h4]);go_wp2;go_roundw
    case rel=>exact⟨j+1,by omega,by go_num,HX',HB7,N0,N1⟩
    case measure=>simp [intOf];omega
   have h4':(q.ZQ == 4)=true:=by simpa using h4
   have HP':Hid (U9 o t q=(kp == 0)):=hid (by rw [HP.out];simp [h4]);have b0:=ce HQ2 0;have b2:=ce HQ2 2;have b3:=ce HQ2 3;have b4:=ce HQ2 4;have b5:=ce HQ2 5;have b6:=ce HQ2 6;have b7:=ce HQ2 7;have b8:=ce N0 0;have b9:=ce N0 1;have b10:=ce N1 3;go_wp2_with fail;have cK:=cK0 w2 (HT.out.later HB7.out) (HXr.out.later HB7.out) (HVr.out.later HBr2.out);unfold Ru.cs at cK;clear cK0;rw [h4] at cK;refine cK.mono ?_
   rintro e w3 ⟨rfl,hb⟩;have HB8:=bt HB7 hb;have P0:=bl N0 hb;have P1:=bl N1 hb;clear hb cK HB7 HQ2 N0 N1 b0 b1 b2 b3 b4 b5 b6 b7 b8 b9 b10;by_cases hk0:kp=0
   ·have HX':Hid (t.ZS.all (U9 o t)=(t.ZS.drop (j+1)).all (U9 o t)):=hid (by rw [HX.out,HP'.out];simp [hk0]);have hk1:(kp == 0)=true:=by simpa using hk0
    have hk2:(kp != 0)=false:=by simp [hk0]
    go_wp2;go_roundw
    case rel=>exact⟨j+1,by omega,by go_num,HX',HB8,P0,P1⟩
    case measure=>simp [intOf];omega
   ·have HR':Hid (res=false):=hid (by rw [HR.out,HX.out,HP'.out];simp [hk0]);have hk1:(kp == 0)=false:=by simpa using hk0
    have hk2:(kp != 0)=true:=by simp [hk0]
    go_wp2;go_ret;exact⟨by rw [HR'.out];rfl,HB8.out⟩
  ·obtain rfl:j=t.ZS.length:=by omega
   rw [List.drop_length] at HE;have HR':Hid (res=Zo WQ t.ZS):=hid (by rw [HR.out,HE.out];rfl)
   have k4:=ce K1 4;go_wp2_with fail;refine(Nt t.ZS Y y wr (HYr.out.later HBw.out) hrl).mono ?_
   rintro e w2 ⟨rfl,hb⟩;have HB6:=bt HBw hb;rw [←HR'.out];clear hb;go_wp2;go_ret;exact⟨rfl,HB6.out⟩
end Go.Proofs.YtnhmoibjlakhjaaGreat
