/- Lemmas of the proof. No condition but each theorem's own. -/
import Derived.Test.YtnhmoibjlakhjaaGreatM16
import Derived.Sort.Grow
import Derived.Deep.Draws
import Derived.Test.YtnhmoibjlakhjaaGreatM18
import Derived.Test.YtnhmoibjlakhjaaGreatM03
import Derived.Test.YtnhmoibjlakhjaaGreatM10
set_option linter.unusedVariables false
set_option linter.unusedSimpArgs false
namespace Go.Proofs.YtnhmoibjlakhjaaGreat
open Lib (hid)
set_option maxRecDepth 100000
set_option maxHeartbeats 16000000
open Go.RowKit
structure WT (w w':World):Prop where
 below:Below w.heap.size w w'
 drawn:w.drawn≤w'.drawn
theorem WT.refl (w:World):WT w w:=⟨Below.refl _ _,Nat.le_refl _⟩
theorem WT.trans {a b c:World}(h:WT a b)(g:WT b c):WT a c:=⟨h.below.trans (g.below.mono h.below.size),Nat.le_trans h.drawn g.drawn⟩
theorem WT.drew (w:World):WT w w.drew:=⟨br.drew,Nat.le_succ _⟩
theorem WT.alloc (w:World)(o:Obj):WT w (w.alloc o):=⟨br.alloc lr o,Nat.le_refl _⟩
theorem WT.grown {w w':World}(h:WT w w'): ∃ q os,w'=Sort.grow (w.drewN q) os:=by
 obtain⟨⟨h1,h2,h3,h4,h5⟩,h6⟩:=h;refine⟨w'.drawn - w.drawn,w'.heap.extract w.heap.size w'.heap.size,?_⟩
 have hh:w'.heap=w.heap ++w'.heap.extract w.heap.size w'.heap.size:=by
  apply Array.ext_getElem?
  intro k;rw [Array.getElem?_append];split
  ·rename_i hk;exact h5 k hk
  ·rename_i hk;rw [Array.getElem?_extract];split
   ·congr 1
    omega
   ·rw [Array.getElem?_eq_none];omega
 have hd:w'.drawn=w.drawn+ (w'.drawn - w.drawn):=by omega
 unfold Sort.grow World.drewN;dsimp only;rw [←hh,←hd,←h1,←h2,←h3]
theorem Rz (a:Int):QK a 0=a:=by
 unfold QK;split <;> simp_all
theorem N9 (a b:Tb)(A:Option Addr)(n:Nat)(B:Option Addr)(m:Nat)(A':Option Addr)(n':Nat)(B':Option Addr)(m':Nat)(w:World):
  Calls Tryz.prog 104 #[.agg (a.cs A n B m).toArray,.agg (b.cs A' n' B' m').toArray] w fun e w'=>e= .returned (.int .i64 (Xn a b))∧WT w w':=by
 unfold Tb.cs;have h0:=fun W=>XP a.Z8 b.Z8 W
 have h1:=fun W=>XP a.name b.name W
 have HE:Hid (Xn a b=Pf [Y3 a.Z8 b.Z8,Y3 a.name b.name]):=hid (by simp only [Xn,Pf,Rz]);generalize Y3 a.Z8 b.Z8=r0 at*;generalize Y3 a.name b.name=r1 at*;have hor: ∀ g W,ZP W g 3 [.int .i64 r0,.int .i64 r1]→Calls Tryz.prog 149 #[.slice (some ⟨g,0,none⟩) 2 2] W fun e w'=>e= .returned (.int .i64 (Pf [r0,r1]))∧w'=W:=fun g W hB=>Ns [r0,r1] g 2 W hB (by simp)
 generalize Xn a b=r at*;go_enter Tryz.func104,Tryz.ntmps104
 go_wp2;refine VP _ fun W hW=> ?_
 have HB:Hid (WT w W):=hid (by rw [hW];exact(WT.alloc _ _).trans (WT.alloc _ _));have X0:Hid (ZP W w.heap.size 73 [.string (Z9 a.Z8),.string (Z9 a.name),.string (Z9 a.ZN),.slice A a.ZY.length n,.slice B a.ZT.length m]):=hid (by rw [hW];exact(ZP.new w 73 [.string (Z9 a.Z8),.string (Z9 a.name),.string (Z9 a.ZN),.slice A a.ZY.length n,.slice B a.ZT.length m]).alloc _);have X1:=nF hW;clear hW;have hS0:(fun w'=>WT W w'∧w'.cell? ⟨w.heap.size,0,none⟩=some (.string (Z9 a.Z8))∧w'.cell? ⟨w.heap.size+1,0,none⟩=some (.string (Z9 b.Z8))∧w'.cell? ⟨w.heap.size,1,none⟩=some (.string (Z9 a.name))∧w'.cell? ⟨w.heap.size+1,1,none⟩=some (.string (Z9 b.name))) W.drew:=⟨WT.drew W,(X0.out.drew.cell 0),(X1.out.drew.cell 0),(X0.out.drew.cell 1),(X1.out.drew.cell 1)⟩
 have hkeep:Hid (∀ w1 o,(fun w'=>WT W w'∧w'.cell? ⟨w.heap.size,0,none⟩=some (.string (Z9 a.Z8))∧w'.cell? ⟨w.heap.size+1,0,none⟩=some (.string (Z9 b.Z8))∧w'.cell? ⟨w.heap.size,1,none⟩=some (.string (Z9 a.name))∧w'.cell? ⟨w.heap.size+1,1,none⟩=some (.string (Z9 b.name))) w1→(fun w'=>WT W w'∧w'.cell? ⟨w.heap.size,0,none⟩=some (.string (Z9 a.Z8))∧w'.cell? ⟨w.heap.size+1,0,none⟩=some (.string (Z9 b.Z8))∧w'.cell? ⟨w.heap.size,1,none⟩=some (.string (Z9 a.name))∧w'.cell? ⟨w.heap.size+1,1,none⟩=some (.string (Z9 b.name))) (w1.alloc o)):=hid (by
  intro w1 o ⟨h0,_⟩;have h3:WT W (w1.alloc o):=h0.trans (WT.alloc _ _);exact⟨h3,cb X0 h3.below 0,cb X1 h3.below 0,cb X0 h3.below 1,cb X1 h3.below 1⟩)
 have hW1:w.heap.size+1<W.heap.size:=X1.out.lt;refine wp_region_held_drew (S:=fun w'=>WT W w'∧w'.cell? ⟨w.heap.size,0,none⟩=some (.string (Z9 a.Z8))∧w'.cell? ⟨w.heap.size+1,0,none⟩=some (.string (Z9 b.Z8))∧w'.cell? ⟨w.heap.size,1,none⟩=some (.string (Z9 a.name))∧w'.cell? ⟨w.heap.size+1,1,none⟩=some (.string (Z9 b.name))) (by kernel_rfl) hS0 (fun HD=> ?_)
 (try simp only [pp]);refine tk 0 5 HD ?_;refine tk 1 6 HD ?_;refine tk 2 7 HD ?_;refine tk 3 8 HD ?_;refine tk 5 10 HD ?_;refine tk 6 11 HD ?_;refine tk 7 12 HD ?_;refine tk 8 13 HD ?_;refine on 4 9 fun K hK=> ?_
 go_simp;go_at_call 107
 refine(h0 _).mono ?_
 rintro e w2 ⟨rfl,rfl⟩;refine hK _ _ HD (fun HD=> ?_)
 clear hK K;(try simp only [pp])
 refine on 9 14 fun K hK=> ?_
 go_simp;go_at_call 107
 refine(h1 _).mono ?_
 rintro e w2 ⟨rfl,rfl⟩;refine hK _ _ HD (fun HD=> ?_)
 clear hK K;(try simp only [pp])
 refine on 10 15 fun K hK=> ?_
 go_simp;refine hK _ _ (hkeep.out _ _ HD) (fun HD=> ?_)
 clear hK K;(try simp only [pp])
 refine on 11 16 fun K hK=> ?_
 go_simp;go_at_call 149
 refine(hor W.heap.size _ (ZP.new W _ _).drew).mono ?_
 rintro e w2 ⟨rfl,rfl⟩;refine hK _ _ HD (fun HD=> ?_)
 clear hK K;(try simp only [pp])
 refine tk 12 4 HD ?_;refine wpAnyH_done (by kernel_rfl) ?_ _
 have HF:Hid (WT w _):=hid (HB.out.trans HD.1);clear HD;go_wp2;go_ret;exact⟨by rw [HE.out];rfl,HF.out⟩
theorem Tz (a b:Mb) (w:World):
  Calls Tryz.prog 153 #[.agg (a.cs).toArray,.agg (b.cs).toArray] w fun e w'=>e= .returned (.int .i64 (X4 a b))∧WT w w':=by
 unfold Mb.cs;have h0:=fun W=>XP a.ZR b.ZR W
 have h1:=fun W=>XP a.of b.of W
 have HE:Hid (X4 a b=Pf [Y3 a.ZR b.ZR,Y3 a.of b.of]):=hid (by simp only [X4,Pf,Rz]);generalize Y3 a.ZR b.ZR=r0 at*;generalize Y3 a.of b.of=r1 at*;have hor: ∀ g W,ZP W g 3 [.int .i64 r0,.int .i64 r1]→Calls Tryz.prog 149 #[.slice (some ⟨g,0,none⟩) 2 2] W fun e w'=>e= .returned (.int .i64 (Pf [r0,r1]))∧w'=W:=fun g W hB=>Ns [r0,r1] g 2 W hB (by simp)
 generalize X4 a b=r at*;go_enter Tryz.func153,Tryz.ntmps153
 go_wp2;refine VP _ fun W hW=> ?_
 have HB:Hid (WT w W):=hid (by rw [hW];exact(WT.alloc _ _).trans (WT.alloc _ _));have X0:Hid (ZP W w.heap.size 147 [.string (Z9 a.ZR),.string (Z9 a.of)]):=hid (by rw [hW];exact(ZP.new w 147 [.string (Z9 a.ZR),.string (Z9 a.of)]).alloc _);have X1:=nF hW;clear hW;have hS0:(fun w'=>WT W w'∧w'.cell? ⟨w.heap.size,0,none⟩=some (.string (Z9 a.ZR))∧w'.cell? ⟨w.heap.size+1,0,none⟩=some (.string (Z9 b.ZR))∧w'.cell? ⟨w.heap.size,1,none⟩=some (.string (Z9 a.of))∧w'.cell? ⟨w.heap.size+1,1,none⟩=some (.string (Z9 b.of))) W.drew:=⟨WT.drew W,(X0.out.drew.cell 0),(X1.out.drew.cell 0),(X0.out.drew.cell 1),(X1.out.drew.cell 1)⟩
 have hkeep:Hid (∀ w1 o,(fun w'=>WT W w'∧w'.cell? ⟨w.heap.size,0,none⟩=some (.string (Z9 a.ZR))∧w'.cell? ⟨w.heap.size+1,0,none⟩=some (.string (Z9 b.ZR))∧w'.cell? ⟨w.heap.size,1,none⟩=some (.string (Z9 a.of))∧w'.cell? ⟨w.heap.size+1,1,none⟩=some (.string (Z9 b.of))) w1→(fun w'=>WT W w'∧w'.cell? ⟨w.heap.size,0,none⟩=some (.string (Z9 a.ZR))∧w'.cell? ⟨w.heap.size+1,0,none⟩=some (.string (Z9 b.ZR))∧w'.cell? ⟨w.heap.size,1,none⟩=some (.string (Z9 a.of))∧w'.cell? ⟨w.heap.size+1,1,none⟩=some (.string (Z9 b.of))) (w1.alloc o)):=hid (by
  intro w1 o ⟨h0,_⟩;have h3:WT W (w1.alloc o):=h0.trans (WT.alloc _ _);exact⟨h3,cb X0 h3.below 0,cb X1 h3.below 0,cb X0 h3.below 1,cb X1 h3.below 1⟩)
 have hW1:w.heap.size+1<W.heap.size:=X1.out.lt;refine wp_region_held_drew (S:=fun w'=>WT W w'∧w'.cell? ⟨w.heap.size,0,none⟩=some (.string (Z9 a.ZR))∧w'.cell? ⟨w.heap.size+1,0,none⟩=some (.string (Z9 b.ZR))∧w'.cell? ⟨w.heap.size,1,none⟩=some (.string (Z9 a.of))∧w'.cell? ⟨w.heap.size+1,1,none⟩=some (.string (Z9 b.of))) (by kernel_rfl) hS0 (fun HD=> ?_)
 (try simp only [pp]);refine tk 0 5 HD ?_;refine tk 1 6 HD ?_;refine tk 2 7 HD ?_;refine tk 3 8 HD ?_;refine tk 5 10 HD ?_;refine tk 6 11 HD ?_;refine tk 7 12 HD ?_;refine tk 8 13 HD ?_;refine on 4 9 fun K hK=> ?_
 go_simp;go_at_call 107
 refine(h0 _).mono ?_
 rintro e w2 ⟨rfl,rfl⟩;refine hK _ _ HD (fun HD=> ?_)
 clear hK K;(try simp only [pp])
 refine on 9 14 fun K hK=> ?_
 go_simp;go_at_call 107
 refine(h1 _).mono ?_
 rintro e w2 ⟨rfl,rfl⟩;refine hK _ _ HD (fun HD=> ?_)
 clear hK K;(try simp only [pp])
 refine on 10 15 fun K hK=> ?_
 go_simp;refine hK _ _ (hkeep.out _ _ HD) (fun HD=> ?_)
 clear hK K;(try simp only [pp])
 refine on 11 16 fun K hK=> ?_
 go_simp;go_at_call 149
 refine(hor W.heap.size _ (ZP.new W _ _).drew).mono ?_
 rintro e w2 ⟨rfl,rfl⟩;refine hK _ _ HD (fun HD=> ?_)
 clear hK K;(try simp only [pp])
 refine tk 12 4 HD ?_;refine wpAnyH_done (by kernel_rfl) ?_ _
 have HF:Hid (WT w _):=hid (HB.out.trans HD.1);clear HD;go_wp2;go_ret;exact⟨by rw [HE.out];rfl,HF.out⟩
theorem TF (a b:Gr) (w:World):
  Calls Tryz.prog 90 #[.agg (a.cs).toArray,.agg (b.cs).toArray] w fun e w'=>e= .returned (.int .i64 (TG a b))∧WT w w':=by
 unfold Gr.cs;have h0:=fun W=>XP a.Z8 b.Z8 W
 have h1:=fun W=>XP a.ZX b.ZX W
 have h2:=fun W=>KT a.right b.right W
 have h3:=fun W=>XP a.ZM b.ZM W
 have h4:=fun W=>XP a.to b.to W
 have HE:Hid (TG a b=Pf [Y3 a.Z8 b.Z8,Y3 a.ZX b.ZX,Lib.compareInt a.right b.right,Y3 a.ZM b.ZM,Y3 a.to b.to]):=hid (by simp only [TG,Pf,Rz]);generalize Y3 a.Z8 b.Z8=r0 at*;generalize Y3 a.ZX b.ZX=r1 at*;generalize Lib.compareInt a.right b.right=r2 at*;generalize Y3 a.ZM b.ZM=r3 at*;generalize Y3 a.to b.to=r4 at*;have hor: ∀ g W,ZP W g 3 [.int .i64 r0,.int .i64 r1,.int .i64 r2,.int .i64 r3,.int .i64 r4]→Calls Tryz.prog 149 #[.slice (some ⟨g,0,none⟩) 5 5] W fun e w'=>e= .returned (.int .i64 (Pf [r0,r1,r2,r3,r4]))∧w'=W:=fun g W hB=>Ns [r0,r1,r2,r3,r4] g 5 W hB (by simp)
 generalize TG a b=r at*;go_enter Tryz.func90,Tryz.ntmps90
 go_wp2;refine VP _ fun W hW=> ?_
 have HB:Hid (WT w W):=hid (by rw [hW];exact(WT.alloc _ _).trans (WT.alloc _ _));have X0:Hid (ZP W w.heap.size 53 [.string (Z9 a.Z8),.string (Z9 a.ZX),.int .i64 a.right,.string (Z9 a.ZM),.string (Z9 a.to),.bool a.Zy]):=hid (by rw [hW];exact(ZP.new w 53 [.string (Z9 a.Z8),.string (Z9 a.ZX),.int .i64 a.right,.string (Z9 a.ZM),.string (Z9 a.to),.bool a.Zy]).alloc _);have X1:=nF hW;clear hW;have hS0:(fun w'=>WT W w'∧w'.cell? ⟨w.heap.size,0,none⟩=some (.string (Z9 a.Z8))∧w'.cell? ⟨w.heap.size+1,0,none⟩=some (.string (Z9 b.Z8))∧w'.cell? ⟨w.heap.size,1,none⟩=some (.string (Z9 a.ZX))∧w'.cell? ⟨w.heap.size+1,1,none⟩=some (.string (Z9 b.ZX))∧w'.cell? ⟨w.heap.size,2,none⟩=some (.int .i64 a.right)∧w'.cell? ⟨w.heap.size+1,2,none⟩=some (.int .i64 b.right)∧w'.cell? ⟨w.heap.size,3,none⟩=some (.string (Z9 a.ZM))∧w'.cell? ⟨w.heap.size+1,3,none⟩=some (.string (Z9 b.ZM))∧w'.cell? ⟨w.heap.size,4,none⟩=some (.string (Z9 a.to))∧w'.cell? ⟨w.heap.size+1,4,none⟩=some (.string (Z9 b.to))) W.drew:=⟨WT.drew W,(X0.out.drew.cell 0),(X1.out.drew.cell 0),(X0.out.drew.cell 1),(X1.out.drew.cell 1),(X0.out.drew.cell 2),(X1.out.drew.cell 2),(X0.out.drew.cell 3),(X1.out.drew.cell 3),(X0.out.drew.cell 4),(X1.out.drew.cell 4)⟩
 have hkeep:Hid (∀ w1 o,(fun w'=>WT W w'∧w'.cell? ⟨w.heap.size,0,none⟩=some (.string (Z9 a.Z8))∧w'.cell? ⟨w.heap.size+1,0,none⟩=some (.string (Z9 b.Z8))∧w'.cell? ⟨w.heap.size,1,none⟩=some (.string (Z9 a.ZX))∧w'.cell? ⟨w.heap.size+1,1,none⟩=some (.string (Z9 b.ZX))∧w'.cell? ⟨w.heap.size,2,none⟩=some (.int .i64 a.right)∧w'.cell? ⟨w.heap.size+1,2,none⟩=some (.int .i64 b.right)∧w'.cell? ⟨w.heap.size,3,none⟩=some (.string (Z9 a.ZM))∧w'.cell? ⟨w.heap.size+1,3,none⟩=some (.string (Z9 b.ZM))∧w'.cell? ⟨w.heap.size,4,none⟩=some (.string (Z9 a.to))∧w'.cell? ⟨w.heap.size+1,4,none⟩=some (.string (Z9 b.to))) w1→(fun w'=>WT W w'∧w'.cell? ⟨w.heap.size,0,none⟩=some (.string (Z9 a.Z8))∧w'.cell? ⟨w.heap.size+1,0,none⟩=some (.string (Z9 b.Z8))∧w'.cell? ⟨w.heap.size,1,none⟩=some (.string (Z9 a.ZX))∧w'.cell? ⟨w.heap.size+1,1,none⟩=some (.string (Z9 b.ZX))∧w'.cell? ⟨w.heap.size,2,none⟩=some (.int .i64 a.right)∧w'.cell? ⟨w.heap.size+1,2,none⟩=some (.int .i64 b.right)∧w'.cell? ⟨w.heap.size,3,none⟩=some (.string (Z9 a.ZM))∧w'.cell? ⟨w.heap.size+1,3,none⟩=some (.string (Z9 b.ZM))∧w'.cell? ⟨w.heap.size,4,none⟩=some (.string (Z9 a.to))∧w'.cell? ⟨w.heap.size+1,4,none⟩=some (.string (Z9 b.to))) (w1.alloc o)):=hid (by
  intro w1 o ⟨h0,_⟩;have h3:WT W (w1.alloc o):=h0.trans (WT.alloc _ _);exact⟨h3,cb X0 h3.below 0,cb X1 h3.below 0,cb X0 h3.below 1,cb X1 h3.below 1,cb X0 h3.below 2,cb X1 h3.below 2,cb X0 h3.below 3,cb X1 h3.below 3,cb X0 h3.below 4,cb X1 h3.below 4⟩)
 have hW1:w.heap.size+1<W.heap.size:=X1.out.lt;refine wp_region_held_drew (S:=fun w'=>WT W w'∧w'.cell? ⟨w.heap.size,0,none⟩=some (.string (Z9 a.Z8))∧w'.cell? ⟨w.heap.size+1,0,none⟩=some (.string (Z9 b.Z8))∧w'.cell? ⟨w.heap.size,1,none⟩=some (.string (Z9 a.ZX))∧w'.cell? ⟨w.heap.size+1,1,none⟩=some (.string (Z9 b.ZX))∧w'.cell? ⟨w.heap.size,2,none⟩=some (.int .i64 a.right)∧w'.cell? ⟨w.heap.size+1,2,none⟩=some (.int .i64 b.right)∧w'.cell? ⟨w.heap.size,3,none⟩=some (.string (Z9 a.ZM))∧w'.cell? ⟨w.heap.size+1,3,none⟩=some (.string (Z9 b.ZM))∧w'.cell? ⟨w.heap.size,4,none⟩=some (.string (Z9 a.to))∧w'.cell? ⟨w.heap.size+1,4,none⟩=some (.string (Z9 b.to))) (by kernel_rfl) hS0 (fun HD=> ?_)
 (try simp only [pp]);refine tk 0 5 HD ?_;refine tk 1 6 HD ?_;refine tk 2 7 HD ?_;refine tk 3 8 HD ?_;refine tk 5 10 HD ?_;refine tk 6 11 HD ?_;refine tk 7 12 HD ?_;refine tk 8 13 HD ?_;refine tk 10 15 HD ?_;refine tk 11 16 HD ?_;refine tk 12 17 HD ?_;refine tk 13 18 HD ?_;refine tk 15 20 HD ?_;refine tk 16 21 HD ?_;refine tk 17 22 HD ?_;refine tk 18 23 HD ?_;refine tk 20 25 HD ?_;refine tk 21 26 HD ?_;refine tk 22 27 HD ?_;refine tk 23 28 HD ?_;refine on 4 9 fun K hK=> ?_
 go_simp;go_at_call 107
 refine(h0 _).mono ?_
 rintro e w2 ⟨rfl,rfl⟩;refine hK _ _ HD (fun HD=> ?_)
 clear hK K;(try simp only [pp])
 refine on 9 14 fun K hK=> ?_
 go_simp;go_at_call 107
 refine(h1 _).mono ?_
 rintro e w2 ⟨rfl,rfl⟩;refine hK _ _ HD (fun HD=> ?_)
 clear hK K;(try simp only [pp])
 refine on 14 19 fun K hK=> ?_
 go_simp;go_at_call 150
 refine(h2 _).mono ?_
 rintro e w2 ⟨rfl,rfl⟩;refine hK _ _ HD (fun HD=> ?_)
 clear hK K;(try simp only [pp])
 refine on 19 24 fun K hK=> ?_
 go_simp;go_at_call 107
 refine(h3 _).mono ?_
 rintro e w2 ⟨rfl,rfl⟩;refine hK _ _ HD (fun HD=> ?_)
 clear hK K;(try simp only [pp])
 refine on 24 29 fun K hK=> ?_
 go_simp;go_at_call 107
 refine(h4 _).mono ?_
 rintro e w2 ⟨rfl,rfl⟩;refine hK _ _ HD (fun HD=> ?_)
 clear hK K;(try simp only [pp])
 refine on 25 30 fun K hK=> ?_
 go_simp;refine hK _ _ (hkeep.out _ _ HD) (fun HD=> ?_)
 clear hK K;(try simp only [pp])
 refine on 26 31 fun K hK=> ?_
 go_simp;go_at_call 149
 refine(hor W.heap.size _ (ZP.new W _ _).drew).mono ?_
 rintro e w2 ⟨rfl,rfl⟩;refine hK _ _ HD (fun HD=> ?_)
 clear hK K;(try simp only [pp])
 refine tk 27 4 HD ?_;refine wpAnyH_done (by kernel_rfl) ?_ _
 have HF:Hid (WT w _):=hid (HB.out.trans HD.1);clear HD;go_wp2;go_ret;exact⟨by rw [HE.out];rfl,HF.out⟩
theorem NZ {a b:List (List UInt8)}(h:YY a=YY b):a=b:=by
 unfold YY at h;exact(List.map_inj_right (by intro x y hxy;injection hxy with h1;injection h1)).1 h
theorem Cl.Ve {a b:Cl}(h:a.da=b.da):a=b:=by
 cases a;cases b
 simp [Cl.da] at h;obtain⟨rfl,rfl,rfl⟩:=h;rfl
theorem Ru.Ve {a b:Ru}(h:a.da=b.da):a=b:=by
 cases a;cases b
 simp only [Ru.da,List.cons.injEq,Da.Z9.injEq,Da.int.injEq,Da.rows.injEq,and_true] at h;obtain⟨rfl,rfl,h1,rfl,rfl,rfl,rfl,rfl⟩:=h;rw [NZ h1]
theorem Tb.Ve {a b:Tb}(h:a.da=b.da):a=b:=by
 cases a;cases b
 simp only [Tb.da,List.cons.injEq,Da.Z9.injEq,Da.rows.injEq,and_true] at h;obtain⟨rfl,rfl,rfl,h1,h2⟩:=h;rw [(List.map_inj_right fun _ _=>Cl.Ve).1 h1,(List.map_inj_right fun _ _=>Ru.Ve).1 h2]
theorem Ru.Y4 {w:World}{S:Nat→Prop}{c:Ru}{vs:List Value}(h:ZG w S YP c.da vs): ∃ A n,vs=c.cs A n∧ZV w S [.Z9] (YY c.ZY) A∧
  (-9223372036854775808≤c.low∧c.low≤9223372036854775807)∧(-9223372036854775808≤c.ZF∧c.ZF≤9223372036854775807):=by
 obtain⟨r,A,n,h1,h2,h3⟩:=Ru.YM h;obtain rfl:=Ru.Ve h1;exact⟨A,n,h2,h3⟩
theorem Tb.Y4 {w:World}{S:Nat→Prop}{c:Tb}{vs:List Value}(h:ZG w S Zv c.da vs): ∃ A n B m,vs=c.cs A n B m∧ZV w S Zo (c.ZY.map Cl.da) A∧ZV w S YP (c.ZT.map Ru.da) B:=by
 obtain⟨r,A,n,B,m,h1,h2,h3⟩:=Tb.YM h;obtain rfl:=Tb.Ve h1;exact⟨A,n,B,m,h2,h3⟩
theorem Nh (l:List Ru)(A:Option Addr)(k:Nat)(w:World)(hA:ZV w (· < w.heap.size) YP (l.map Ru.da) A)(hn:l.length≤1099511627776):
  Calls Tryz.prog 163 #[.slice A l.length k,.func (.func 164) #[] #[]] w fun e w'=>e= .returned (.bool (Zn WO l))∧Below w.heap.size w w':=by
 have HA:=hid hA;clear hA;go_enter Tryz.func163,Tryz.ntmps163
 go_wp2;go_loopw [10] (fun i wr=> ∃ j:Nat,(j+1≤l.length∨j=0)∧i= .int .i64 j∧Hid (Zn WO l=Zn WO (l.drop j))∧Hid (Below w.heap.size w wr)) (fun i _=>l.length - (intOf i).toNat)
 case atStart=>exact⟨0,Or.inr rfl,rfl,hid (by rw [List.drop_zero]),hid br⟩
 case round=>
  obtain⟨j,hj,rfl,HE,HBw⟩:=hrel;by_cases hlt:j+1<l.length
  ·have hlt':(j:Int)< (l.length:Int) - 1:=by omega
   have hb1:(j:Int)+1< (l.length:Int):=by omega
   have hb2:(0:Int)≤(j:Int)+1:=by omega
   have hb3:((j:Int)+1).toNat=j+1:=by omega
   have hb4:(j:Int)< (l.length:Int):=by omega
   have hwr:IntKind.i64.wrap ((j:Int)+1)=(j:Int)+1:=by simp [IntKind.wrap,IntKind.bits,IntKind.signed];omega
   have hmax:(max 0 ((l.length:Int) - 1))=(l.length:Int) - 1:=by omega
   obtain⟨ad,vs,rfl,hv,hr⟩:=(HA.out.below HBw.out).at_ (j:=j) (by simpa using (by omega:j<l.length));obtain⟨ad',vs',e',hv',hr'⟩:=(HA.out.below HBw.out).at_ (j:=j+1) (by simpa using hlt);injection e' with e'
   subst e';rw [List.getElem_map] at hv hv';have HX:Hid (Zn WO l=(decide (WO l[j] l[j+1]<0) && Zn WO (l.drop (j+1)))):=hid (HE.out.trans (UL WO l j hlt));generalize l[j]=x at*;generalize l[j+1]=y at*;obtain⟨X,n,rfl,_⟩:=Ru.Y4 hv;obtain⟨X',n',rfl,_⟩:=Ru.Y4 hv';have a0:=e0 (m:=j*8) hr;have a1:=ef (m:=j*8) hr 1;have a2:=ef (m:=j*8) hr 2;have a3:=ef (m:=j*8) hr 3;have a4:=ef (m:=j*8) hr 4;have a5:=ef (m:=j*8) hr 5;have a6:=ef (m:=j*8) hr 6;have a7:=ef (m:=j*8) hr 7;have b0:=e0 (m:=(j+1)*8) hr';have b1:=ef (m:=(j+1)*8) hr' 1;have b2:=ef (m:=(j+1)*8) hr' 2;have b3:=ef (m:=(j+1)*8) hr' 3;have b4:=ef (m:=(j+1)*8) hr' 4;have b5:=ef (m:=(j+1)*8) hr' 5;have b6:=ef (m:=(j+1)*8) hr' 6;have b7:=ef (m:=(j+1)*8) hr' 7;clear hv hv' hr hr';rw [hmax];have hz:=World.block_lt_of_cell? wr _ a0;have hz':=World.block_lt_of_cell? wr _ b0;have hW0:Below wr.heap.size wr wr.drew:=Below.drew br;have hkeep:Hid (∀ w1 w2,(fun w'=>Below wr.heap.size wr w'∧w'.cell? (ad.add (j*8))=some (.string (Z9 x.name))∧w'.cell? ⟨(ad.add (j*8)).block,(ad.add (j*8)).off+1,none⟩=some (.int .i64 x.ZQ)∧w'.cell? ⟨(ad.add (j*8)).block,(ad.add (j*8)).off+2,none⟩=some (.slice X x.ZY.length n)∧w'.cell? ⟨(ad.add (j*8)).block,(ad.add (j*8)).off+3,none⟩=some (.int .i64 x.low)∧w'.cell? ⟨(ad.add (j*8)).block,(ad.add (j*8)).off+4,none⟩=some (.int .i64 x.ZF)∧w'.cell? ⟨(ad.add (j*8)).block,(ad.add (j*8)).off+5,none⟩=some (.string (Z9 x.Z8))∧w'.cell? ⟨(ad.add (j*8)).block,(ad.add (j*8)).off+6,none⟩=some (.string (Z9 x.ZX))∧w'.cell? ⟨(ad.add (j*8)).block,(ad.add (j*8)).off+7,none⟩=some (.string (Z9 x.key))∧w'.cell? (ad.add ((j+1)*8))=some (.string (Z9 y.name))∧w'.cell? ⟨(ad.add ((j+1)*8)).block,(ad.add ((j+1)*8)).off+1,none⟩=some (.int .i64 y.ZQ)∧w'.cell? ⟨(ad.add ((j+1)*8)).block,(ad.add ((j+1)*8)).off+2,none⟩=some (.slice X' y.ZY.length n')∧w'.cell? ⟨(ad.add ((j+1)*8)).block,(ad.add ((j+1)*8)).off+3,none⟩=some (.int .i64 y.low)∧w'.cell? ⟨(ad.add ((j+1)*8)).block,(ad.add ((j+1)*8)).off+4,none⟩=some (.int .i64 y.ZF)∧w'.cell? ⟨(ad.add ((j+1)*8)).block,(ad.add ((j+1)*8)).off+5,none⟩=some (.string (Z9 y.Z8))∧w'.cell? ⟨(ad.add ((j+1)*8)).block,(ad.add ((j+1)*8)).off+6,none⟩=some (.string (Z9 y.ZX))∧w'.cell? ⟨(ad.add ((j+1)*8)).block,(ad.add ((j+1)*8)).off+7,none⟩=some (.string (Z9 y.key))) w1→Below w1.heap.size w1 w2→(fun w'=>Below wr.heap.size wr w'∧w'.cell? (ad.add (j*8))=some (.string (Z9 x.name))∧w'.cell? ⟨(ad.add (j*8)).block,(ad.add (j*8)).off+1,none⟩=some (.int .i64 x.ZQ)∧w'.cell? ⟨(ad.add (j*8)).block,(ad.add (j*8)).off+2,none⟩=some (.slice X x.ZY.length n)∧w'.cell? ⟨(ad.add (j*8)).block,(ad.add (j*8)).off+3,none⟩=some (.int .i64 x.low)∧w'.cell? ⟨(ad.add (j*8)).block,(ad.add (j*8)).off+4,none⟩=some (.int .i64 x.ZF)∧w'.cell? ⟨(ad.add (j*8)).block,(ad.add (j*8)).off+5,none⟩=some (.string (Z9 x.Z8))∧w'.cell? ⟨(ad.add (j*8)).block,(ad.add (j*8)).off+6,none⟩=some (.string (Z9 x.ZX))∧w'.cell? ⟨(ad.add (j*8)).block,(ad.add (j*8)).off+7,none⟩=some (.string (Z9 x.key))∧w'.cell? (ad.add ((j+1)*8))=some (.string (Z9 y.name))∧w'.cell? ⟨(ad.add ((j+1)*8)).block,(ad.add ((j+1)*8)).off+1,none⟩=some (.int .i64 y.ZQ)∧w'.cell? ⟨(ad.add ((j+1)*8)).block,(ad.add ((j+1)*8)).off+2,none⟩=some (.slice X' y.ZY.length n')∧w'.cell? ⟨(ad.add ((j+1)*8)).block,(ad.add ((j+1)*8)).off+3,none⟩=some (.int .i64 y.low)∧w'.cell? ⟨(ad.add ((j+1)*8)).block,(ad.add ((j+1)*8)).off+4,none⟩=some (.int .i64 y.ZF)∧w'.cell? ⟨(ad.add ((j+1)*8)).block,(ad.add ((j+1)*8)).off+5,none⟩=some (.string (Z9 y.Z8))∧w'.cell? ⟨(ad.add ((j+1)*8)).block,(ad.add ((j+1)*8)).off+6,none⟩=some (.string (Z9 y.ZX))∧w'.cell? ⟨(ad.add ((j+1)*8)).block,(ad.add ((j+1)*8)).off+7,none⟩=some (.string (Z9 y.key))) w2):=hid (by
    intro w1 w2 ⟨h1,_⟩ h2;have h3:Below wr.heap.size wr w2:=h1.trans (h2.mono h1.size);exact⟨h3,(h3.cell (p:=(ad.add (j*8))) hz).trans a0,ct a1 h3 hz,ct a2 h3 hz,ct a3 h3 hz,ct a4 h3 hz,ct a5 h3 hz,ct a6 h3 hz,ct a7 h3 hz,(h3.cell (p:=(ad.add ((j+1)*8))) hz').trans b0,ct b1 h3 hz',ct b2 h3 hz',ct b3 h3 hz',ct b4 h3 hz',ct b5 h3 hz',ct b6 h3 hz',ct b7 h3 hz'⟩)
   have hcmp:=fun W=>No x y X n X' n' W
   unfold Ru.cs at hcmp;generalize WO x y=r at*;go_wp2_with fail;go_region_held_law (fun w'=>Below wr.heap.size wr w'∧w'.cell? (ad.add (j*8))=some (.string (Z9 x.name))∧w'.cell? ⟨(ad.add (j*8)).block,(ad.add (j*8)).off+1,none⟩=some (.int .i64 x.ZQ)∧w'.cell? ⟨(ad.add (j*8)).block,(ad.add (j*8)).off+2,none⟩=some (.slice X x.ZY.length n)∧w'.cell? ⟨(ad.add (j*8)).block,(ad.add (j*8)).off+3,none⟩=some (.int .i64 x.low)∧w'.cell? ⟨(ad.add (j*8)).block,(ad.add (j*8)).off+4,none⟩=some (.int .i64 x.ZF)∧w'.cell? ⟨(ad.add (j*8)).block,(ad.add (j*8)).off+5,none⟩=some (.string (Z9 x.Z8))∧w'.cell? ⟨(ad.add (j*8)).block,(ad.add (j*8)).off+6,none⟩=some (.string (Z9 x.ZX))∧w'.cell? ⟨(ad.add (j*8)).block,(ad.add (j*8)).off+7,none⟩=some (.string (Z9 x.key))∧w'.cell? (ad.add ((j+1)*8))=some (.string (Z9 y.name))∧w'.cell? ⟨(ad.add ((j+1)*8)).block,(ad.add ((j+1)*8)).off+1,none⟩=some (.int .i64 y.ZQ)∧w'.cell? ⟨(ad.add ((j+1)*8)).block,(ad.add ((j+1)*8)).off+2,none⟩=some (.slice X' y.ZY.length n')∧w'.cell? ⟨(ad.add ((j+1)*8)).block,(ad.add ((j+1)*8)).off+3,none⟩=some (.int .i64 y.low)∧w'.cell? ⟨(ad.add ((j+1)*8)).block,(ad.add ((j+1)*8)).off+4,none⟩=some (.int .i64 y.ZF)∧w'.cell? ⟨(ad.add ((j+1)*8)).block,(ad.add ((j+1)*8)).off+5,none⟩=some (.string (Z9 y.Z8))∧w'.cell? ⟨(ad.add ((j+1)*8)).block,(ad.add ((j+1)*8)).off+6,none⟩=some (.string (Z9 y.ZX))∧w'.cell? ⟨(ad.add ((j+1)*8)).block,(ad.add ((j+1)*8)).off+7,none⟩=some (.string (Z9 y.key)))
    (first | exact hkeep.out _ _ (by assumption) (by assumption) | exact⟨hW0,a0,a1,a2,a3,a4,a5,a6,a7,b0,b1,b2,b3,b4,b5,b6,b7⟩)
    (first | (go_at_call 164;refine(hcmp _).mono ?_;rintro e w' ⟨rfl,hb⟩))
   rename_i hS;have HB2:=bt HBw hS.1;clear hS;by_cases hq:r<0
   ·have HX':Hid (Zn WO l=Zn WO (l.drop (j+1))):=hid (by rw [HX.out];simp [hq]);have hq': ¬ r≥0:=by omega
    have hq2: ¬ 0≤r:=by omega
    go_wp2;go_roundw
    case rel=>exact⟨j+1,by omega,by go_num,HX',HB2⟩
    case measure=>simp [intOf];omega
   ·have HX':Hid (Zn WO l=false):=hid (by rw [HX.out];simp [hq]);have hq':r≥0:=by omega
    have hq2:0≤r:=by omega
    go_wp2;go_ret;exact⟨by rw [HX'.out];rfl,HB2.out⟩
  ·have HR:Hid (Zn WO l=true):=hid (HE.out.trans (Uc WO l j (by omega)));have hlt': ¬ (j:Int)<max 0 ((l.length:Int) - 1):=by omega
   go_wp2;go_ret;exact⟨by rw [HR.out];rfl,HBw.out⟩
theorem Of (l:List Tb)(A:Option Addr)(k:Nat)(w:World)(hA:ZV w (· < w.heap.size) Zv (l.map Tb.da) A)(hn:l.length≤1099511627776):
  Calls Tryz.prog 103 #[.slice A l.length k,.func (.func 104) #[] #[]] w fun e w'=>e= .returned (.bool (Zn Xn l))∧Below w.heap.size w w':=by
 have HA:=hid hA;clear hA;go_enter Tryz.func103,Tryz.ntmps103
 go_wp2;go_loopw [10] (fun i wr=> ∃ j:Nat,(j+1≤l.length∨j=0)∧i= .int .i64 j∧Hid (Zn Xn l=Zn Xn (l.drop j))∧Hid (Below w.heap.size w wr)) (fun i _=>l.length - (intOf i).toNat)
 case atStart=>exact⟨0,Or.inr rfl,rfl,hid (by rw [List.drop_zero]),hid br⟩
 case round=>
  obtain⟨j,hj,rfl,HE,HBw⟩:=hrel;by_cases hlt:j+1<l.length
  ·have hlt':(j:Int)< (l.length:Int) - 1:=by omega
   have hb1:(j:Int)+1< (l.length:Int):=by omega
   have hb2:(0:Int)≤(j:Int)+1:=by omega
   have hb3:((j:Int)+1).toNat=j+1:=by omega
   have hb4:(j:Int)< (l.length:Int):=by omega
   have hwr:IntKind.i64.wrap ((j:Int)+1)=(j:Int)+1:=by simp [IntKind.wrap,IntKind.bits,IntKind.signed];omega
   have hmax:(max 0 ((l.length:Int) - 1))=(l.length:Int) - 1:=by omega
   obtain⟨ad,vs,rfl,hv,hr⟩:=(HA.out.below HBw.out).at_ (j:=j) (by simpa using (by omega:j<l.length));obtain⟨ad',vs',e',hv',hr'⟩:=(HA.out.below HBw.out).at_ (j:=j+1) (by simpa using hlt);injection e' with e'
   subst e';rw [List.getElem_map] at hv hv';have HX:Hid (Zn Xn l=(decide (Xn l[j] l[j+1]<0) && Zn Xn (l.drop (j+1)))):=hid (HE.out.trans (UL Xn l j hlt));generalize l[j]=x at*;generalize l[j+1]=y at*;obtain⟨X,n,Y,m,rfl,_⟩:=Tb.Y4 hv;obtain⟨X',n',Y',m',rfl,_⟩:=Tb.Y4 hv';have a0:=e0 (m:=j*5) hr;have a1:=ef (m:=j*5) hr 1;have a2:=ef (m:=j*5) hr 2;have a3:=ef (m:=j*5) hr 3;have a4:=ef (m:=j*5) hr 4;have b0:=e0 (m:=(j+1)*5) hr';have b1:=ef (m:=(j+1)*5) hr' 1;have b2:=ef (m:=(j+1)*5) hr' 2;have b3:=ef (m:=(j+1)*5) hr' 3;have b4:=ef (m:=(j+1)*5) hr' 4;clear hv hv' hr hr';rw [hmax];have hz:=World.block_lt_of_cell? wr _ a0;have hz':=World.block_lt_of_cell? wr _ b0;have hW0:Below wr.heap.size wr wr.drew:=Below.drew br;have hkeep:Hid (∀ w1 w2,(fun w'=>Below wr.heap.size wr w'∧w'.cell? (ad.add (j*5))=some (.string (Z9 x.Z8))∧w'.cell? ⟨(ad.add (j*5)).block,(ad.add (j*5)).off+1,none⟩=some (.string (Z9 x.name))∧w'.cell? ⟨(ad.add (j*5)).block,(ad.add (j*5)).off+2,none⟩=some (.string (Z9 x.ZN))∧w'.cell? ⟨(ad.add (j*5)).block,(ad.add (j*5)).off+3,none⟩=some (.slice X x.ZY.length n)∧w'.cell? ⟨(ad.add (j*5)).block,(ad.add (j*5)).off+4,none⟩=some (.slice Y x.ZT.length m)∧w'.cell? (ad.add ((j+1)*5))=some (.string (Z9 y.Z8))∧w'.cell? ⟨(ad.add ((j+1)*5)).block,(ad.add ((j+1)*5)).off+1,none⟩=some (.string (Z9 y.name))∧w'.cell? ⟨(ad.add ((j+1)*5)).block,(ad.add ((j+1)*5)).off+2,none⟩=some (.string (Z9 y.ZN))∧w'.cell? ⟨(ad.add ((j+1)*5)).block,(ad.add ((j+1)*5)).off+3,none⟩=some (.slice X' y.ZY.length n')∧w'.cell? ⟨(ad.add ((j+1)*5)).block,(ad.add ((j+1)*5)).off+4,none⟩=some (.slice Y' y.ZT.length m')) w1→Below w1.heap.size w1 w2→(fun w'=>Below wr.heap.size wr w'∧w'.cell? (ad.add (j*5))=some (.string (Z9 x.Z8))∧w'.cell? ⟨(ad.add (j*5)).block,(ad.add (j*5)).off+1,none⟩=some (.string (Z9 x.name))∧w'.cell? ⟨(ad.add (j*5)).block,(ad.add (j*5)).off+2,none⟩=some (.string (Z9 x.ZN))∧w'.cell? ⟨(ad.add (j*5)).block,(ad.add (j*5)).off+3,none⟩=some (.slice X x.ZY.length n)∧w'.cell? ⟨(ad.add (j*5)).block,(ad.add (j*5)).off+4,none⟩=some (.slice Y x.ZT.length m)∧w'.cell? (ad.add ((j+1)*5))=some (.string (Z9 y.Z8))∧w'.cell? ⟨(ad.add ((j+1)*5)).block,(ad.add ((j+1)*5)).off+1,none⟩=some (.string (Z9 y.name))∧w'.cell? ⟨(ad.add ((j+1)*5)).block,(ad.add ((j+1)*5)).off+2,none⟩=some (.string (Z9 y.ZN))∧w'.cell? ⟨(ad.add ((j+1)*5)).block,(ad.add ((j+1)*5)).off+3,none⟩=some (.slice X' y.ZY.length n')∧w'.cell? ⟨(ad.add ((j+1)*5)).block,(ad.add ((j+1)*5)).off+4,none⟩=some (.slice Y' y.ZT.length m')) w2):=hid (by
    intro w1 w2 ⟨h1,_⟩ h2;have h3:Below wr.heap.size wr w2:=h1.trans (h2.mono h1.size);exact⟨h3,(h3.cell (p:=(ad.add (j*5))) hz).trans a0,ct a1 h3 hz,ct a2 h3 hz,ct a3 h3 hz,ct a4 h3 hz,(h3.cell (p:=(ad.add ((j+1)*5))) hz').trans b0,ct b1 h3 hz',ct b2 h3 hz',ct b3 h3 hz',ct b4 h3 hz'⟩)
   have hcmp:=fun W=>N9 x y X n Y m X' n' Y' m' W
   unfold Tb.cs at hcmp;generalize Xn x y=r at*;go_wp2_with fail;go_region_held_law (fun w'=>Below wr.heap.size wr w'∧w'.cell? (ad.add (j*5))=some (.string (Z9 x.Z8))∧w'.cell? ⟨(ad.add (j*5)).block,(ad.add (j*5)).off+1,none⟩=some (.string (Z9 x.name))∧w'.cell? ⟨(ad.add (j*5)).block,(ad.add (j*5)).off+2,none⟩=some (.string (Z9 x.ZN))∧w'.cell? ⟨(ad.add (j*5)).block,(ad.add (j*5)).off+3,none⟩=some (.slice X x.ZY.length n)∧w'.cell? ⟨(ad.add (j*5)).block,(ad.add (j*5)).off+4,none⟩=some (.slice Y x.ZT.length m)∧w'.cell? (ad.add ((j+1)*5))=some (.string (Z9 y.Z8))∧w'.cell? ⟨(ad.add ((j+1)*5)).block,(ad.add ((j+1)*5)).off+1,none⟩=some (.string (Z9 y.name))∧w'.cell? ⟨(ad.add ((j+1)*5)).block,(ad.add ((j+1)*5)).off+2,none⟩=some (.string (Z9 y.ZN))∧w'.cell? ⟨(ad.add ((j+1)*5)).block,(ad.add ((j+1)*5)).off+3,none⟩=some (.slice X' y.ZY.length n')∧w'.cell? ⟨(ad.add ((j+1)*5)).block,(ad.add ((j+1)*5)).off+4,none⟩=some (.slice Y' y.ZT.length m'))
    (first | exact hkeep.out _ _ (by assumption) (by assumption) | exact⟨hW0,a0,a1,a2,a3,a4,b0,b1,b2,b3,b4⟩)
    (first | (go_at_call 104;refine(hcmp _).mono ?_;rintro e w' ⟨rfl,hb⟩;have hb:=hb.below))
   rename_i hS;have HB2:=bt HBw hS.1;clear hS;by_cases hq:r<0
   ·have HX':Hid (Zn Xn l=Zn Xn (l.drop (j+1))):=hid (by rw [HX.out];simp [hq]);have hq': ¬ r≥0:=by omega
    have hq2: ¬ 0≤r:=by omega
    go_wp2;go_roundw
    case rel=>exact⟨j+1,by omega,by go_num,HX',HB2⟩
    case measure=>simp [intOf];omega
   ·have HX':Hid (Zn Xn l=false):=hid (by rw [HX.out];simp [hq]);have hq':r≥0:=by omega
    have hq2:0≤r:=by omega
    go_wp2;go_ret;exact⟨by rw [HX'.out];rfl,HB2.out⟩
  ·have HR:Hid (Zn Xn l=true):=hid (HE.out.trans (Uc Xn l j (by omega)));have hlt': ¬ (j:Int)<max 0 ((l.length:Int) - 1):=by omega
   go_wp2;go_ret;exact⟨by rw [HR.out];rfl,HBw.out⟩
def Ru.Zs (r:Ru)(M:Nat):Prop:=r.ZY.length≤M∧r.Z8.length≤M∧r.ZX.length≤M∧r.key.length≤M
theorem NE (l:List (List UInt8))(h:0<l.length):l.headD []=l[0]:=by
 cases l with
 | nil=>simp at h
 | cons a t=>rfl
theorem Kl (a b c:List UInt8):(Z9 a ++Z9 b ++Z9 c).toList.isEmpty=(a ++b ++c == []):=by
 rw [ByteArray.toList_eq];have h:(Z9 a ++Z9 b ++Z9 c).data.toList=a ++b ++c:=by simp [Z9,ByteArray.data_append]
 rw [h]
 cases a ++b ++c <;> rfl
theorem Tl (l:List Cl)(cs:List (List UInt8))(j:Nat)(h:j<cs.length):Yo l cs j (cs.drop j)=((XJ l cs[j]).isSome && cs.findIdx? (· == cs[j]) == some j && Yo l cs (j+1) (cs.drop (j+1))):=by
 rw [List.drop_eq_getElem_cons h];rfl
theorem OF (cs:List (List UInt8))(n:List UInt8):cs.findIdx? (· == n)=cs.findIdx? (fun m=>n == m):=by
 congr 1
 funext m
 exact Bool.eq_iff_iff.2 ⟨fun h=>by simp_all,fun h=>by simp_all⟩
theorem TT (o:Option Nat):o.isSome=decide (0≤Xe o):=by
 cases o with
 | none=>rfl
 | some i=>simp [Xe]
theorem OC (l:List Cl)(r:Ru)(A:Option Addr)(k:Nat)(B:Option Addr)(n:Nat)(w:World)(hA:ZV w (· < w.heap.size) Zo (l.map Cl.da) A)(hB:ZV w (· < w.heap.size) [.Z9] (YY r.ZY) B)
  (hn:l.length≤1099511627776) (hr:r.Zs 1099511627776):
  Calls Tryz.prog 161 #[.slice A l.length k,.agg (r.cs B n).toArray] w fun e w'=>e= .returned (.bool (Yt l r))∧Below w.heap.size w w':=by
 have HA:=hid hA;have HB:=hid hB;clear hA hB;obtain⟨hm,t1,t2,t3⟩:=hr;have z1: ¬ 9223372036854775807< (Z9 r.Z8).size+ (Z9 r.ZX).size:=by rw [Yv,Yv];omega
 have z2: ¬ 9223372036854775807< (Z9 r.Z8).size+ (Z9 r.ZX).size+ (Z9 r.key).size:=by rw [Yv,Yv,Yv];omega
 have HR:Hid (Yt l r=(Zq r.name && decide (1≤r.ZY.length) && decide (r.ZY.length≤l.length) && Yo l r.ZY 0 r.ZY && TJ l r)):=hid rfl;unfold Ru.cs;go_enter Tryz.func161,Tryz.ntmps161
 go_wp2_with fail;refine Zj _ fun W hW=> ?_
 have HB1:=bP hW;have HX1:=nC hW;clear hW;refine(YK r.name W).mono ?_
 rintro e w1 ⟨rfl,m1,rfl⟩
 cases hN:Zq r.name
 ·rw [hN] at HR;have HR':Hid (Yt l r=false):=hid HR.out;go_wp2;go_ret;exact⟨by rw [HR'.out];rfl,below_drewN HB1.out m1⟩
 have c2:=cd (HX1.out.drewN m1) 2;rw [hN,Bool.true_and] at HR;by_cases h1:r.ZY.length<1
 ·have HR':Hid (Yt l r=false):=hid (by rw [HR.out,decide_eq_false (by omega)];rfl);have h1':(r.ZY.length:Int)<1:=by omega
  go_wp2;go_ret;exact⟨by rw [HR'.out];rfl,below_drewN HB1.out m1⟩
 rw [decide_eq_true (show 1≤r.ZY.length by omega),Bool.true_and] at HR;have h1': ¬ (r.ZY.length:Int)<1:=by omega
 by_cases h2:r.ZY.length > l.length
 ·have HR':Hid (Yt l r=false):=hid (by rw [HR.out,decide_eq_false (by omega)];rfl);have h2':(r.ZY.length:Int) >(l.length:Int):=by omega
  go_wp2;go_ret;exact⟨by rw [HR'.out];rfl,below_drewN HB1.out m1⟩
 rw [decide_eq_true (show r.ZY.length≤l.length by omega),Bool.true_and] at HR;have h2': ¬ (r.ZY.length:Int) >(l.length:Int):=by omega
 have HB2:=hid (below_drewN HB1.out m1);have HX2:=hid (HX1.out.drewN m1);clear HB1 HX1;generalize W.drewN m1=W1 at*;go_wp2;go_loopw [29] (fun i wr=> ∃ j:Nat,j≤r.ZY.length∧i= .int .i64 j∧Hid (Yo l r.ZY 0 r.ZY=Yo l r.ZY j (r.ZY.drop j))∧Hid (∀ n∈r.ZY.take j,(XJ l n).isSome=true)∧Hid (Below w.heap.size w wr)∧Hid (ZP wr w.heap.size 40 [.string (Z9 r.name),.int .i64 r.ZQ,.slice B r.ZY.length n,.int .i64 r.low,.int .i64 r.ZF,.string (Z9 r.Z8),.string (Z9 r.ZX),.string (Z9 r.key)])) (fun i _=>r.ZY.length - (intOf i).toNat)
 case atStart=>exact⟨0,Nat.zero_le _,rfl,hid (by rw [List.drop_zero]),hid (by simp),HB2,HX2⟩
 case round=>
  clear HB2 HX2 c2;obtain⟨j,hj,rfl,HE,HS,HBw,HXw⟩:=hrel;have c2:=ce HXw 2;by_cases hlt:j<r.ZY.length
  ·obtain⟨ad,rfl,a0⟩:=Wk (HB.out.below HBw.out) hlt;have HX:Hid (Yo l r.ZY 0 r.ZY=((XJ l r.ZY[j]).isSome && r.ZY.findIdx? (· == r.ZY[j]) == some j && Yo l r.ZY (j+1) (r.ZY.drop (j+1)))):=hid (HE.out.trans (Tl l r.ZY j hlt));have HT:Hid (r.ZY.take (j+1)=r.ZY.take j ++ [r.ZY[j]]):=hid (List.take_succ_eq_append_getElem hlt);generalize r.ZY[j]=nm at*;go_wp2_with fail;have cB:=XH (l.map Cl.da) A k nm wr ((HA.out.below HBw.out).Y6 (fun _ h=>Nat.lt_of_lt_of_le h HBw.out.size) fun _ _=>rfl) (by simpa using hn);rw [List.length_map,Xy] at cB;refine cB.mono ?_
   rintro e w2 ⟨rfl,hb⟩;have HB3:=bt HBw hb;have HX3:=bl HXw hb;have d2:=ce HX3 2;clear hb cB HXw HBw a0 c2;rw [TT] at HX;have HS1:Hid (0≤Xe (XJ l nm)→ ∀ n∈r.ZY.take (j+1),(XJ l n).isSome=true):=hid fun h n hn=>by
    rw [HT.out,List.mem_append,List.mem_singleton] at hn;rcases hn with hn | rfl
    ·exact HS.out n hn
    ·rw [TT];exact decide_eq_true h
   generalize Xe (XJ l nm)=p at*;by_cases hp:p<0
   ·have HX':Hid (Yt l r=false):=hid (by rw [HR.out,HX.out,decide_eq_false (by omega)];rfl);go_wp2;go_ret;exact⟨by rw [HX'.out];rfl,HB3.out⟩
   have hS1:=hid (HS1.out (by omega));rw [decide_eq_true (show 0≤p by omega),Bool.true_and,OF,LC,←VK] at HX;go_wp2_with fail;have cI:=Ql r.ZY (some ad) n nm w2 ((HB.out.below HB3.out).Y6 (fun _ h=>Nat.lt_of_lt_of_le h HB3.out.size) fun _ _=>rfl) hm;refine cI.mono ?_
   rintro e w3 ⟨rfl,rfl⟩;clear cI;generalize Zh (fun m=>nm == m) r.ZY 0=q at*;by_cases hq:q=j
   ·subst hq;have HX':Hid (Yo l r.ZY 0 r.ZY=Yo l r.ZY (j+1) (r.ZY.drop (j+1))):=hid (by rw [HX.out];simp)
    go_wp2;go_roundw
    case rel=>exact⟨j+1,by omega,by go_num,HX',hS1,HB3,HX3⟩
    case measure=>simp [intOf];omega
   ·have HX':Hid (Yt l r=false):=hid (by rw [HR.out,HX.out];simp [hq]);have hq':(q ==(j:Int))=false:=by simpa using hq
    have hq2:(q !=(j:Int))=true:=by simp [hq]
    go_wp2;go_ret;exact⟨by rw [HX'.out];rfl,HB3.out⟩
  ·obtain rfl:j=r.ZY.length:=by omega
   rw [List.drop_length] at HE;rw [List.take_length] at HS;have HR2:Hid (Yt l r=TJ l r):=hid (by rw [HR.out,HE.out];rfl)
   clear HR HE;have c1:=ce HXw 1;have c3:=ce HXw 3;have c4:=ce HXw 4;have c5:=ce HXw 5;have c6:=ce HXw 6;have c7:=ce HXw 7;have hbr:(Z9 r.Z8 ++Z9 r.ZX ++Z9 r.key).toList.isEmpty=SZ r:=Kl _ _ _;have hFK:Hid (TJ l r=if r.ZQ=3 then SZ r && r.ZY.length == 1 && VV l (r.ZY.headD []) == some 2 && decide (r.low≤r.ZF)
    else if r.ZQ=4 then Zq r.Z8 && Zq r.ZX && Zq r.key && r.low == 0 && r.ZF == 0
    else if r.ZQ=1∨r.ZQ=2 then SZ r && r.low == 0 && r.ZF == 0 else false):=hid rfl
   generalize SZ r=bp at*;by_cases h3:r.ZQ=3
   ·have HK:Hid (Yt l r=(bp && r.ZY.length == 1 && VV l (r.ZY.headD []) == some 2 && decide (r.low≤r.ZF))):=hid (by rw [HR2.out,hFK.out,if_pos h3]);clear HR2 hFK
    cases bp
    ·have HK':Hid (Yt l r=false):=hid HK.out;go_wp2;go_ret;exact⟨by rw [HK'.out];rfl,HBw.out⟩
    by_cases h6:r.ZY.length=1
    ·have h6':((r.ZY.length:Int) == 1)=true:=by simp;omega
     have hnm:r.ZY.headD []=r.ZY[0]:=NE _ (by omega);obtain⟨ad,rfl,a0⟩:=Wk (HB.out.below HBw.out) (show 0<r.ZY.length by omega);have hb0:(0:Int)< (r.ZY.length:Int):=by omega
     have HS0:=hid (HS.out r.ZY[0] (List.getElem_mem _));have HK2:Hid (Yt l r=(VV l r.ZY[0] == some 2 && decide (r.low≤r.ZF))):=hid (by rw [HK.out,hnm];simp [h6]);have a0':wr.cell? ad=some (.string (Z9 r.ZY[0])):=a0;have HKo:=hid (fun i=> @Qk l r.ZY[0] i);clear HK a0 hnm HS;generalize r.ZY[0]=nm at*;go_wp2_with fail;have cB:=XH (l.map Cl.da) A k nm wr ((HA.out.below HBw.out).Y6 (fun _ h=>Nat.lt_of_lt_of_le h HBw.out.size) fun _ _=>rfl) (by simpa using hn);rw [List.length_map,Xy] at cB;refine cB.mono ?_
     rintro e w2 ⟨rfl,hb⟩;have HB3:=bt HBw hb;have HX3:=bl HXw hb;clear hb cB
     cases hc:XJ l nm with
     | none=>exact absurd HS0.out (by rw [hc];simp)
     | some i=>
      obtain⟨hi,hk⟩:=HKo.out i hc;have HK3:Hid (Yt l r=(l[i].ZQ == 2 && decide (r.low≤r.ZF))):=hid (by rw [HK2.out,hk];rfl)
      obtain⟨ad2,vs,rfl,hv,hr⟩:=(HA.out.below HB3.out).at_ (j:=i) (by simpa using hi);rw [List.getElem_map] at hv;generalize l[i]=cl at*;obtain rfl:=Cl.Y4 hv;have a1:=ef (m:=i*3) hr 1;have d3:=ce HX3 3;have d4:=ce HX3 4;rw [show Xe (some i)=(i:Int) from rfl];clear hv hr;have hi':(0:Int)≤(i:Int):=by omega
      have hi2:(i:Int)< (l.length:Int):=by omega
      cases h7:(cl.ZQ == 2)
      ·rw [h7] at HK3;have HK':Hid (Yt l r=false):=hid HK3.out;go_wp2;go_ret;exact⟨by rw [HK'.out];rfl,HB3.out⟩
      ·rw [h7,Bool.true_and] at HK3;go_wp2;go_ret;exact⟨by rw [HK3.out];rfl,HB3.out⟩
    ·have h6':((r.ZY.length:Int) == 1)=false:=by simp;omega
     have HK':Hid (Yt l r=false):=hid (by rw [HK.out];simp [h6]);go_wp2;go_ret;exact⟨by rw [HK'.out];rfl,HBw.out⟩
   by_cases h4:r.ZQ=4
   ·have HK:Hid (Yt l r=(Zq r.Z8 && Zq r.ZX && Zq r.key && r.low == 0 && r.ZF == 0)):=hid (by rw [HR2.out,hFK.out,if_neg h3,if_pos h4]);clear HR2 hFK;have hs:=fun W=>YK r.Z8 W
    have ht:=fun W=>YK r.ZX W
    have hk:=fun W=>YK r.key W
    generalize Zq r.Z8=n1 at*;generalize Zq r.ZX=n2 at*;generalize Zq r.key=n3 at*;go_wp2_with fail;refine(hs _).mono ?_
    rintro e w2 ⟨rfl,m2,rfl⟩
    cases n1
    ·have HK':Hid (Yt l r=false):=hid HK.out;go_wp2;go_ret;exact⟨by rw [HK'.out];rfl,below_drewN HBw.out m2⟩
    have e6:(wr.drewN m2).cell? ⟨w.heap.size,6,none⟩=some (.string (Z9 r.ZX)):=c6;go_wp2_with fail;refine(ht _).mono ?_
    rintro e w2 ⟨rfl,m3,rfl⟩
    cases n2
    ·have HK':Hid (Yt l r=false):=hid HK.out;go_wp2;go_ret;exact⟨by rw [HK'.out];rfl,below_drewN HBw.out (m2+m3)⟩
    have e7:((wr.drewN m2).drewN m3).cell? ⟨w.heap.size,7,none⟩=some (.string (Z9 r.key)):=c7;go_wp2_with fail;refine(hk _).mono ?_
    rintro e w2 ⟨rfl,m4,rfl⟩;have HB3:=hid (below_drewN HBw.out (m2+m3+m4));have d3:(wr.drewN (m2+m3+m4)).cell? ⟨w.heap.size,3,none⟩=some (.int .i64 r.low):=c3;have d4:(wr.drewN (m2+m3+m4)).cell? ⟨w.heap.size,4,none⟩=some (.int .i64 r.ZF):=c4
    cases n3
    ·have HK':Hid (Yt l r=false):=hid HK.out;go_wp2;go_ret;exact⟨by rw [HK'.out];rfl,HB3.out⟩
    by_cases hl0:r.low=0
    ·by_cases hh0:r.ZF=0
     ·have HK':Hid (Yt l r=true):=hid (by rw [HK.out];simp [hl0,hh0]);go_wp2;go_ret;exact⟨by rw [HK'.out];rfl,HB3.out⟩
     ·have HK':Hid (Yt l r=false):=hid (by rw [HK.out];simp [hh0]);have hh1:(r.ZF == 0)=false:=by simpa using hh0
      go_wp2;go_ret;exact⟨by rw [HK'.out];rfl,HB3.out⟩
    ·have HK':Hid (Yt l r=false):=hid (by rw [HK.out];simp [hl0]);have hh1:(r.low == 0)=false:=by simpa using hl0
     go_wp2;go_ret;exact⟨by rw [HK'.out];rfl,HB3.out⟩
   by_cases h5:r.ZQ=1∨r.ZQ=2
   ·have HK:Hid (Yt l r=(bp && r.low == 0 && r.ZF == 0)):=hid (by rw [HR2.out,hFK.out,if_neg h3,if_neg h4,if_pos h5]);clear HR2 hFK;have h3':(r.ZQ == 3)=false:=by simpa using h3
    have h4':(r.ZQ == 4)=false:=by simpa using h4
    have hin:(r.ZQ == 1)=true∨(r.ZQ == 1)=false∧(r.ZQ == 2)=true:=by rcases h5 with h5 | h5 <;> simp [h5]
    clear h5;rcases hin with h5 | ⟨h5,h6⟩
    all_goals
     cases bp
     ·have HK':Hid (Yt l r=false):=hid HK.out;go_wp2;go_ret;exact⟨by rw [HK'.out];rfl,HBw.out⟩
     by_cases hl0:r.low=0
     ·by_cases hh0:r.ZF=0
      ·have HK':Hid (Yt l r=true):=hid (by rw [HK.out];simp [hl0,hh0]);go_wp2;go_ret;exact⟨by rw [HK'.out];rfl,HBw.out⟩
      ·have HK':Hid (Yt l r=false):=hid (by rw [HK.out];simp [hh0]);have hh1:(r.ZF == 0)=false:=by simpa using hh0
       go_wp2;go_ret;exact⟨by rw [HK'.out];rfl,HBw.out⟩
     ·have HK':Hid (Yt l r=false):=hid (by rw [HK.out];simp [hl0]);have hh1:(r.low == 0)=false:=by simpa using hl0
      go_wp2;go_ret;exact⟨by rw [HK'.out];rfl,HBw.out⟩
   have HK':Hid (Yt l r=false):=hid (by rw [HR2.out,hFK.out,if_neg h3,if_neg h4,if_neg h5]);have h3':(r.ZQ == 3)=false:=by simpa using h3
   have h4':(r.ZQ == 4)=false:=by simpa using h4
   have h5':(r.ZQ == 1)=false:=by simp;exact fun h=>h5 (Or.inl h)
   have h6':(r.ZQ == 2)=false:=by simp;exact fun h=>h5 (Or.inr h)
   go_wp2;go_ret;exact⟨by rw [HK'.out];rfl,HBw.out⟩
theorem ZV.later {w W:World}{l:List Sh}{ds:List (List Da)}{A:Option Addr}(h:ZV w (· < w.heap.size) l ds A)(hb:Below w.heap.size w W):ZV W (· < W.heap.size) l ds A:=
 (h.below hb).Y6 (fun _ h=>Nat.lt_of_lt_of_le h hb.size) fun _ _=>rfl
def Vl (w:World)(l:List Int)(A:Option Addr):Prop:= ∀ (j:Nat) (h:j<l.length),∃ ad,A=some ad∧w.cell? (ad.add j)=some (.int .i64 l[j])
theorem Vl.own {w:World}{base c:Nat}{l:List Int}{A:Option Addr}{n:Nat}(h:w.ownsRow base 62 1 (.slice A n c) n (RI l))(hn:n=l.length):Vl w l A:=by
 intro j hj;obtain⟨g,cap,hv,_,hlt⟩:=h.form (by omega);have hA:A=some ⟨g,0,none⟩:=by injection hv
 subst hA;exact⟨_,rfl,h.cells (g:=g) rfl j _ (by simp [RI,hj])⟩
theorem Vl.below {w W:World}{B:Nat}{l:List Int}{A:Option Addr}(h:Vl w l A)(hb:Below w.heap.size w W):Vl W l A:=fun j hj=>by
 obtain⟨ad,e,h1⟩:=h j hj;exact⟨ad,e,(hb.cell (World.block_lt_of_cell? w _ h1)).trans h1⟩
theorem OH (l m:List Int)(A:Option Addr)(k:Nat)(B:Option Addr)(n:Nat)(w:World)(hA:Vl w l A)(hB:Vl w m B)(hl:l.length≤1099511627776)(hm:m.length≤1099511627776):
  Calls Tryz.prog 237 #[.slice A l.length k,.slice B m.length n] w fun e w'=>e= .returned (.bool (decide (l=m)))∧Below w.heap.size w w':=by
 have HA:=hid hA;have HB:=hid hB;clear hA hB;by_cases hlen:l.length=m.length
 ·have HL:=hid hlen;rw [hlen];clear hlen;go_enter Tryz.func237,Tryz.ntmps237
  go_wp2;go_loopw [13] (fun i wr=> ∃ j:Nat,j≤m.length∧i= .int .i64 j∧Hid (decide (l=m)=decide (l.drop j=m.drop j))∧Hid (Below w.heap.size w wr)) (fun i _=>m.length - (intOf i).toNat)
  case atStart=>exact⟨0,Nat.zero_le _,rfl,hid (by rw [List.drop_zero,List.drop_zero]),hid br⟩
  case round=>
   obtain⟨j,hj,rfl,HE,HBw⟩:=hrel;by_cases hlt:j<m.length
   ·have hlt2:j<l.length:=by have:=HL.out;omega
    obtain⟨ad,rfl,a0⟩:=HA.out j hlt2;obtain⟨ad',rfl,b0⟩:=HB.out j hlt;have hX:decide (l=m)=(decide (l[j]=m[j]) && decide (l.drop (j+1)=m.drop (j+1))):=by
     rw [HE.out,List.drop_eq_getElem_cons hlt,List.drop_eq_getElem_cons hlt2,Bool.eq_iff_iff];simp only [decide_eq_true_eq,Bool.and_eq_true,List.cons.injEq]
    have HX:=hid hX;clear hX;generalize l[j]=x at*;generalize m[j]=y at*;have hz:=World.block_lt_of_cell? w _ a0;have hz':=World.block_lt_of_cell? w _ b0;have c0:wr.cell? (ad.add j)=some (.int .i64 x):=ct a0 HBw.out hz;have c1:wr.cell? (ad'.add j)=some (.int .i64 y):=ct b0 HBw.out hz';clear a0 b0;have hb1:(j:Int)< (m.length:Int):=by omega
    have hW0:Below w.heap.size w wr.drew:=HBw.out.drew;go_wp2_with fail;go_region_held_law (fun w'=>Below w.heap.size w w'∧w'.cell? (ad.add j)=some (.int .i64 x)∧w'.cell? (ad'.add j)=some (.int .i64 y))
     (first | exact⟨hW0,c0,c1⟩ | assumption)
     (fail)
    have HB2:Hid (Below w.heap.size w wr.drew):=hid hW0;by_cases hq:x=y
    ·have HX':Hid (decide (l=m)=decide (l.drop (j+1)=m.drop (j+1))):=hid (by rw [HX.out];simp [hq]);have hq1:(x == y)=true:=by simpa using hq
     have hq2:(x != y)=false:=by simp [hq]
     go_wp2;go_roundw
     case rel=>exact⟨j+1,by omega,by go_num,HX',HB2⟩
     case measure=>simp [intOf];omega
    ·have HX':Hid (decide (l=m)=false):=hid (by rw [HX.out];simp [hq]);have hq1:(x == y)=false:=by simpa using hq
     have hq2:(x != y)=true:=by simp [hq]
     go_wp2;go_ret;exact⟨by rw [HX'.out];rfl,HB2.out⟩
   ·obtain rfl:j=m.length:=by omega
    have HX':Hid (decide (l=m)=true):=hid (by rw [HE.out,List.drop_length,List.drop_eq_nil_of_le (by have:=HL.out;omega)];rfl);go_wp2;go_ret;exact⟨by rw [HX'.out];rfl,HBw.out⟩
 ·have HX':Hid (decide (l=m)=false):=hid (decide_eq_false fun h=>hlen (by rw [h]));have h1:((l.length:Int) ==(m.length:Int))=false:=by simp;omega
  have h2:((l.length:Int) !=(m.length:Int))=true:=by simp;omega
  go_enter Tryz.func237,Tryz.ntmps237
  go_wp2;go_ret;exact⟨by rw [HX'.out];rfl,Below.refl _ _⟩
def Tb.Zs (t:Tb)(M:Nat):Prop:=t.ZY.length≤M∧t.ZT.length≤M∧ ∀ r∈t.ZT,r.Zs M
def Ob.Zs (o:Ob)(M:Nat):Prop:=o.Z4.length≤M∧o.Z7.length≤M∧ ∀ t∈o.Z7,t.Zs M
theorem WZ {α:Type}{p:α→Bool}{l:List α}{i:Nat}(h:l.findIdx? p=some i): ∃ hi:i<l.length,l.find? p=some l[i]:=by
 rw [List.findIdx?_eq_some_iff_getElem] at h;obtain⟨hi,h1,h2⟩:=h;exact⟨hi,List.find?_eq_some_iff_getElem.2 ⟨h1,i,hi,rfl,fun j hj=>by simpa using h2 j hj⟩⟩
theorem Pu {α:Type}{p:α→Bool}{l:List α}(h:l.findIdx? p=none):l.find? p=none:=by
 rw [List.findIdx?_eq_none_iff] at h;exact List.find?_eq_none.2 fun x hx=>by simpa using h x hx
theorem Vn (o:Ob)(s n:List UInt8):Zh (Ul s n) (o.Z7.map Tb.da) 0=Xe (Xr o s n):=by
 rw [Vz,VK];rfl
theorem UI (o:Ob)(s n:List UInt8):(o.Z7.map Tb.da).any (Ul s n)=(Xr o s n).isSome:=by
 rw [←WY,Vn,TT]
theorem Tc (l:List Ru)(n:List UInt8):Zh (fun d=>tx d 0 == n) (l.map Ru.da) 0=Xe (Td l n):=by
 rw [Vz,VK];rfl
theorem Uz (l:List Sc)(n:List UInt8):Zh (fun d=>tx d 0 == n) (l.map Sc.da) 0=Xe (WU l n):=by
 rw [Vz,VK];rfl
theorem Me {o:Ob}{l:List Cl}{r:Ru}(h:Xr o r.Z8 r.ZX=none):Uu o l r=61:=by
 unfold Uu;rw [Pu h]
theorem Md {o:Ob}{l:List Cl}{r:Ru}{i:Nat}(h:Xr o r.Z8 r.ZX=some i): ∃ hi:i<o.Z7.length,(Td o.Z7[i].ZT r.key=none→Uu o l r=61)∧
  ∀ k,Td o.Z7[i].ZT r.key=some k→ ∃ hk:k<o.Z7[i].ZT.length,Uu o l r=if o.Z7[i].ZT[k].ZQ≠2 then 61 else
   if o.Z7[i].ZT[k].ZY.length=r.ZY.length∧(YE o.Z7[i].ZY o.Z7[i].ZT[k].ZY).length=o.Z7[i].ZT[k].ZY.length∧YE l r.ZY=YE o.Z7[i].ZY o.Z7[i].ZT[k].ZY then 0 else 63:=by
 obtain⟨hi,hf⟩:=WZ h;refine⟨hi,fun hn=> ?_,fun k hk=> ?_⟩
 ·unfold Uu;rw [hf];dsimp only;rw [Pu hn]
 ·obtain⟨hk1,hf1⟩:=WZ hk;refine⟨hk1,?_⟩
  unfold Uu;rw [hf];dsimp only;rw [hf1]
theorem MF (o:Ob)(A0:Option Addr)(k0:Nat)(A1:Option Addr)(k1:Nat)(l:List Cl)(A:Option Addr)(k:Nat)(r:Ru)(B:Option Addr)(n:Nat)(w:World)(hT:ZV w (· < w.heap.size) Zv (o.Z7.map Tb.da) A1)
  (hA:ZV w (· < w.heap.size) Zo (l.map Cl.da) A) (hB:ZV w (· < w.heap.size) [.Z9] (YY r.ZY) B) (ho:o.Zs 1099511627776) (hl:l.length≤1099511627776) (hr:r.Zs 1099511627776):
  Calls Tryz.prog 162 #[.agg #[.slice A0 o.Z4.length k0,.slice A1 o.Z7.length k1],.slice A l.length k,.agg (r.cs B n).toArray] w fun e w'=>e= .returned (.int .i64 (Uu o l r))∧Below w.heap.size w w':=by
 have HT:=hid hT;have HA:=hid hA;have HB:=hid hB;have HO:=hid ho.2.2;have ho2:=ho.2.1;have hm:=hr.1;clear hT hA hB ho hr;have HKn:=hid (@Me o l r);have HKs:=hid (fun i=> @Md o l r i);have HI:=iN 73 5;unfold Ru.cs;generalize Uu o l r=res at*;go_enter Tryz.func162,Tryz.ntmps162
 go_wp2_with fail;refine Zj _ fun W hW=> ?_
 have HB1:=bQ hW;have HX0:=nD hW;have HX1:=nF hW;clear hW;have cW:=Vm (o.Z4.map Sc.da) (o.Z7.map Tb.da) A0 k0 A1 k1 r.Z8 r.ZX W (HT.out.later HB1.out) (by simpa using ho2);rw [List.length_map,List.length_map,Vn,UI] at cW;refine cW.mono ?_
 rintro e w2 ⟨rfl,hb⟩;have HB2:=bt HB1 hb;have HY0:=bl HX0 hb;have HY1:=bl HX1 hb;clear hb cW HB1 HX0 HX1
 cases ht:Xr o r.Z8 r.ZX with
 | none=>
  obtain rfl:res=61:=HKn.out ht;go_wp2;go_ret;exact⟨rfl,HB2.out⟩
 | some i=>
  obtain⟨hi,hk1,hk2⟩:=HKs.out i ht;have HK1:=hid hk1;have HK2:=hid hk2;have HOt:=hid (HO.out o.Z7[i] (List.getElem_mem hi));clear hk1 hk2 HKn HKs HO;obtain⟨ad,vs,rfl,hv,hr⟩:=(HT.out.later HB2.out).at_ (j:=i) (by simpa using hi);rw [List.getElem_map] at hv;generalize o.Z7[i]=t at*;obtain⟨X,x,Y,y,rfl,hX,hY⟩:=Tb.Y4 hv;have HXr:=hid hX;have HYr:=hid hY;have HG:Hid (∀ i' u,(t.cs X x Y y)[i']?=some u→w2.cell? ((ad.add (i*5)).add i')=some u):=hid fun i' u hu=>by rw [ZE];exact hr i' u hu
  clear hv hr hX hY;unfold Tb.cs at HG;have HL:Hid ((Tryz.prog.info? 73).map (·.size)=some ([.string (Z9 t.Z8),.string (Z9 t.name),.string (Z9 t.ZN),.slice X t.ZY.length x,.slice Y t.ZT.length y]:List Value).length):=HI;have y1:=ce HY0 1;rw [show Xe (some i)=(i:Int) from rfl];have hi1:(0:Int)≤(i:Int):=by omega
  have hi2:(i:Int)< (o.Z7.length:Int):=by omega
  have y7:(w2.alloc (.cells #[.string (Z9 t.Z8),.string (Z9 t.name),.string (Z9 t.ZN),.slice X t.ZY.length x,.slice Y t.ZT.length y] 73)).cell? ⟨w.heap.size+1,7,none⟩=some (.string (Z9 r.key)):=(HY1.out.alloc _).cell 7;go_wp2_with (first | (with_reducible refine ZH rfl 73 _ rfl (ad.add (i*5)) rfl [.string (Z9 t.Z8),.string (Z9 t.name),.string (Z9 t.ZN),.slice X t.ZY.length x,.slice Y t.ZT.length y] _ HG.out Tryz.underlying73 rfl HL.out ?_) | fail);refine Zj _ fun W hW=> ?_
  have HB3:=rL hW (HB2.out.alloc HB2.out.size _);have HB23:=bP hW;have HX3:=nC hW;have HZ1:=bl HY1 HB23.out;clear hW y7 y1 HG HL HY0 HY1;have cR:=UV (t.ZT.map Ru.da) Y y r.key W (HYr.out.later HB23.out) (by simpa using HOt.out.2.1);rw [List.length_map,Tc] at cR;refine cR.mono ?_
  rintro e w4 ⟨rfl,hb⟩;have HB4:=bt HB3 hb;have HB24:=bt HB23 hb;have HV:=bl HX3 hb;have HZ:=bl HZ1 hb;clear hb cR HB3 HB23 HX3 HZ1
  cases hk:Td t.ZT r.key with
  | none=>
   obtain rfl:res=61:=HK1.out hk;go_wp2;go_ret;exact⟨rfl,HB4.out⟩
  | some kk=>
   obtain⟨hkl,hres⟩:=HK2.out kk hk;have HRes:=hid hres;have hcl:=(HOt.out.2.2 t.ZT[kk] (List.getElem_mem hkl)).1;have htl:=HOt.out.1;clear hres HK1 HK2 HOt;obtain⟨ad2,vs,rfl,hv,hr⟩:=(HYr.out.later HB24.out).at_ (j:=kk) (by simpa using hkl);rw [List.getElem_map] at hv;have hkl':kk<t.ZT.length:=hkl;generalize t.ZT[kk]=q at*;obtain⟨V,v,rfl,hV,_⟩:=Ru.Y4 hv;have HVr:=hid hV;have q1:=ef (m:=kk*8) hr 1;have q2:=ef (m:=kk*8) hr 2;have z4:=ce HV 4;clear hv hr hV;rw [show Xe (some kk)=(kk:Int) from rfl];have hk1:(0:Int)≤(kk:Int):=by omega
   have hk2:(kk:Int)< (t.ZT.length:Int):=by omega
   by_cases hq:q.ZQ=2
   ·have HR2:Hid (res=if q.ZY.length=r.ZY.length∧(YE t.ZY q.ZY).length=q.ZY.length∧YE l r.ZY=YE t.ZY q.ZY then 0 else 63):=hid (by rw [HRes.out,if_neg (by simp [hq])]);clear HRes;have hq2:(q.ZQ == 2)=true:=by simpa using hq
    have hq3:(q.ZQ != 2)=false:=by simp [hq]
    have s2:=ce HZ 2;have s3:=ce HV 3;go_wp2_with fail;have hlz:=HZ.out.lt;have hlv:=HV.out.lt;have hS0:(fun w'=>Below w4.heap.size w4 w'∧w'.cell? ⟨w.heap.size+1,2,none⟩=some (.slice B r.ZY.length n)∧w'.cell? ⟨w2.heap.size,3,none⟩=some (.slice X t.ZY.length x)) w4.drew:=⟨br.drew,s2,s3⟩
    have hkeep:Hid (∀ w',Below w4.heap.size w4 w'→(fun w'=>Below w4.heap.size w4 w'∧w'.cell? ⟨w.heap.size+1,2,none⟩=some (.slice B r.ZY.length n)∧w'.cell? ⟨w2.heap.size,3,none⟩=some (.slice X t.ZY.length x)) w'):=hid fun w' h=>⟨h,ct s2 h hlz,ct s3 h hlv⟩
    refine wp_region_held_drew (S:=fun w'=>Below w4.heap.size w4 w'∧w'.cell? ⟨w.heap.size+1,2,none⟩=some (.slice B r.ZY.length n)∧w'.cell? ⟨w2.heap.size,3,none⟩=some (.slice X t.ZY.length x)) (by kernel_rfl) hS0 (fun HD=> ?_)
    (try simp only [pp]);refine tk 0 52 HD ?_;refine tk 1 53 HD ?_;refine tk 2 54 HD ?_;refine tk 4 56 HD ?_;refine tk 5 57 HD ?_;refine tk 6 58 HD ?_;refine on 3 55 fun K hK=> ?_
    go_simp;go_at_call 236
    have hD1:Below w4.heap.size w4 w4.drew:=br.drew;refine(Qj l r.ZY A k B n w4.drew (HA.out.later (HB4.out.trans (hD1.mono HB4.out.size))) (HB.out.later (HB4.out.trans (hD1.mono HB4.out.size))) hl hm).mono ?_
    rintro e w5 ⟨A5,c5,rfl,ho5,hb⟩;have HB5:Hid (Below w4.heap.size w4 w5):=hid (hD1.trans hb);have HO5:=hid ho5;clear hb ho5;refine hK _ _ (hkeep.out _ HB5.out) (fun HD=> ?_)
    clear hK K;(try simp only [pp])
    refine on 7 59 fun K hK=> ?_
    go_simp;go_at_call 236
    refine(Qj t.ZY q.ZY X x V v w5 (HXr.out.later (HB24.out.trans (HB5.out.mono HB24.out.size))) (HVr.out.later HB5.out) htl hcl).mono ?_
    rintro e w6 ⟨A6,c6,rfl,ho6,hb⟩;have HB6:=bt HB5 hb;have HI5:=hid ((Vl.own HO5.out rfl).below (B:=0) hb);have HI6:=hid (Vl.own ho6 rfl);clear hb ho6 HO5;refine hK _ _ (hkeep.out _ HB6.out) (fun HD=> ?_)
    clear hK K;(try simp only [pp])
    refine tk 8 12 HD ?_;refine tk 9 13 HD ?_;refine wpAnyH_done (by kernel_rfl) ?_ _
    have l5:(YE l r.ZY).length≤1099511627776:=Nat.le_trans (List.length_filterMap_le _ _) hm;have l6:(YE t.ZY q.ZY).length≤1099511627776:=Nat.le_trans (List.length_filterMap_le _ _) hcl;have HBF:=bt HB4 HB6.out;have u2:w6.cell? ⟨w.heap.size+1,2,none⟩=some (.slice B r.ZY.length n):=HD.2.1;clear HD hS0 hkeep s2 s3 z4 q1 q2 HV HZ;generalize YE l r.ZY=ks at*;generalize YE t.ZY q.ZY=ls at*;by_cases hc1:q.ZY.length=r.ZY.length
    ·have hc1':((q.ZY.length:Int) ==(r.ZY.length:Int))=true:=by simp;omega
     have hc1'':((q.ZY.length:Int) !=(r.ZY.length:Int))=false:=by simp;omega
     by_cases hc2:ls.length=q.ZY.length
     ·have hc2':((ls.length:Int) ==(q.ZY.length:Int))=true:=by simp;omega
      have hc2'':((ls.length:Int) !=(q.ZY.length:Int))=false:=by simp;omega
      have HR3:Hid (res=if decide (ks=ls)=true then 0 else 63):=hid (by rw [HR2.out];simp [hc1,hc2]);clear hc1 hc2 HR2;go_wp2_with fail;refine(OH ks ls A5 c5 A6 c6 w6 HI5.out HI6.out l5 l6).mono ?_
      rintro e w7 ⟨rfl,hb⟩;have HB7:=bt HBF hb;clear hb;generalize decide (ks=ls)=bb at*
      cases bb
      ·obtain rfl:res=63:=HR3.out;go_wp2;go_ret;exact⟨rfl,HB7.out⟩
      ·obtain rfl:res=0:=HR3.out;go_wp2;go_ret;exact⟨rfl,HB7.out⟩
     ·obtain rfl:res=63:=by rw [HR2.out,if_neg (fun h=>hc2 h.2.1)]
      have hc2':((ls.length:Int) ==(q.ZY.length:Int))=false:=by simp;omega
      have hc2'':((ls.length:Int) !=(q.ZY.length:Int))=true:=by simp;omega
      go_wp2;go_ret;exact⟨rfl,HBF.out⟩
    ·obtain rfl:res=63:=by rw [HR2.out,if_neg (fun h=>hc1 h.1)]
     have hc1':((q.ZY.length:Int) ==(r.ZY.length:Int))=false:=by simp;omega
     have hc1'':((q.ZY.length:Int) !=(r.ZY.length:Int))=true:=by simp;omega
     go_wp2;go_ret;exact⟨rfl,HBF.out⟩
   ·obtain rfl:res=61:=by rw [HRes.out,if_pos hq]
    have hq2:(q.ZQ == 2)=false:=by simpa using hq
    have hq3:(q.ZQ != 2)=true:=by simp [hq]
    go_wp2;go_ret;exact⟨rfl,HB4.out⟩
theorem Wb {α:Type}(p:α→Bool)(l:List α)(j:Nat)(h:j<l.length):(l.drop j).all p=(p l[j] && (l.drop (j+1)).all p):=by
 rw [List.drop_eq_getElem_cons h];rfl
theorem Qe (o:Ob)(A0:Option Addr)(k0:Nat)(A1:Option Addr)(k1:Nat)(t:Tb)(X:Option Addr)(x:Nat)(Y:Option Addr)(y:Nat)(w:World)(hS:ZV w (· < w.heap.size) Zm (o.Z4.map Sc.da) A0)(hT:ZV w (· < w.heap.size) Zv (o.Z7.map Tb.da) A1)
  (hX:ZV w (· < w.heap.size) Zo (t.ZY.map Cl.da) X) (hY:ZV w (· < w.heap.size) YP (t.ZT.map Ru.da) Y) (ho:o.Zs 1099511627776) (ht:t.Zs 1099511627776):
  Calls Tryz.prog 109 #[.agg #[.slice A0 o.Z4.length k0,.slice A1 o.Z7.length k1],.agg (t.cs X x Y y).toArray] w fun e w'=>e= .returned (.bool (YS o t))∧Below w.heap.size w w':=by
 have HS:=hid hS;have HT:=hid hT;have HXr:=hid hX;have HYr:=hid hY;have HO:=hid ho;have HTa:=hid ht;have hcl:=ht.1;have hrl:=ht.2.1;have hsl:=ho.1;clear hS hT hX hY ho ht;have HR:Hid (YS o t=(Zq t.name && Zq t.ZN && Yb t.ZY && decide (t.ZT.length≤8) && (WU o.Z4 t.Z8).isSome && t.ZT.all (U2 o t) && Zn WO t.ZT)):=hid rfl;have HI:=iN 40 8;unfold Tb.cs;generalize YS o t=res at*;go_enter Tryz.func109,Tryz.ntmps109
 go_wp2_with fail;refine Zj _ fun W hW=> ?_
 have HB1:=bQ hW;have HX0:=nD hW;have HX1:=nF hW;clear hW;refine(YK t.name W).mono ?_
 rintro e w1 ⟨rfl,m1,rfl⟩;have HB2:=hid (below_drewN HB1.out m1);have Y0:=hid (HX0.out.drewN m1);have Y1:=hid (HX1.out.drewN m1);clear HB1 HX0 HX1;generalize W.drewN m1=W1 at*;generalize Zq t.name=p1 at*
 cases p1
 ·have HR':Hid (res=false):=hid HR.out;go_wp2;go_ret;exact⟨by rw [HR'.out];rfl,HB2.out⟩
 rw [Bool.true_and] at HR;have y2:=ce Y1 2;go_wp2_with fail;refine(YK t.ZN W1).mono ?_
 rintro e w1 ⟨rfl,m2,rfl⟩;have HB3:=hid (below_drewN HB2.out m2);have Z0:=hid (Y0.out.drewN m2);have Z1:=hid (Y1.out.drewN m2);clear HB2 Y0 Y1 y2;generalize W1.drewN m2=W2 at*;generalize Zq t.ZN=p2 at*
 cases p2
 ·have HR':Hid (res=false):=hid HR.out;go_wp2;go_ret;exact⟨by rw [HR'.out];rfl,HB3.out⟩
 rw [Bool.true_and] at HR;have z3:=ce Z1 3;go_wp2_with fail;refine(UR t.ZY X x W2 (HXr.out.later HB3.out) hcl).mono ?_
 rintro e W3 ⟨rfl,hb⟩;have HB4:=bt HB3 hb;have V0:=bl Z0 hb;have V1:=bl Z1 hb;clear hb HB3 Z0 Z1 z3;generalize Yb t.ZY=p3 at*
 cases p3
 ·have HR':Hid (res=false):=hid HR.out;go_wp2;go_ret;exact⟨by rw [HR'.out];rfl,HB4.out⟩
 rw [Bool.true_and] at HR;have v4:=ce V1 4;have v0:=ce V1 0;have o0:=ce V0 0;by_cases h8:t.ZT.length≤8
 case neg=>
  have HR':Hid (res=false):=hid (by rw [HR.out,decide_eq_false h8];rfl);have h8':(t.ZT.length:Int) > 8:=by omega
  go_wp2;go_ret;exact⟨by rw [HR'.out];rfl,HB4.out⟩
 rw [decide_eq_true h8,Bool.true_and] at HR;have h8': ¬ (t.ZT.length:Int) > 8:=by omega
 go_wp2_with fail;have cS:=WI (o.Z4.map Sc.da) A0 k0 t.Z8 W3 (HS.out.later HB4.out) (by simpa using hsl);rw [List.length_map,Uz] at cS;refine cS.mono ?_
 rintro e W4 ⟨rfl,hb⟩;have HB5:=bt HB4 hb;have U0:=bl V0 hb;have U1:=bl V1 hb;clear hb cS HB4 V0 V1 v4 v0 o0;rw [TT] at HR;generalize Xe (WU o.Z4 t.Z8)=p5 at*;by_cases h5:p5<0
 ·have HR':Hid (res=false):=hid (by rw [HR.out,decide_eq_false (by omega)];rfl);go_wp2;go_ret;exact⟨by rw [HR'.out];rfl,HB5.out⟩
 have su4:=ce U1 4;rw [decide_eq_true (show 0≤p5 by omega),Bool.true_and] at HR;go_wp2;go_loopw [40] (fun i wr=> ∃ j:Nat,j≤t.ZT.length∧i= .int .i64 j∧Hid (t.ZT.all (U2 o t)=(t.ZT.drop j).all (U2 o t))∧Hid (Below w.heap.size w wr)∧Hid (ZP wr w.heap.size 26 [.slice A0 o.Z4.length k0,.slice A1 o.Z7.length k1])∧Hid (ZP wr (w.heap.size+1) 73 [.string (Z9 t.Z8),.string (Z9 t.name),.string (Z9 t.ZN),.slice X t.ZY.length x,.slice Y t.ZT.length y])) (fun i _=>t.ZT.length - (intOf i).toNat)
 case atStart=>exact⟨0,Nat.zero_le _,rfl,hid (by rw [List.drop_zero]),HB5,U0,U1⟩
 case round=>
  clear HB5 U0 U1 su4;obtain⟨j,hj,rfl,HE,HBw,K0,K1⟩:=hrel;by_cases hlt:j<t.ZT.length
  ·have HX:=hid (HE.out.trans (Wb (U2 o t) t.ZT j hlt));have hqt:=HTa.out.2.2 t.ZT[j] (List.getElem_mem hlt);obtain⟨ad,vs,rfl,hv,hr⟩:=(HYr.out.later HBw.out).at_ (j:=j) (by simpa using hlt);rw [List.getElem_map] at hv;generalize t.ZT[j]=q at*;obtain⟨V,v,rfl,hV,_⟩:=Ru.Y4 hv;have HVr:=hid hV;have HQ:=hid hqt;have HG:Hid (∀ i u,(q.cs V v)[i]?=some u→wr.cell? ((ad.add (j*8)).add i)=some u):=hid fun i u hu=>by rw [ZE];exact hr i u hu
   clear hv hr hV hqt;unfold Ru.cs at HG;have HL:Hid ((Tryz.prog.info? 40).map (·.size)=some ([.string (Z9 q.name),.int .i64 q.ZQ,.slice V q.ZY.length v,.int .i64 q.low,.int .i64 q.ZF,.string (Z9 q.Z8),.string (Z9 q.ZX),.string (Z9 q.key)]:List Value).length):=HI;have k3:(wr.alloc (.cells #[.string (Z9 q.name),.int .i64 q.ZQ,.slice V q.ZY.length v,.int .i64 q.low,.int .i64 q.ZF,.string (Z9 q.Z8),.string (Z9 q.ZX),.string (Z9 q.key)] 40)).cell? ⟨w.heap.size+1,3,none⟩=some (.slice X t.ZY.length x):=(K1.out.alloc _).cell 3;go_wp2_with (first | (with_reducible refine ZH rfl 40 _ rfl (ad.add (j*8)) rfl [.string (Z9 q.name),.int .i64 q.ZQ,.slice V q.ZY.length v,.int .i64 q.low,.int .i64 q.ZF,.string (Z9 q.Z8),.string (Z9 q.ZX),.string (Z9 q.key)] _ HG.out Tryz.underlying40 rfl HL.out ?_) | fail);refine Zj _ fun Wl hW=> ?_
   have HB6:=rL hW (HBw.out.alloc HBw.out.size _);have HBr:=bP hW;have HQ1:=nC hW;have M0:=rB hW (K0.out.alloc _);have M1:=rB hW (K1.out.alloc _);clear hW k3 HG HL K0 K1;have cF:=OC t.ZY q X x V v Wl (HXr.out.later HB6.out) (HVr.out.later HBr.out) hcl HQ.out;unfold Ru.cs at cF;refine cF.mono ?_
   rintro e w2 ⟨rfl,hb⟩;have HB7:=bt HB6 hb;have HBr2:=bt HBr hb;have HQ2:=bl HQ1 hb;have N0:=bl M0 hb;have N1:=bl M1 hb;clear hb cF HB6 HBr HQ1 M0 M1;have HP:Hid (U2 o t q=(Yt t.ZY q && (q.ZQ != 4 || Uu o t.ZY q == 0))):=hid rfl;have cK0:=fun W' h1 h2 h3=>MF o A0 k0 A1 k1 t.ZY X x q V v W' h1 h2 h3 HO.out hcl HQ.out
   generalize Yt t.ZY q=f1 at*;generalize Uu o t.ZY q=kp at*
   cases f1
   ·have HR':Hid (res=false):=hid (by rw [HR.out,HX.out,HP.out];rfl);go_wp2;go_ret;exact⟨by rw [HR'.out];rfl,HB7.out⟩
   rw [Bool.true_and] at HP;have b1:=ce HQ2 1;by_cases h4:q.ZQ=4
   case neg=>
    have h4':(q.ZQ == 4)=false:=by simpa using h4
    have HX':Hid (t.ZT.all (U2 o t)=(t.ZT.drop (j+1)).all (U2 o t)):=hid (by rw [HX.out,HP.out];simp [h4]);go_wp2;go_roundw
    case rel=>exact⟨j+1,by omega,by go_num,HX',HB7,N0,N1⟩
    case measure=>simp [intOf];omega
   have h4':(q.ZQ == 4)=true:=by simpa using h4
   have HP':Hid (U2 o t q=(kp == 0)):=hid (by rw [HP.out];simp [h4]);have b0:=ce HQ2 0;have b2:=ce HQ2 2;have b3:=ce HQ2 3;have b4:=ce HQ2 4;have b5:=ce HQ2 5;have b6:=ce HQ2 6;have b7:=ce HQ2 7;have b8:=ce N0 0;have b9:=ce N0 1;have b10:=ce N1 3;go_wp2_with fail;have cK:=cK0 w2 (HT.out.later HB7.out) (HXr.out.later HB7.out) (HVr.out.later HBr2.out);unfold Ru.cs at cK;clear cK0;rw [h4] at cK;refine cK.mono ?_
   rintro e w3 ⟨rfl,hb⟩;have HB8:=bt HB7 hb;have P0:=bl N0 hb;have P1:=bl N1 hb;clear hb cK HB7 HQ2 N0 N1 b0 b1 b2 b3 b4 b5 b6 b7 b8 b9 b10;by_cases hk0:kp=0
   ·have HX':Hid (t.ZT.all (U2 o t)=(t.ZT.drop (j+1)).all (U2 o t)):=hid (by rw [HX.out,HP'.out];simp [hk0]);have hk1:(kp == 0)=true:=by simpa using hk0
    have hk2:(kp != 0)=false:=by simp [hk0]
    go_wp2;go_roundw
    case rel=>exact⟨j+1,by omega,by go_num,HX',HB8,P0,P1⟩
    case measure=>simp [intOf];omega
   ·have HR':Hid (res=false):=hid (by rw [HR.out,HX.out,HP'.out];simp [hk0]);have hk1:(kp == 0)=false:=by simpa using hk0
    have hk2:(kp != 0)=true:=by simp [hk0]
    go_wp2;go_ret;exact⟨by rw [HR'.out];rfl,HB8.out⟩
  ·obtain rfl:j=t.ZT.length:=by omega
   rw [List.drop_length] at HE;have HR':Hid (res=Zn WO t.ZT):=hid (by rw [HR.out,HE.out];rfl)
   have k4:=ce K1 4;go_wp2_with fail;refine(Nh t.ZT Y y wr (HYr.out.later HBw.out) hrl).mono ?_
   rintro e w2 ⟨rfl,hb⟩;have HB6:=bt HBw hb;rw [←HR'.out];clear hb;go_wp2;go_ret;exact⟨rfl,HB6.out⟩
end Go.Proofs.YtnhmoibjlakhjaaGreat
