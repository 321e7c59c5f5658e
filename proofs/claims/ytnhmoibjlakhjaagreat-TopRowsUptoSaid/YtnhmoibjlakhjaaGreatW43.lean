/- Lemmas, each under its own conditions. -/
import Derived.Test.YtnhmoibjlakhjaaGreatW42
import Derived.Test.YtnhmoibjlakhjaaGreatW30
set_option linter.all false
namespace Go.Proofs.YtnhmoibjlakhjaaGreat
open Go.Proofs.Tryz
open Lib (hid)
set_option maxRecDepth 100000
set_option maxHeartbeats 16000000
open Go.RowKit
theorem Rx (a:Addr):a.add (0*Zz.length)=a:=by
 cases a
 simp [Addr.add]
def EH (o:Ob)(x:Cm):Int->Ob->Prop:=
 if x.ZV=1 then Vk o x.Z9 x.ZH
 else if x.ZV=2 then UW o x.Z9
 else if x.ZV=3 then UL o ⟨x.Z9,x.ZZ,x.ZH,x.Z3,[]⟩
 else if x.ZV=5 then RT o x.Z9 x.ZZ (UY o x.Z3[0]!)
 else if x.ZV=6 then RT o x.Z9 x.ZZ (VL o x.name)
 else if x.ZV=7 then RT o x.Z9 x.ZZ (WP o x.ZX)
 else RT o x.Z9 x.ZZ (UX o x.Z9 x.ZZ x.name)
theorem Ow (o:Ob)(C:oA)(k0:Nat)(D:oA)(k1:Nat)(x:Cm)(X:oA)(k:Nat)(Y:oA)(n:Nat)(w:World)(hO:ME w o C D)(ho:o.Zo 1099511627776)
  (hX:rA w Zz (x.Z3.map Cl.da) X) (hY:rA w [.Z2] (YV x.ZX.Z3) Y) (hx:x.Zo 1099511627776) (hb:Qo x.ZX) (h5:x.ZV=5->x.Z3.length=1):
  cQ 86 #[.agg #[.slice C o.Z7.length k0,.slice D o.Z8.length k1],.agg (x.cs X k Y n).toArray] w (Gi o (EH o x) w):=by
 obtain⟨ZV,ZH,Z9,ZZ,name,ZQ,Z3,ZX,right,Zq⟩:=x;dsimp only at hX hY h5 hb;have ab:=hid hO;have HO:=hid ho;have HX:=hid hX;have HY:=hid hY;have am:=hid hb;have aq:Z3.length<=1099511627776:=hx.2.2.2.2.2.1;have an:Hid (ZX.Zo 1099511627776):=hid hx.2.2.2.2.2.2.1;have H5:=hid h5;have M:=iN 26 2;clear hO ho hX hY hx hb h5;unfold Cm.cs;dsimp only;obtain⟨b0,b1,hb⟩:=P8 w (.cells #[sl C o.Z7 k0,sl D o.Z8 k1] 26) [i6 ZV,sT ZH,sT Z9,sT ZZ,sT name,sT ZQ,sl X Z3 k,sT ZX.name,i6 ZX.ZV,sl Y ZX.Z3 n,i6 ZX.low,i6 ZX.ZB,sT ZX.Z9,sT ZX.ZZ,sT ZX.key,i6 right,.bool Zq] [sN,sN] 43 26;have aj:ZP (((w.alloc (.cells #[sl C o.Z7 k0,sl D o.Z8 k1] 26)).alloc (.cells #[i6 ZV,sT ZH,sT Z9,sT ZZ,sT name,sT ZQ,sl X Z3 k,sT ZX.name,i6 ZX.ZV,sl Y ZX.Z3 n,i6 ZX.low,i6 ZX.ZB,sT ZX.Z9,sT ZX.ZZ,sT ZX.key,i6 right,.bool Zq] 43)).alloc (.cells #[sN,sN] 26)) w.heap.size 26 [sl C o.Z7 k0,sl D o.Z8 k1]:=((ZP.new w _ _).alloc _).alloc _;have P0:=hid aj;have X0:=hid b0;have G:=hid b1;have s:=hid hb;clear b0 b1 aj hb;go_enter func86,ntmps86
 by_cases h1:ZV=1
 ·subst h1;go_wp2_with fail;generalize (((w.alloc (.cells #[sl C o.Z7 k0,sl D o.Z8 k1] 26)).alloc (.cells #[i6 1,sT ZH,sT Z9,sT ZZ,sT name,sT ZQ,sl X Z3 k,sT ZX.name,i6 ZX.ZV,sl Y ZX.Z3 n,i6 ZX.low,i6 ZX.ZB,sT ZX.Z9,sT ZX.ZZ,sT ZX.key,i6 right,.bool Zq] 43)).alloc (.cells #[sN,sN] 26))=m at*;refine(OE o C k0 D k1 Z9 ZH m (ab.o.later s.o) HO.o).mono ?_
  rintro e I ⟨Z,J,B0,l0,B1,l1,rfl,F,E,hb⟩;have O:=bt s hb;have V:=bl G hb;have T:=hid F;have N:=hid E;clear hb F E s G;go_wp2_with (first | (refine sO V M ?_;intro w9 U) | fail);refine bodyPost_ret (Zr rfl _ _ (w.heap.size+1+1) rfl (hid U.o.YK) rfl underlying26 rfl M) rfl ?_
  exact⟨Z,J,B0,l0,B1,l1,rfl,T.o,N.o.keeps U.o.keeps (by decide),U.o.below O.o (by omega)⟩
 have g1:(ZV == 1)=false:=by simpa using h1
 by_cases h2:ZV=2
 ·subst h2;go_wp2_with fail;generalize (((w.alloc (.cells #[sl C o.Z7 k0,sl D o.Z8 k1] 26)).alloc (.cells #[i6 2,sT ZH,sT Z9,sT ZZ,sT name,sT ZQ,sl X Z3 k,sT ZX.name,i6 ZX.ZV,sl Y ZX.Z3 n,i6 ZX.low,i6 ZX.ZB,sT ZX.Z9,sT ZX.ZZ,sT ZX.key,i6 right,.bool Zq] 43)).alloc (.cells #[sN,sN] 26))=m at*;refine(PG o C k0 D k1 Z9 m (ab.o.later s.o) HO.o).mono ?_
  rintro e I ⟨Z,J,B0,l0,B1,l1,rfl,F,E,hb⟩;have O:=bt s hb;have V:=bl G hb;have T:=hid F;have N:=hid E;clear hb F E s G;go_wp2_with (first | (refine sO V M ?_;intro w9 U) | fail);refine bodyPost_ret (Zr rfl _ _ (w.heap.size+1+1) rfl (hid U.o.YK) rfl underlying26 rfl M) rfl ?_
  exact⟨Z,J,B0,l0,B1,l1,rfl,T.o,N.o.keeps U.o.keeps (by decide),U.o.below O.o (by omega)⟩
 have g2:(ZV == 2)=false:=by simpa using h2
 by_cases h3:ZV=3
 ·subst h3;go_wp2_with fail;generalize (((w.alloc (.cells #[sl C o.Z7 k0,sl D o.Z8 k1] 26)).alloc (.cells #[i6 3,sT ZH,sT Z9,sT ZZ,sT name,sT ZQ,sl X Z3 k,sT ZX.name,i6 ZX.ZV,sl Y ZX.Z3 n,i6 ZX.low,i6 ZX.ZB,sT ZX.Z9,sT ZX.ZZ,sT ZX.key,i6 right,.bool Zq] 43)).alloc (.cells #[sN,sN] 26))=m at*;refine(Nq o C k0 D k1 ⟨Z9,ZZ,ZH,Z3,[]⟩ X k none 0 m (ab.o.later s.o) HO.o ⟨aq,by simp,by simp⟩ (HX.o.later s.o) ZT.nil).mono ?_
  rintro e I ⟨Z,J,B0,l0,B1,l1,rfl,F,E,hb⟩;have O:=bt s hb;have V:=bl G hb;have T:=hid F;have N:=hid E;clear hb F E s G;go_wp2_with (first | (refine sO V M ?_;intro w9 U) | fail);refine bodyPost_ret (Zr rfl _ _ (w.heap.size+1+1) rfl (hid U.o.YK) rfl underlying26 rfl M) rfl ?_
  exact⟨Z,J,B0,l0,B1,l1,rfl,T.o,N.o.keeps U.o.keeps (by decide),U.o.below O.o (by omega)⟩
 have g3:(ZV == 3)=false:=by simpa using h3
 by_cases h5:ZV=5
 ·subst h5;obtain⟨c,rfl⟩: ∃ c,Z3= [c]:=List.length_eq_one_iff.1 (H5.o rfl);obtain⟨d,vs,rfl,hv,hr⟩:=(HX.o.later s.o).at_ (j:=0) (by simp);have ar:vs=Cl.cs c:=Cl.YY hv;subst ar;have af:=s;have ag:=P0;have ai:=X0;have ah:=G;clear s P0 X0 G;go_wp2_with fail;refine Wh _ fun m hW=> ?_
  have s:Hid (Bw w m):=hid (by rw [hW];exact af.o);have P0:=rB hW ag.o;have X0:=rB hW ai.o;have G:=rB hW ah.o;replace hr: ∀ i u,(Cl.cs c)[i]?=some u->m.cell? (d.add (0*Zz.length+i))=some u:=by rw [hW];exact hr
  clear hW af ag ai ah;have c0:m.cell? d=some (sT c.name):=by have h:=hr 0 _ rfl;rw [Nat.add_zero,Rx] at h;exact h
  have c1:m.cell? (aD d.block (d.off+1))=some (i6 c.ZV):=by have h:=hr 1 _ rfl;rw [Yr d (0*Zz.length) 1 (by omega),Rx] at h;exact h
  have c2:m.cell? (aD d.block (d.off+2))=some (.bool c.null):=by have h:=hr 2 _ rfl;rw [Yr d (0*Zz.length) 2 (by omega),Rx] at h;exact h
  have ac:d.block<m.heap.size:=World.block_lt_of_cell? _ _ c0;have ao:d.block<m.heap.size:=ac;have ap:d.block<m.heap.size:=ac;clear hr hv;have ak:m.drew.cell? (aN w 0)=some (sl C o.Z7 k0)/\m.drew.cell? (aN w 1)=some (sl D o.Z8 k1)/\m.drew.cell? (aD (w.heap.size+1) 2)=some (sT Z9)/\m.drew.cell? (aD (w.heap.size+1) 3)=some (sT ZZ)/\m.drew.cell? (aD (w.heap.size+1) 6)=some (.slice (some d) 1 k)/\m.drew.cell? d=some (sT c.name)/\m.drew.cell? (aD d.block (d.off+1))=some (i6 c.ZV)/\m.drew.cell? (aD d.block (d.off+2))=some (.bool c.null):=⟨P0.o.drew.cell 0,P0.o.drew.cell 1,X0.o.drew.cell 2,X0.o.drew.cell 3,X0.o.drew.cell 6,c0,c1,c2⟩
  refine Zp 12 (S:=fun w'=>w'.cell? (aN w 0)=some (sl C o.Z7 k0)/\w'.cell? (aN w 1)=some (sl D o.Z8 k1)/\w'.cell? (aD (w.heap.size+1) 2)=some (sT Z9)/\w'.cell? (aD (w.heap.size+1) 3)=some (sT ZZ)/\w'.cell? (aD (w.heap.size+1) 6)=some (.slice (some d) 1 k)/\w'.cell? d=some (sT c.name)/\w'.cell? (aD d.block (d.off+1))=some (i6 c.ZV)/\w'.cell? (aD d.block (d.off+2))=some (.bool c.null)) (by kernel_rfl) ak (fun L=> ?_)
  (try simp only [pp]);refine YU 0 43 L ?_;refine YU 1 44 L ?_;refine YU 2 45 L ?_;refine YU 3 46 L ?_;refine YU 4 47 L ?_;refine YU 5 48 L ?_;refine YU 6 49 L ?_;refine YU 7 50 L ?_;refine YU 8 51 L ?_;refine OH 9 52 fun K hK=> ?_
  go_simp;refine(OF o C k0 D k1 Z9 ZZ c m.drew (ab.o.later s.o.drew) HO.o).mono ?_
  rintro e I ⟨Z,J,B0,l0,B1,l1,rfl,F,E,hb⟩;have aa:Bw m I:=br.drew.trans hb;have O:=bt s aa;have V:=bl G aa;have T:=hid F;have N:=hid E;have ae:I.cell? (aN w 0)=some (sl C o.Z7 k0)/\I.cell? (aN w 1)=some (sl D o.Z8 k1)/\I.cell? (aD (w.heap.size+1) 2)=some (sT Z9)/\I.cell? (aD (w.heap.size+1) 3)=some (sT ZZ)/\I.cell? (aD (w.heap.size+1) 6)=some (.slice (some d) 1 k)/\I.cell? d=some (sT c.name)/\I.cell? (aD d.block (d.off+1))=some (i6 c.ZV)/\I.cell? (aD d.block (d.off+2))=some (.bool c.null):=⟨cb P0 (aa) 0,cb P0 (aa) 1,cb X0 (aa) 2,cb X0 (aa) 3,cb X0 (aa) 6,((aa).cell ac).trans c0,((aa).cell (p:=(aD d.block (d.off+1))) ac).trans c1,((aa).cell (p:=(aD d.block (d.off+2))) ac).trans c2⟩
  clear hb F E aa;refine hK.out _ _ ae ?_
  clear hK K;(try simp only [pp])
  clear L;have L:=ae;refine YU 10 53 L ?_;refine YU 11 54 L ?_;refine Zu.WR (i:=12) (o:=⟨none,_,_,_,_,_⟩) (by kernel_rfl) (by kernel_rfl) rfl (fun K hK=> ?_)
  refine Zk rfl 26 _ _ rfl (w.heap.size+1+1) [sl B0 J.Z7 l0,sl B1 J.Z8 l1] rfl rfl V rfl rfl M (by simp [Value.oneCell']) ?_
  intro w9 U;refine hK.out _ _ ?_
  clear hK K;(try simp only [pp])
  refine Zu.behind (i:=13) (o:=⟨some 5,_,_,_,_,_⟩) (by kernel_rfl) (by kernel_rfl) rfl (fun K hK=> ?_)
  go_simp;refine hK.out _ _ (Zu.done (by kernel_rfl) ?_ _);clear hK K L ae ak c0 c1 c2;go_wp2;refine bodyPost_ret (Zr rfl _ _ (w.heap.size+1+1) rfl (hid U.o.YK) rfl underlying26 rfl M) rfl ?_
  exact⟨Z,J,B0,l0,B1,l1,rfl,T.o,N.o.keeps U.o.keeps (by decide),U.o.below O.o (by omega)⟩
 have g5:(ZV == 5)=false:=by simpa using h5
 by_cases h6:ZV=6
 ·subst h6;go_wp2_with fail;generalize (((w.alloc (.cells #[sl C o.Z7 k0,sl D o.Z8 k1] 26)).alloc (.cells #[i6 6,sT ZH,sT Z9,sT ZZ,sT name,sT ZQ,sl X Z3 k,sT ZX.name,i6 ZX.ZV,sl Y ZX.Z3 n,i6 ZX.low,i6 ZX.ZB,sT ZX.Z9,sT ZX.ZZ,sT ZX.key,i6 right,.bool Zq] 43)).alloc (.cells #[sN,sN] 26))=m at*;refine(PH o C k0 D k1 Z9 ZZ name m (ab.o.later s.o) HO.o).mono ?_
  rintro e I ⟨Z,J,B0,l0,B1,l1,rfl,F,E,hb⟩;have O:=bt s hb;have V:=bl G hb;have T:=hid F;have N:=hid E;clear hb F E s G;go_wp2_with (first | (refine sO V M ?_;intro w9 U) | fail);refine bodyPost_ret (Zr rfl _ _ (w.heap.size+1+1) rfl (hid U.o.YK) rfl underlying26 rfl M) rfl ?_
  exact⟨Z,J,B0,l0,B1,l1,rfl,T.o,N.o.keeps U.o.keeps (by decide),U.o.below O.o (by omega)⟩
 have g6:(ZV == 6)=false:=by simpa using h6
 by_cases h7:ZV=7
 ·subst h7;go_wp2_with fail;generalize (((w.alloc (.cells #[sl C o.Z7 k0,sl D o.Z8 k1] 26)).alloc (.cells #[i6 7,sT ZH,sT Z9,sT ZZ,sT name,sT ZQ,sl X Z3 k,sT ZX.name,i6 ZX.ZV,sl Y ZX.Z3 n,i6 ZX.low,i6 ZX.ZB,sT ZX.Z9,sT ZX.ZZ,sT ZX.key,i6 right,.bool Zq] 43)).alloc (.cells #[sN,sN] 26))=m at*;refine(MB o C k0 D k1 Z9 ZZ ZX Y n m (ab.o.later s.o) HO.o an.o am.o (HY.o.later s.o)).mono ?_
  rintro e I ⟨Z,J,B0,l0,B1,l1,rfl,F,E,hb⟩;have O:=bt s hb;have V:=bl G hb;have T:=hid F;have N:=hid E;clear hb F E s G;go_wp2_with (first | (refine sO V M ?_;intro w9 U) | fail);refine bodyPost_ret (Zr rfl _ _ (w.heap.size+1+1) rfl (hid U.o.YK) rfl underlying26 rfl M) rfl ?_
  exact⟨Z,J,B0,l0,B1,l1,rfl,T.o,N.o.keeps U.o.keeps (by decide),U.o.below O.o (by omega)⟩
 have g7:(ZV == 7)=false:=by simpa using h7
 go_wp2_with fail;generalize (((w.alloc (.cells #[sl C o.Z7 k0,sl D o.Z8 k1] 26)).alloc (.cells #[i6 ZV,sT ZH,sT Z9,sT ZZ,sT name,sT ZQ,sl X Z3 k,sT ZX.name,i6 ZX.ZV,sl Y ZX.Z3 n,i6 ZX.low,i6 ZX.ZB,sT ZX.Z9,sT ZX.ZZ,sT ZX.key,i6 right,.bool Zq] 43)).alloc (.cells #[sN,sN] 26))=m at*;refine(Nd o C k0 D k1 Z9 ZZ name m (ab.o.later s.o) HO.o).mono ?_
 rintro e I ⟨Z,J,B0,l0,B1,l1,rfl,F,E,hb⟩;have O:=bt s hb;have V:=bl G hb;have T:=hid F;have N:=hid E;clear hb F E s G;go_wp2_with (first | (refine sO V M ?_;intro w9 U) | fail);refine bodyPost_ret (Zr rfl _ _ (w.heap.size+1+1) rfl (hid U.o.YK) rfl underlying26 rfl M) rfl ?_
 exact⟨Z,J,B0,l0,B1,l1,rfl,by unfold EH;dsimp only;rw [if_neg h1,if_neg h2,if_neg h3,if_neg h5,if_neg h6,if_neg h7];exact T.o,N.o.keeps U.o.keeps (by decide),U.o.below O.o (by omega)⟩
end Go.Proofs.YtnhmoibjlakhjaaGreat
