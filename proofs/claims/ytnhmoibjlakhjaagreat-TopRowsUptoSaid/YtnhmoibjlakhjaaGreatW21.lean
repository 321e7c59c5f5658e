/- Lemmas, each under its own conditions. -/
import Derived.Test.YtnhmoibjlakhjaaGreatW20
set_option linter.all false
namespace Go.Proofs.YtnhmoibjlakhjaaGreat
open Go.Proofs.Tryz
open Lib (hid)
set_option maxRecDepth 100000
set_option maxHeartbeats 16000000
open Go.RowKit
def VY (x:Option Nat)(w:World)(base p gt:Nat)(B0:oA)(l0 l1:Nat)(o:Ob)(R:Int->Ob->Prop)(e:Ending)(w':World):Prop:=
 ∃ er o',e= .returned (i6 er)/\R er o'/\o'.Z7.length=o.Z7.length/\o'.Z8.length=o.Z8.length/\ZP w' p 26 [.slice B0 o.Z7.length l0,.slice (some (aD gt 0)) o.Z8.length l1]/\Nv w' o' B0 (some (aD gt 0))/\Y6 base x w w'
def Qm (x:Option Nat)(g:Nat)(cb:Array Value)(o:Ob)(w0:World)(s n:lU)(R:Nat->Int->Ob->Prop):Prop:=
 ∀ (w:World) (base p gt i:Nat) (B0:oA) (l0 l1:Nat) (ts:List YX) (b:Nat->Nat),w0.heap.size<=base->Bw w0 w->VM w base o B0 l0 (some (aD gt 0)) l1 ts b->(∀ j,j<=ts.length->b j<=w.heap.size)->ZP w p 26 [.slice B0 o.Z7.length l0,.slice (some (aD gt 0)) o.Z8.length l1]->base<=p->Zc o=true->XA o s n=some i->(hi:i<o.Z8.length)->
  cQ g (#[.agg #[.slice B0 o.Z7.length l0,.slice (some (aD gt 0)) o.Z8.length l1],.pointer (some (aD gt (i*5)))] ++cb) w (VY x w base p gt B0 l0 l1 o (R i))
def RT (o:Ob)(s n:lU)(R:Nat->Int->Ob->Prop)(er:Int)(o':Ob):Prop:=(XA o s n=none/\er=61)∨ ∃ i,XA o s n=some i/\R i er o'
theorem JQ (x:Option Nat)(g:Nat)(cb:Array Value)(R:Nat->Int->Ob->Prop)(o:Ob)(s n:lU)(c1 c2 c3:Nat)(G M:World)(eg: ∀ args w,(callFunc g args).run prog w= .ok (.enter g args) w)(ho:o.Zo 1099511627776)(C:ZP G c1 9 [sT s])(F:ZP G c2 9 [sT n])(m:ZP G c3 234 [.func (.func g) #[] cb])
  (ai:Bw M G) (ao:Qm x g cb o M s n R) (hx: ∀ c,x=some c->c<M.heap.size) (aE:M.heap.size<=c3):On x 247 #[pT c1,pT c2,pT c3] o G (RT o s n R):=by
 intro w base p B0 l0 B1 l1 ts b am D ad ab hp az an;have HO:=hid ho;have aA:=ho.2.1;have H1:=hid (C.below D C.lt);have H2:=hid (F.below D F.lt);have H3:=hid (m.below D m.lt);have aH:=C.lt;have aI:=F.lt;have aJ:=m.lt;have ar:=hid ao;have aw:=hid D;have V:=hid ai;have I:=hid ad;have ap:=hid ab;have N:=hid hp;have aq:=hid an;have L:=hp.lt;have aB:=D.size;have ac:base<=w.heap.size:=by
  have:=ad.low;have:=ab 0 (Nat.zero_le _);omega
 clear ho C F m ao D ad ab hp an ai;have a0:=ce N 0;have a1:=ce N 1;have a2:=ce H1 0;have a3:=ce H2 0;have aj:Bw w w.drew:=br.drew;have aa:Hid (∀ w1 U,(fun w'=>Bw w w'/\w'.cell? (aD p 0)=some (.slice B0 o.Z7.length l0)/\w'.cell? (aD p 1)=some (.slice B1 o.Z8.length l1)/\w'.cell? (aD c1 0)=some (sT s)/\w'.cell? (aD c2 0)=some (sT n)) w1->Bw w1 U->(fun w'=>Bw w w'/\w'.cell? (aD p 0)=some (.slice B0 o.Z7.length l0)/\w'.cell? (aD p 1)=some (.slice B1 o.Z8.length l1)/\w'.cell? (aD c1 0)=some (sT s)/\w'.cell? (aD c2 0)=some (sT n)) U):=hid (by
  intro w1 U ⟨C,_⟩ F;have m:Bw w U:=C.trans (F.mono C.size);exact⟨m,ct a0 m L,ct a1 m L,(m.cell (p:=(aD c1 0)) (by show c1<_;omega)).trans a2,(m.cell (p:=(aD c2 0)) (by show c2<_;omega)).trans a3⟩)
 have ax:Hid (∀ W,Bw w W->cQ 57 #[.agg #[.slice B0 o.Z7.length l0,.slice B1 o.Z8.length l1],sT s,sT n] W fun e w'=>e= .returned (.tuple #[.int .i64 (WS (XA o s n)),.bool (XA o s n).isSome])/\Bw W w'):=hid (by
  intro W hW;have cW:=Us (o.Z7.map Sc.da) (o.Z8.map Tb.da) B0 l0 B1 l1 s n W (I.o.r.tb.later hW) (by simpa using aA);rwa [List.length_map,List.length_map,Ut,Ts] at cW)
 have ag:Hid (∀ E T,RT o s n R E T=((XA o s n=none/\E=61)∨ ∃ i,XA o s n=some i/\R i E T)):=hid fun _ _=>rfl
 have au:Hid (∀ i,XA o s n=some i->i<o.Z8.length):=hid fun i h=>(Wt (show o.Z8.findIdx? (fun x=>x.Z9 == s && x.name == n)=some i from h)).1
 have aC:=hid (show ∀ i,XA o s n=some i->XA o s n=some i from fun _ h=>h);generalize hta:XA o s n=ta at*;have av:=hid hta;clear hta;go_enter func247,ntmps247
 go_wp2_with fail;go_region_held_law (fun w'=>Bw w w'/\w'.cell? (aD p 0)=some (.slice B0 o.Z7.length l0)/\w'.cell? (aD p 1)=some (.slice B1 o.Z8.length l1)/\w'.cell? (aD c1 0)=some (sT s)/\w'.cell? (aD c2 0)=some (sT n))
  (first | exact aa.o _ _ (by assumption) (by assumption) | exact⟨aj,a0,a1,a2,a3⟩)
  (first | (go_at_call 57;refine(ax.o _ (by first | exact aj | assumption)).mono ?_;rintro e w' ⟨rfl,hb⟩))
 rename_i O;have u:=hid O.1;have b0:=O.2.1;have b1:=O.2.2.1;clear O aa a0 a1 a2 a3
 cases ta with
 | none=>
  go_wp2;go_ret;exact⟨61,o,B0,l0,B1,l1,rfl,by rw [ag.o];exact Or.inl ⟨by simp,rfl⟩,N.o.below u.o L,I.o.t.keeps (ZS.ZA (ts:= []) u.o lr) (by simp),(u.o.mono ac).x x⟩
 | some i=>
  have hi:=au.o i rfl;obtain⟨gt,rfl⟩: ∃ gt,B1=some (aD gt 0):=by
   obtain⟨gt,cap,hv,_,_⟩:=I.o.Z8.form (by omega);exact⟨gt,by injection hv⟩
  have ah:=cd (H3.o.below u.o (by omega)) 0;rw [show WS (some i)=(i:Int) from rfl];have aF:(0:Int)<=(i:Int):=by omega
  have aG:(i:Int)< (o.Z8.length:Int):=by omega
  have ak:Bw w' w'.drew:=br.drew;go_wp2_with fail;refine wp_region_held_drew (S:=fun w'=>w'.cell? (aD p 0)=some (.slice B0 o.Z7.length l0)/\w'.cell? (aD p 1)=some (.slice (some (aD gt 0)) o.Z8.length l1)/\w'.cell? (aD c3 0)=some (.func (.func g) #[] cb)) (by kernel_rfl) ⟨b0,b1,ah⟩ (fun d=> ?_)
  (try simp only [pp]);refine tk 0 19 d ?_;refine tk 1 20 d ?_;refine tk 2 21 d ?_;refine tk 3 22 d ?_;refine tk 4 23 d ?_;refine tk 5 24 d ?_;refine tk 6 25 d ?_;refine tk 7 26 d ?_;refine tk 8 27 d ?_;refine tk 9 28 d ?_;refine on 10 29 fun K hK=> ?_
  go_simp;go_at_fn g
  have J:Bw w w'.drew:=u.o.trans (ak.mono u.o.size);refine(ar.o w'.drew base p gt i B0 l0 l1 ts b (by have:=V.o.size;omega) (V.o.trans ((aw.o.trans (J.mono aB)).mono V.o.size)) (I.o.below J) (fun j hj=>Nat.le_trans (ap.o j hj) J.size) (N.o.below J L) az aq.o av.o hi).mono ?_
  rintro e W5 ⟨E,T,rfl,hR,ae,af,Z,ay,hb⟩;have HF:Hid (TT x w base p (RT o s n R) (.returned (i6 E)) W5):=hid ⟨E,T,B0,l0,some (aD gt 0),l1,rfl,by rw [ag.o];exact Or.inr ⟨i,by simp,hR⟩,by rw [ae,af];exact Z,ay,Y6.pre ((u.o.mono ac).trans (ak.mono (Nat.le_trans ac u.o.size))) hb⟩;refine hK _ _ ⟨Z.cell 0,Z.cell 1,?_⟩ (fun d=> ?_)
  ·exact(World.cell?_of_block (hb.block c3 (by omega) (fun e=>by have:=hx _ e;omega))).trans ah
  clear hK K;(try simp only [pp])
  refine tk 11 5 d ?_;refine wpAnyH_done (by kernel_rfl) ?_ _
  go_wp2;go_ret;exact HF.o
theorem Uv (x:Option Nat)(g:Nat)(cb:Array Value)(R:Nat->Int->Ob->Prop)(o:Ob)(s n:lU)(d:oA)(k0:Nat)(h:oA)(k1:Nat)(w:World)(T: ∀ args w,(callFunc g args).run prog w= .ok (.enter g args) w)(U:ME w o d h)(Z:o.Zo 1099511627776)(M:Qm x g cb o w s n R)(I: ∀ c,x=some c->c<w.heap.size):
  cQ 176 #[.agg #[.slice d o.Z7.length k0,.slice h o.Z8.length k1],sT s,sT n,.func (.func g) #[] cb] w fun e w'=> ∃ D j u J C K,e= .returned (.tuple #[.agg #[.slice u j.Z7.length J,.slice C j.Z8.length K],i6 D])/\MM o (RT o s n R) D j/\Nv w' j u C/\Y6 w.heap.size x w w':=by
 have ae:=hid U;have O:=hid Z;have ac:=hid M;have N:=iN 26 2;have ad:=hid T;clear U Z M T;go_enter func176,ntmps176
 go_wp2_with fail;refine Zi _ fun W G=> ?_
 have m:Hid (Bw w W):=hid (by rw [G];exact((((br.alloc lr _).alloc (by simp) _).alloc (by simp;omega) _).alloc (by simp;omega) _).alloc (by simp;omega) _);have hq:ZP W (w.heap.size+1+1+1+1) 26 [.slice none 0 0,.slice none 0 0]/\ZP W (w.heap.size+1) 9 [sT s]/\ZP W (w.heap.size+1+1) 9 [sT n]/\ZP W (w.heap.size+1+1+1) 234 [.func (.func g) #[] cb]:=by
  rw [G];refine⟨?_,?_,?_,?_⟩
  ·simpa using ZP.new ((((w.alloc (.cells #[.slice d o.Z7.length k0,.slice h o.Z8.length k1] 26)).alloc (.cells #[sT s] 9)).alloc (.cells #[sT n] 9)).alloc (.cells #[.func (.func g) #[] cb] 234)) 26 [.slice none 0 0,.slice none 0 0]
  ·exact((ZP.alloc (by simpa using ZP.new (w.alloc (.cells #[.slice d o.Z7.length k0,.slice h o.Z8.length k1] 26)) 9 [sT s]) _).alloc _).alloc _
  ·exact(ZP.alloc (by simpa using ZP.new ((w.alloc (.cells #[.slice d o.Z7.length k0,.slice h o.Z8.length k1] 26)).alloc (.cells #[sT s] 9)) 9 [sT n]) _).alloc _
  ·exact ZP.alloc (by simpa using ZP.new (((w.alloc (.cells #[.slice d o.Z7.length k0,.slice h o.Z8.length k1] 26)).alloc (.cells #[sT s] 9)).alloc (.cells #[sT n] 9)) 234 [.func (.func g) #[] cb]) _
 obtain⟨q0,q1,q2,q3⟩:=hq;have F:=hid q0;have ag:=q0.lt;clear G;have af:=m.o.size;refine(VJ x 247 _ (RT o s n R) o d k0 h k1 W (enters_of func247 (by kernel_rfl) rfl) (ae.o.later m.o) O.o (JQ x g cb R o s n _ _ _ W w ad.o O.o q1 q2 q3 m.o ac.o I (by omega)) (fun c hc=>by have:=I c hc;omega)).mono ?_
 rintro e W2 ⟨D,j,u,J,C,K,rfl,V,L,hb⟩;have ab:=hid (Y6.pre m.o (hb.mono af));have Q2:=hid (hb.YK F.o F.o.lt fun e=>by have:=I _ e;omega)
 have HR:=hid V;have aa:=hid L;clear hb V L m F q0 q1 q2 q3;go_wp2_with (first | ((refine sO Q2 N ?_);intro wS E) | fail);refine bodyPost_ret (rt (hid E.o.YK) underlying26 N) rfl ?_
 exact⟨D,j,u,J,C,K,rfl,HR.o,aa.o.keeps E.o.keeps (by decide),ab.o.post (E.o.Rw.mono (by omega))⟩
end Go.Proofs.YtnhmoibjlakhjaaGreat
