/- Lemmas of the proof. No condition but each theorem's own. -/
import Derived.Test.YtnhmoibjlakhjaaGreatM09
import Derived.Test.YtnhmoibjlakhjaaGreatM03
import Derived.Deep.RegionLaw
import Derived.Test.YtnhmoibjlakhjaaGreatM01
import Derived.Recover
import Derived.Defers
import Derived.Test.YtnhmoibjlakhjaaGreatM02
set_option linter.unusedVariables false
set_option linter.unusedSimpArgs false
namespace Go.Proofs.YtnhmoibjlakhjaaGreat
set_option maxRecDepth 100000
set_option maxHeartbeats 16000000
open Go.RowKit Le
def out (s:St):List UInt8:=if s.2=0 then s.1 else []
def Ix (s:St)(w':World)(e:Ending):Prop:=
 ∃ A n c,e= .returned (.tuple #[.slice A n c,.int .i64 s.2])∧n=(out s).length∧(n≤c∧c≤9223372036854775807)∧Reads w' w'.heap.size A n (Mx (out s))
end Go.Proofs.YtnhmoibjlakhjaaGreat
namespace Go.Proofs.YtnhmoibjlakhjaaGreat
open Lib (hid)
set_option maxRecDepth 100000
set_option maxHeartbeats 16000000
open Go.RowKit Le
def Sp (w:World)(us:List TypeId)(sh:List Sh)(ds:List (List Da))(xs:List Value):Prop:=
 ∀ (j:Nat) (d:List Da),ds[j]?=some d→ ∃ vs,ZG w (XA w us) sh d vs∧ ∀ (i:Nat) (u:Value),vs[i]?=some u→xs[j*sh.length+i]?=some u
theorem Sp.nil (w:World)(us:List TypeId)(sh:List Sh)(xs:List Value):Sp w us sh [] xs:=fun j d h=>by simp at h
theorem Sp.keeps {ts us:List TypeId}{w w':World}{sh:List Sh}{ds:List (List Da)}{xs:List Value}(h:Sp w us sh ds xs)(hk:ZS ts w w')(hd: ∀ t,t∈us→t∉ts):Sp w' us sh ds xs:=fun j d hj=>by
 obtain⟨vs,h1,h2⟩:=h j d hj;exact⟨vs,h1.keeps hk hd,h2⟩
theorem ZP.news {w:World}{g:Nat}{t:TypeId}{cs:List Value}(h:ZP w g t cs): ∀ j u,cs[j]?=some u→w.cell? ((⟨g,0,none⟩:Addr).add j)=some u:=fun j u hu=>by
 rw [Addr.add_mid,Nat.zero_add];exact(h.cell j).trans hu
theorem YJ.Pp {w:World}{S:Nat→Prop}{a:Sh}{d:Da}{v:Value}(h:YJ w S a d v):v.oneCell'=true:=by
 cases a with
 | num=>obtain⟨_,_,rfl⟩:=h.num;rfl
 | YF=>obtain⟨_,_,rfl,_⟩:=h.YF;rfl
 | Z9=>obtain⟨_,_,rfl⟩:=h.T0;rfl
 | YV=>obtain⟨_,_,rfl⟩:=h.YV;rfl
 | rows l=>obtain⟨_,_,_,_,rfl,_⟩:=h.rows;rfl
theorem ZG.Pp {w:World}{S:Nat→Prop} : ∀ {l:List Sh}{ds:List Da}{vs:List Value},ZG w S l ds vs→ ∀ u∈vs,u.oneCell'=true
 | [],ds,vs,h=>by
  obtain⟨rfl,rfl⟩:=h.nil;intro u hu
  cases hu
 | a ::l,ds,vs,h=>by
  obtain⟨d,ds',v,vs',rfl,rfl,h1,h2⟩:=h.cons;intro u hu;rcases List.mem_cons.1 hu with rfl | hu
  ·exact h1.Pp
  ·exact h2.Pp u hu
def X8:List Value→Nat→List Value→List Value
 | cs,_,[]=>cs
 | cs,o,v ::r=>X8 (cs.set o v) (o+1) r
theorem ZP.PS {w:World}{g:Nat}{t:TypeId} : ∀ {cs:List Value}(o:Nat)(vs:List Value),ZP w g t cs→ZP (w.setCells g o vs) g t (X8 cs o vs)
 | _,_,[],h=>h
 | _,o,v ::r,h=>ZP.PS (o+1) r (h.ZD o v)
theorem XL: ∀ (new:List Value)(pre old post:List Value),old.length=new.length→X8 (pre ++ (old ++post)) pre.length new=pre ++ (new ++post)
 | [],pre,old,post,h=>by
  obtain rfl:old= []:=List.eq_nil_of_length_eq_zero h;rfl
 | v ::r,pre,old,post,h=>by
  cases old with
  | nil=>simp at h
  | cons u old=>
   have e:(pre ++ (u ::old ++post)).set pre.length v=(pre ++ [v]) ++ (old ++post):=by
    rw [List.set_append,if_neg (by omega),Nat.sub_self];simp
   have h2:=XL r (pre ++ [v]) old post (by simpa using h);rw [X8,e];rw [List.length_append] at h2;refine h2.trans ?_
   simp
theorem ZP.setCells {w:World}{g:Nat}{t:TypeId}{cs cs':List Value}(h:ZP w g t cs)(o:Nat)(new:List Value)(pre old post:List Value)(he:cs=pre ++ (old ++post))(hl:old.length=new.length)(ho:pre.length=o)(he':pre ++ (new ++post)=cs'):ZP (w.setCells g o new) g t cs':=by
 subst ho;have h2:=h.PS pre.length new;rwa [he,XL new pre old post hl,he'] at h2
theorem ZP.PT {w:World}{g:Nat}{t:TypeId}{cs:List Value}(h:ZP w g t cs)(new:List Value)(hl:cs.length=new.length):ZP (w.setCells g 0 new) g t new:=
 h.setCells 0 new [] cs [] (by simp) hl rfl (by simp)
theorem ZS.setCells {ts:List TypeId}{g:Nat}{t:TypeId}(ht:t∈ts): ∀ {w:World}(_:Zc w g t)(o:Nat)(vs:List Value),ZS ts w (w.setCells g o vs)
 | _,_,_,[]=>ZS.refl _ _
 | _,hg,o,v ::r=>(ZS.ZD hg ht v).trans (ZS.setCells ht (hg.setCell _ _) (o+1) r)
theorem ZJ {B g:Nat}(hg:B≤g): ∀ {w:World}(o:Nat)(vs:List Value),Below B w (w.setCells g o vs)
 | _,_,[]=>Below.refl _ _
 | _,o,v ::r=>((Below.refl B _).setCell hg v).trans (ZJ hg (o+1) r)
theorem ZP.there {w:World}{g:Nat}{t:TypeId}{cs:List Value}(h:ZP w g t cs)(o n:Nat)(hn:o+n≤cs.length):w.there g o n:=fun j hj=>by
 refine⟨?_,h.frozen _⟩
 rw [h.cell,List.getElem?_eq_getElem (by omega)];rfl
theorem ZI {ts us:List TypeId}{w w':World}{l:List Sh}{ds:List (List Da)}{A:Option Addr}(h:ZV w (XA w us) l ds A)(hk:ZS ts w w')(hd: ∀ t,t∈us→t∉ts):ZV w' (XA w' us) l ds A:=h.Y6 (hk.Ti hd) (fun _ hp=>hk.cell hd hp)
theorem Pm {P:Program}{fn:Func}{t:Tmp}{ty:TypeId}(h:fn.results= #[.cell t ty])(tmps:Array Value)(w:World)(b:Nat)(hb:tmps.getD t undef= .pointer (some ⟨b,0,none⟩))(cs:List Value)(d:TypeDesc)(hc:w.rangeAt b 0 cs)
  (hu:P.underlying ty=some d) (hd:d.isRow=true) (hi:(P.info? ty).map (·.size)=some cs.length):(results fn tmps).run P w= .ok (.agg cs.toArray) w:=by
 have hl:=run_loadVar_mid w b 0 ty cs d hc hu hd hi;have hb':tmps[t]?.getD undef= .pointer (some ⟨b,0,none⟩):=by simpa using hb
 simp [results,h,hb',hl,asAddr]
structure Vh (w w':World) (b:Nat) (t:TypeId) (cs:List Value):Prop where
 Ym:ZP w' b t cs
 Xo: ∀ k,k≠b→w'.heap[k]?=w.heap[k]?
 size:w'.heap.size=w.heap.size
 XM:Zc w b t
 SY:Below b w w'
section
variable {w w' : World} {b : Nat} {t : TypeId} {cs : List Value}
theorem Vh.keeps (h:Vh w w' b t cs):ZS [t] w w':=⟨Nat.le_of_eq h.size.symm,fun k t' hk hn=>h.Xo k (by rintro rfl;exact hn (by simp [hk.same h.XM]))⟩
theorem Vh.other (h:Vh w w' b t cs){g:Nat}{t':TypeId}{cs':List Value}(hB:ZP w g t' cs')(hne:g≠b):ZP w' g t' cs':=(h.Xo g hne).trans hB
theorem Vh.below (h:Vh w w' b t cs){w0:World}{B:Nat}(hb:Below B w0 w)(hB:B≤b):Below B w0 w':=
 hb.trans (h.SY.mono hB)
end
theorem Y7 (w:World)(g:Nat): ∀ (o:Nat)(vs:List Value),(w.setCells g o vs).heap.size=w.heap.size
 | _,[]=>rfl
 | o,v ::r=>by rw [show w.setCells g o (v ::r)=(w.setCell ⟨g,o,none⟩ v).setCells g (o+1) r from rfl,Y7];simp [World.setCell]
theorem Zb (w:World)(g:Nat){k:Nat}(hk:k≠g): ∀ (o:Nat)(vs:List Value),(w.setCells g o vs).heap[k]?=w.heap[k]?
 | _,[]=>rfl
 | o,v ::r=>by
  rw [show w.setCells g o (v ::r)=(w.setCell ⟨g,o,none⟩ v).setCells g (o+1) r from rfl,Zb _ g hk];exact Below.heap_setCell w ⟨g,o,none⟩ v k hk
theorem Zx {P:Program}{ops:Array Oper}{rest:List Oper}{op:Oper}{a:Act}{w:World}{Q:Exit→Act→World→Prop}(hgd:op.guard=none)(ty:TypeId)(x:Operand)(ho:op.op= .load ty x)
  (b:Nat) (hx:a.eval x= .pointer (some ⟨b,0,none⟩)) {t:TypeId} {cs:List Value} (hB:Hid (ZP w b t cs)) {n:Nat} (hn:cs.length=n) {d:TypeDesc} (hu:P.underlying ty=some d) (hd:d.isRow=true) (hi:Hid ((P.info? ty).map (·.size)=some n))
  (h:wpList P ops Q rest (a.put op.dst (.agg cs.toArray)) w):wpList P ops Q (op ::rest) a w:=
 wpList_load_mid hgd ty x ho b 0 hx cs d hB.out.YN hu hd (hn▸hi.out) h
theorem ZA {P:Program}{ops:Array Oper}{rest:List Oper}{op:Oper}{a:Act}{w:World}{Q:Exit→Act→World→Prop}(hgd:op.guard=none)(ty:TypeId)(x y:Operand)(ho:op.op= .store ty x y)
  (b:Nat) (cs:List Value) (hx:a.eval x= .pointer (some ⟨b,0,none⟩)) (hy:a.eval y= .agg cs.toArray) {t:TypeId} {cs0:List Value} (hB:Hid (ZP w b t cs0)) {n:Nat} (hn0:cs0.length=n) (hn:cs.length=n)
  (hi:Hid ((P.info? ty).map (·.size)=some n)) (h1: ∀ v∈cs,v.oneCell'=true)
  (h: ∀ w',Hid (Vh w w' b t cs)→wpList P ops Q rest (a.put op.dst undef) w'):wpList P ops Q (op ::rest) a w:=by
 refine wpList_store_mid hgd ty x y ho b 0 cs.toArray hx hy (hB.out.there 0 _ (by simp [hn0,hn])) (by rw [List.size_toArray,hn];exact hi.out) (all_oneCell_toArray h1) (h _ (hid ?_))
 exact⟨hB.out.PT _ (by rw [hn0,hn]),fun k hk=>Zb w b hk 0 _,Y7 w b 0 _,hB.out.XM,ZJ (Nat.le_refl _) 0 _⟩
theorem UM {P:Program}{fn:Func}{t:Tmp}{ty:TypeId}(h:fn.results= #[.cell t ty])(tmps:Array Value)(w:World)(b:Nat)(hb:tmps.getD t undef= .pointer (some ⟨b,0,none⟩)){t':TypeId}{cs:List Value}(hB:Hid (ZP w b t' cs)){n:Nat}(hn:cs.length=n){d:TypeDesc}
  (hu:P.underlying ty=some d) (hd:d.isRow=true) (hi:Hid ((P.info? ty).map (·.size)=some n)):(results fn tmps).run P w= .ok (.agg cs.toArray) w:=
 Pm h tmps w b hb cs d hB.out.YN hu hd (hn▸hi.out)
end Go.Proofs.YtnhmoibjlakhjaaGreat
namespace Go.Proofs.YtnhmoibjlakhjaaGreat
open Lib (hid)
set_option maxRecDepth 100000
set_option maxHeartbeats 16000000
open Go.RowKit
theorem bl {w w':World}{g:Nat}{t:TypeId}{cs:List Value}(P:Hid (ZP w g t cs))(h:Below w.heap.size w w'):Hid (ZP w' g t cs):=hid (P.out.below h P.out.lt)
theorem bt {w w' w'':World}(A:Hid (Below w.heap.size w w'))(h:Below w'.heap.size w' w''):Hid (Below w.heap.size w w''):=hid (A.out.trans (h.mono A.out.size))
theorem rB {W V:World}{g:Nat}{t:TypeId}{cs:List Value}(e:W=V)(h:ZP V g t cs):Hid (ZP W g t cs):=hid (e▸h)
theorem rL {W V w:World}{n:Nat}(e:W=V)(h:Below n w V):Hid (Below n w W):=hid (e▸h)
theorem nC {W w:World}{t:TypeId}{cs:List Value}(e:W=w.alloc (.cells cs.toArray t)):Hid (ZP W w.heap.size t cs):=hid (by rw [e];exact ZP.new w t cs)
theorem nD {W w:World}{o:Obj}{t:TypeId}{cs:List Value}(e:W=(w.alloc (.cells cs.toArray t)).alloc o):Hid (ZP W w.heap.size t cs):=hid (by rw [e];exact(ZP.new w t cs).alloc _)
theorem nE {W w:World}{o o':Obj}{t:TypeId}{cs:List Value}(e:W=((w.alloc (.cells cs.toArray t)).alloc o).alloc o'):Hid (ZP W w.heap.size t cs):=hid (by rw [e];exact((ZP.new w t cs).alloc _).alloc _)
theorem nF {W w:World}{o:Obj}{t:TypeId}{cs:List Value}(e:W=(w.alloc o).alloc (.cells cs.toArray t)):Hid (ZP W (w.heap.size+1) t cs):=hid (by rw [e];simpa using ZP.new (w.alloc o) t cs)
theorem nG {W w:World}{o o':Obj}{t:TypeId}{cs:List Value}(e:W=((w.alloc o).alloc (.cells cs.toArray t)).alloc o'):Hid (ZP W (w.heap.size+1) t cs):=hid (by rw [e];simpa using (ZP.new (w.alloc o) t cs).alloc o')
theorem nH {W w:World}{o o':Obj}{t:TypeId}{cs:List Value}(e:W=((w.alloc o).alloc o').alloc (.cells cs.toArray t)):Hid (ZP W (w.heap.size+2) t cs):=hid (by rw [e];simpa using ZP.new ((w.alloc o).alloc o') t cs)
theorem bP {W w:World}{o:Obj}(e:W=w.alloc o):Hid (Below w.heap.size w W):=hid (by rw [e];exact(Below.refl _ _).alloc (Nat.le_refl _) _)
theorem bQ {W w:World}{o o':Obj}(e:W=(w.alloc o).alloc o'):Hid (Below w.heap.size w W):=hid (by rw [e];exact((Below.refl _ _).alloc (Nat.le_refl _) _).alloc (by simp) _)
theorem bR {W w:World}{o o' o'':Obj}(e:W=((w.alloc o).alloc o').alloc o''):Hid (Below w.heap.size w W):=hid (by rw [e];exact(((Below.refl _ _).alloc (Nat.le_refl _) _).alloc (by simp) _).alloc (by simp;omega) _)
theorem iN (t n:Nat)(h:(Tryz.prog.info? t).map (·.size)=some n:=by kernel_rfl):Hid ((Tryz.prog.info? t).map (·.size)=some n):=hid h
theorem br {n:Nat}{w:World} :Below n w w:=Below.refl _ _
theorem lr {n:Nat} :n≤n:=Nat.le_refl _
section
variable {P : Program} {ops : Array Oper} {rest : List Oper} {op : Oper} {a : Act} {w : World} {Q : Exit → Act → World → Prop}
theorem lO {ty:TypeId}{x:Operand}{b:Nat}{t:TypeId}{cs:List Value}{n:Nat}{d:TypeDesc}(hB:Hid (ZP w b t cs))(hi:Hid ((P.info? ty).map (·.size)=some n))(hu:P.underlying ty=some d)
  (h:wpList P ops Q rest (a.put op.dst (.agg cs.toArray)) w) (hgd:op.guard=none:=by exact rfl) (ho:op.op= .load ty x:=by exact rfl) (hx:a.eval x= .pointer (some ⟨b,0,none⟩):=by exact rfl) (hn:cs.length=n:=by exact rfl) (hd:d.isRow=true:=by exact rfl):wpList P ops Q (op ::rest) a w:=
 Zx hgd ty x ho b hx hB hn hu hd hi h
theorem sO {ty:TypeId}{x y:Operand}{b:Nat}{cs:List Value}{t:TypeId}{cs0:List Value}{n:Nat}(hB:Hid (ZP w b t cs0))(hi:Hid ((P.info? ty).map (·.size)=some n))
  (h: ∀ w',Hid (Vh w w' b t cs)→wpList P ops Q rest (a.put op.dst undef) w') (hgd:op.guard=none:=by exact rfl) (ho:op.op= .store ty x y:=by exact rfl) (hx:a.eval x= .pointer (some ⟨b,0,none⟩):=by exact rfl) (hy:a.eval y= .agg cs.toArray:=by exact rfl)
  (hn0:cs0.length=n:=by exact rfl) (hn:cs.length=n:=by exact rfl) (h1: ∀ v∈cs,v.oneCell'=true:=by simp [Value.oneCell']):wpList P ops Q (op ::rest) a w:=
 ZA hgd ty x y ho b cs hx hy hB hn0 hn hi h1 h
theorem rS {P:Program}{fn:Func}{t:Tmp}{ty:TypeId}{tmps:Array Value}{w:World}{b:Nat}{t':TypeId}{cs:List Value}{n:Nat}{d:TypeDesc}(hB:Hid (ZP w b t' cs))(hu:P.underlying ty=some d)(hi:Hid ((P.info? ty).map (·.size)=some n))
  (h:fn.results= #[.cell t ty]:=by exact rfl) (hb:tmps.getD t undef= .pointer (some ⟨b,0,none⟩):=by exact rfl) (hn:cs.length=n:=by exact rfl) (hd:d.isRow=true:=by exact rfl):(results fn tmps).run P w= .ok (.agg cs.toArray) w:=
 UM h tmps w b hb hB hn hu hd hi
end
end Go.Proofs.YtnhmoibjlakhjaaGreat
