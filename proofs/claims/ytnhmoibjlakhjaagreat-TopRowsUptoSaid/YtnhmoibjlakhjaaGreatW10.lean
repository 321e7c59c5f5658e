/- Lemmas, each under its own conditions. -/
import Derived.Test.YtnhmoibjlakhjaaGreatW09
set_option linter.all false
namespace Go.Proofs.YtnhmoibjlakhjaaGreat
open Go.Proofs.Tryz
set_option maxRecDepth 100000
set_option maxHeartbeats 16000000
open Go.RowKit Le
def out (s:St):List UInt8:=if s.2=0 then s.1 else []
def DT (s:St)(w':World)(e:Ending):Prop:=
 ∃ A n c,e= .returned (.tuple #[.slice A n c,.int .i64 s.2])/\n=(out s).length/\(n<=c/\c<=9223372036854775807)/\Reads w' w'.heap.size A n (Jh (out s))
open Lib (hid)
def Qi (w:World)(us:List TypeId)(sh:List Sh)(ds:List (List Da))(xs:List Value):Prop:=
 ∀ (j:Nat) (d:List Da),ds[j]?=some d-> ∃ vs,ZE w (Xs w us) sh d vs/\ ∀ (i:Nat) (u:Value),vs[i]?=some u->xs[j*sh.length+i]?=some u
theorem Qi.nil (w:World)(us:List TypeId)(sh:List Sh)(xs:List Value):Qi w us sh [] xs:=fun j d h=>by simp at h
theorem Qi.keeps {ts us:List TypeId}{w w':World}{sh:List Sh}{ds:List (List Da)}{xs:List Value}(h:Qi w us sh ds xs)(C:ZS ts w w')(hd: ∀ t,t∈us->t∉ts):Qi w' us sh ds xs:=fun j d u=>by
 obtain⟨D,m,s⟩:=h j d u;exact⟨D,m.keeps C hd,s⟩
theorem ZP.news {w:World}{g:Nat}{t:TypeId}{cs:List Value}(h:ZP w g t cs): ∀ j u,cs[j]?=some u->w.cell? ((⟨g,0,none⟩:Addr).add j)=some u:=fun j u d=>by
 rw [Addr.add_mid,Nat.zero_add];exact(h.cell j).trans d
theorem Yv.MV {w:World}{S:Nat->Prop}{a:Sh}{d:Da}{v:Value}(h:Yv w S a d v):v.oneCell'=true:=by
 cases a with
 | num=>obtain⟨_,_,rfl⟩:=h.num;rfl
 | Yo=>obtain⟨_,_,rfl,_⟩:=h.Yo;rfl
 | Z2=>obtain⟨_,_,rfl⟩:=h.T0;rfl
 | YD=>obtain⟨_,_,rfl⟩:=h.YD;rfl
 | rows l=>obtain⟨_,_,_,_,rfl,_⟩:=h.rows;rfl
theorem ZE.MV {w:World}{S:Nat->Prop} : ∀ {l:List Sh}{ds:List Da}{m:List Value},ZE w S l ds m-> ∀ u∈m,u.oneCell'=true
 | [],ds,m,h=>by
  obtain⟨rfl,rfl⟩:=h.nil;intro u j
  cases j
 | a ::l,ds,m,h=>by
  obtain⟨d,D,v,E,rfl,rfl,s,C⟩:=h.cons;intro u j;rcases List.mem_cons.1 j with rfl | j
  ·exact s.MV
  ·exact C.MV u j
def XP:List Value->Nat->List Value->List Value
 | cs,_,[]=>cs
 | cs,o,v ::r=>XP (cs.set o v) (o+1) r
theorem ZP.NC {w:World}{g:Nat}{t:TypeId} : ∀ {cs:List Value}(o:Nat)(d:List Value),ZP w g t cs->ZP (w.setCells g o d) g t (XP cs o d)
 | _,_,[],h=>h
 | _,o,v ::r,h=>ZP.NC (o+1) r (h.Zx o v)
theorem Xp: ∀ (new:List Value)(pre d post:List Value),d.length=new.length->XP (pre ++ (d ++post)) pre.length new=pre ++ (new ++post)
 | [],pre,d,post,h=>by
  obtain rfl:d= []:=List.eq_nil_of_length_eq_zero h;rfl
 | v ::r,pre,d,post,h=>by
  cases d with
  | nil=>simp at h
  | cons u d=>
   have e:(pre ++ (u ::d ++post)).set pre.length v=(pre ++ [v]) ++ (d ++post):=by
    rw [List.set_append,if_neg (by omega),Nat.sub_self];simp
   have j:=Xp r (pre ++ [v]) d post (by simpa using h);rw [XP,e];rw [List.length_append] at j;refine j.trans ?_
   simp
theorem ZP.setCells {w:World}{g:Nat}{t:TypeId}{cs j:List Value}(h:ZP w g t cs)(o:Nat)(new:List Value)(pre d post:List Value)(u:cs=pre ++ (d ++post))(C:d.length=new.length)(D:pre.length=o)(m:pre ++ (new ++post)=j):ZP (w.setCells g o new) g t j:=by
 subst D;have s:=h.NC pre.length new;rwa [u,Xp new pre d post C,m] at s
theorem ZP.ND {w:World}{g:Nat}{t:TypeId}{cs:List Value}(h:ZP w g t cs)(new:List Value)(d:cs.length=new.length):ZP (w.setCells g 0 new) g t new:=
 h.setCells 0 new [] cs [] (by simp) d rfl (by simp)
theorem ZS.setCells {ts:List TypeId}{g:Nat}{t:TypeId}(d:t∈ts): ∀ {w:World}(_:Za w g t)(o:Nat)(h:List Value),ZS ts w (w.setCells g o h)
 | _,_,_,[]=>ZS.refl _ _
 | _,hg,o,v ::r=>(ZS.Zx hg d v).trans (ZS.setCells d (hg.setCell _ _) (o+1) r)
theorem ZF {B g:Nat}(d:B<=g): ∀ {w:World}(o:Nat)(h:List Value),Below B w (w.setCells g o h)
 | _,_,[]=>Below.refl _ _
 | _,o,v ::r=>((Below.refl B _).setCell d v).trans (ZF d (o+1) r)
theorem ZP.there {w:World}{g:Nat}{t:TypeId}{cs:List Value}(h:ZP w g t cs)(o n:Nat)(m:o+n<=cs.length):w.there g o n:=fun j d=>by
 refine⟨?_,h.frozen _⟩
 rw [h.cell,List.getElem?_eq_getElem (by omega)];rfl
theorem ZI {ts us:List TypeId}{w w':World}{l:List Sh}{ds:List (List Da)}{A:Option Addr}(h:ZT w (Xs w us) l ds A)(d:ZS ts w w')(hd: ∀ t,t∈us->t∉ts):ZT w' (Xs w' us) l ds A:=h.YW (d.Rp hd) (fun _ j=>d.cell hd j)
theorem MS {P:Program}{m:Func}{t:Tmp}{j:TypeId}(h:m.results= #[.cell t j])(tmps:Array Value)(w:World)(b:Nat)(hb:tmps.getD t undef= .pointer (some ⟨b,0,none⟩))(cs:List Value)(d:TypeDesc)(u:w.rangeAt b 0 cs)
  (E:P.underlying j=some d) (hd:d.isRow=true) (C:(P.info? j).map (·.size)=some cs.length):(results m tmps).run P w= .ok (.agg cs.toArray) w:=by
 have D:=run_loadVar_mid w b 0 j cs d u E hd C;have s:tmps[t]?.getD undef= .pointer (some ⟨b,0,none⟩):=by simpa using hb
 simp [results,h,s,D,asAddr]
structure Up (w w':World) (b:Nat) (t:TypeId) (cs:List Value):Prop where
 YK:ZP w' b t cs
 WT: ∀ k,k≠b->w'.heap[k]?=w.heap[k]?
 size:w'.heap.size=w.heap.size
 Xr:Za w b t
 Rw:Below b w w'
section
variable {w w' : World} {b : Nat} {t : TypeId} {cs : List Value}
theorem Up.keeps (h:Up w w' b t cs):ZS [t] w w':=⟨Nat.le_of_eq h.size.symm,fun k t' d j=>h.WT k (by rintro rfl;exact j (by simp [d.same h.Xr]))⟩
theorem Up.other (h:Up w w' b t cs){g:Nat}{t':TypeId}{d:List Value}(m:ZP w g t' d)(j:g≠b):ZP w' g t' d:=(h.WT g j).trans m
theorem Up.below (h:Up w w' b t cs){d:World}{B:Nat}(hb:Below B d w)(j:B<=b):Below B d w':=
 hb.trans (h.Rw.mono j)
end
theorem YT (w:World)(g:Nat): ∀ (o:Nat)(d:List Value),(w.setCells g o d).heap.size=w.heap.size
 | _,[]=>rfl
 | o,v ::r=>by rw [show w.setCells g o (v ::r)=(w.setCell ⟨g,o,none⟩ v).setCells g (o+1) r from rfl,YT];simp [World.setCell]
theorem YZ (w:World)(g:Nat){k:Nat}(d:k≠g): ∀ (o:Nat)(h:List Value),(w.setCells g o h).heap[k]?=w.heap[k]?
 | _,[]=>rfl
 | o,v ::r=>by
  rw [show w.setCells g o (v ::r)=(w.setCell ⟨g,o,none⟩ v).setCells g (o+1) r from rfl,YZ _ g d];exact Below.heap_setCell w ⟨g,o,none⟩ v k d
theorem Zs {P:Program}{ops:Array Oper}{rest:List Oper}{op:Oper}{a:Act}{w:World}{Q:Exit->Act->World->Prop}(m:op.guard=none)(j:TypeId)(x:Operand)(D:op.op= .load j x)
  (b:Nat) (F:a.eval x= .pointer (some ⟨b,0,none⟩)) {t:TypeId} {cs:List Value} (s:Hid (ZP w b t cs)) {n:Nat} (C:cs.length=n) {d:TypeDesc} (E:P.underlying j=some d) (hd:d.isRow=true) (u:Hid ((P.info? j).map (·.size)=some n))
  (h:wpList P ops Q rest (a.put op.dst (.agg cs.toArray)) w):wpList P ops Q (op ::rest) a w:=
 wpList_load_mid m j x D b 0 F cs d s.out.Yz E hd (C▸u.out) h
theorem Zv {P:Program}{ops:Array Oper}{rest:List Oper}{op:Oper}{a:Act}{w:World}{Q:Exit->Act->World->Prop}(C:op.guard=none)(m:TypeId)(x y:Operand)(G:op.op= .store m x y)
  (b:Nat) (cs:List Value) (I:a.eval x= .pointer (some ⟨b,0,none⟩)) (J:a.eval y= .agg cs.toArray) {t:TypeId} {s:List Value} (d:Hid (ZP w b t s)) {n:Nat} (u:s.length=n) (j:cs.length=n)
  (E:Hid ((P.info? m).map (·.size)=some n)) (D: ∀ v∈cs,v.oneCell'=true)
  (h: ∀ w',Hid (Up w w' b t cs)->wpList P ops Q rest (a.put op.dst undef) w'):wpList P ops Q (op ::rest) a w:=by
 refine wpList_store_mid C m x y G b 0 cs.toArray I J (d.out.there 0 _ (by simp [u,j])) (by rw [List.size_toArray,j];exact E.out) (all_oneCell_toArray D) (h _ (hid ?_))
 exact⟨d.out.ND _ (by rw [u,j]),fun k F=>YZ w b F 0 _,YT w b 0 _,d.out.Xr,ZF (Nat.le_refl _) 0 _⟩
theorem Tz {P:Program}{m:Func}{t:Tmp}{j:TypeId}(h:m.results= #[.cell t j])(tmps:Array Value)(w:World)(b:Nat)(hb:tmps.getD t undef= .pointer (some ⟨b,0,none⟩)){t':TypeId}{cs:List Value}(s:Hid (ZP w b t' cs)){n:Nat}(C:cs.length=n){d:TypeDesc}
  (D:P.underlying j=some d) (hd:d.isRow=true) (u:Hid ((P.info? j).map (·.size)=some n)):(results m tmps).run P w= .ok (.agg cs.toArray) w:=
 MS h tmps w b hb cs d s.out.Yz D hd (C▸u.out)
theorem bl {w w':World}{g:Nat}{t:TypeId}{cs:List Value}(P:Hid (ZP w g t cs))(h:Below w.heap.size w w'):Hid (ZP w' g t cs):=hid (P.out.below h P.out.lt)
theorem bt {w w' w'':World}(A:Hid (Below w.heap.size w w'))(h:Below w'.heap.size w' w''):Hid (Below w.heap.size w w''):=hid (A.out.trans (h.mono A.out.size))
theorem rB {W V:World}{g:Nat}{t:TypeId}{cs:List Value}(e:W=V)(h:ZP V g t cs):Hid (ZP W g t cs):=hid (e▸h)
theorem rL {W V w:World}{n:Nat}(e:W=V)(h:Below n w V):Hid (Below n w W):=hid (e▸h)
theorem nC {W w:World}{t:TypeId}{cs:List Value}(e:W=w.alloc (.cells cs.toArray t)):Hid (ZP W w.heap.size t cs):=hid (by rw [e];exact ZP.new w t cs)
theorem nD {W w:World}{o:Obj}{t:TypeId}{cs:List Value}(e:W=(w.alloc (.cells cs.toArray t)).alloc o):Hid (ZP W w.heap.size t cs):=hid (by rw [e];exact(ZP.new w t cs).alloc _)
theorem nE {W w:World}{o d:Obj}{t:TypeId}{cs:List Value}(e:W=((w.alloc (.cells cs.toArray t)).alloc o).alloc d):Hid (ZP W w.heap.size t cs):=hid (by rw [e];exact((ZP.new w t cs).alloc _).alloc _)
theorem nF {W w:World}{o:Obj}{t:TypeId}{cs:List Value}(e:W=(w.alloc o).alloc (.cells cs.toArray t)):Hid (ZP W (w.heap.size+1) t cs):=hid (by rw [e];simpa using ZP.new (w.alloc o) t cs)
theorem nG {W w:World}{o d:Obj}{t:TypeId}{cs:List Value}(e:W=((w.alloc o).alloc (.cells cs.toArray t)).alloc d):Hid (ZP W (w.heap.size+1) t cs):=hid (by rw [e];simpa using (ZP.new (w.alloc o) t cs).alloc d)
theorem nH {W w:World}{o d:Obj}{t:TypeId}{cs:List Value}(e:W=((w.alloc o).alloc d).alloc (.cells cs.toArray t)):Hid (ZP W (w.heap.size+2) t cs):=hid (by rw [e];simpa using ZP.new ((w.alloc o).alloc d) t cs)
theorem bP {W w:World}{o:Obj}(e:W=w.alloc o):Hid (Below w.heap.size w W):=hid (by rw [e];exact(Below.refl _ _).alloc (Nat.le_refl _) _)
theorem bQ {W w:World}{o d:Obj}(e:W=(w.alloc o).alloc d):Hid (Below w.heap.size w W):=hid (by rw [e];exact((Below.refl _ _).alloc (Nat.le_refl _) _).alloc (by simp) _)
theorem bR {W w:World}{o h d:Obj}(e:W=((w.alloc o).alloc h).alloc d):Hid (Below w.heap.size w W):=hid (by rw [e];exact(((Below.refl _ _).alloc (Nat.le_refl _) _).alloc (by simp) _).alloc (by simp;omega) _)
theorem iN (t n:Nat)(h:(prog.info? t).map (·.size)=some n:=by kernel_rfl):Hid ((prog.info? t).map (·.size)=some n):=hid h
theorem br {n:Nat}{w:World} :Below n w w:=Below.refl _ _
theorem lr {n:Nat} :n<=n:=Nat.le_refl _
section
variable {P : Program} {ops : Array Oper} {rest : List Oper} {op : Oper} {a : Act} {w : World} {Q : Exit -> Act -> World -> Prop}
theorem lO {j:TypeId}{x:Operand}{b:Nat}{t:TypeId}{cs:List Value}{n:Nat}{d:TypeDesc}(s:Hid (ZP w b t cs))(u:Hid ((P.info? j).map (·.size)=some n))(E:P.underlying j=some d)
  (h:wpList P ops Q rest (a.put op.dst (.agg cs.toArray)) w) (m:op.guard=none:=by exact rfl) (D:op.op= .load j x:=by exact rfl) (F:a.eval x= .pointer (some ⟨b,0,none⟩):=by exact rfl) (C:cs.length=n:=by exact rfl) (hd:d.isRow=true:=by exact rfl):wpList P ops Q (op ::rest) a w:=
 Zs m j x D b F s C E hd u h
theorem sO {d:TypeId}{x y:Operand}{b:Nat}{cs:List Value}{t:TypeId}{j:List Value}{n:Nat}(C:Hid (ZP w b t j))(D:Hid ((P.info? d).map (·.size)=some n))
  (h: ∀ w',Hid (Up w w' b t cs)->wpList P ops Q rest (a.put op.dst undef) w') (m:op.guard=none:=by exact rfl) (F:op.op= .store d x y:=by exact rfl) (G:a.eval x= .pointer (some ⟨b,0,none⟩):=by exact rfl) (I:a.eval y= .agg cs.toArray:=by exact rfl)
  (s:j.length=n:=by exact rfl) (E:cs.length=n:=by exact rfl) (u: ∀ v∈cs,v.oneCell'=true:=by simp [Value.oneCell']):wpList P ops Q (op ::rest) a w:=
 Zv m d x y F b cs G I C s E D u h
theorem rS {P:Program}{m:Func}{t:Tmp}{j:TypeId}{tmps:Array Value}{w:World}{b:Nat}{t':TypeId}{cs:List Value}{n:Nat}{d:TypeDesc}(s:Hid (ZP w b t' cs))(D:P.underlying j=some d)(u:Hid ((P.info? j).map (·.size)=some n))
  (h:m.results= #[.cell t j]:=by exact rfl) (hb:tmps.getD t undef= .pointer (some ⟨b,0,none⟩):=by exact rfl) (C:cs.length=n:=by exact rfl) (hd:d.isRow=true:=by exact rfl):(results m tmps).run P w= .ok (.agg cs.toArray) w:=
 Tz h tmps w b hb s C D hd u
end
end Go.Proofs.YtnhmoibjlakhjaaGreat
