/- Lemmas of the proof. No condition but each theorem's own. -/
import Derived.Test.YtnhmoibjlakhjaaGreatR02
import Derived.Test.YtnhmoibjlakhjaaGreatR01
import Derived.Deep.MidRow
set_option linter.unusedVariables false
set_option linter.unusedSimpArgs false
namespace Go.Proofs.YtnhmoibjlakhjaaGreat
set_option maxRecDepth 100000
set_option maxHeartbeats 16000000
open Go.RowKit
def Zc (w:World)(k:Nat)(t:TypeId):Prop:= ∃ cs fr,w.heap[k]?=some (.cells cs t fr)
theorem Zc.lt {w:World}{k:Nat}{t:TypeId}(h:Zc w k t):k<w.heap.size:=by
 obtain⟨cs,fr,h⟩:=h;exact(Array.getElem?_eq_some_iff.1 h).1
theorem Zc.same {w:World}{k:Nat}{t t':TypeId}(h:Zc w k t)(h':Zc w k t'):t=t':=by
 obtain⟨cs,fr,h⟩:=h;obtain⟨cs',fr',h'⟩:=h';rw [h] at h';injection h' with h'
 injection h'
theorem Zc.Tt {w w':World}{k:Nat}{t:TypeId}(h:Zc w k t)(he:w'.heap[k]?=w.heap[k]?):Zc w' k t:=by
 obtain⟨cs,fr,h⟩:=h;exact⟨cs,fr,he.trans h⟩
theorem Zc.setCell {w:World}{k:Nat}{t:TypeId}(h:Zc w k t)(p:Addr)(u:Value):Zc (w.setCell p u) k t:=by
 obtain⟨cs,fr,h⟩:=h;by_cases e:k=p.block
 ·subst e;refine⟨if p.spot.isSome then cs else cs.setIfInBounds p.off u,fr,?_⟩
  simp only [World.setCell,Array.getElem?_modify,h]
  cases p.spot <;> simp
 ·exact⟨cs,fr,(Below.heap_setCell w p u k e).trans h⟩
theorem ZP.Xr {w:World}{g:Nat}{t:TypeId}{cs:List Value}(h:ZP w g t cs):Zc w g t:=⟨_,_,h⟩
structure ZR (ts:List TypeId) (w w':World):Prop where
 size:w.heap.size≤w'.heap.size
 block: ∀ k t,Zc w k t→t∉ts→w'.heap[k]?=w.heap[k]?
section
variable {ts : List TypeId} {w w' w'' : World}
theorem ZR.refl (ts:List TypeId)(w:World):ZR ts w w:=⟨Nat.le_refl _,fun _ _ _ _=>rfl⟩
theorem ZR.Xr (h:ZR ts w w'){k:Nat}{t:TypeId}(ht:Zc w k t)(hn:t∉ts):Zc w' k t:=by
 obtain⟨cs,fr,e⟩:=ht;exact⟨cs,fr,(h.block k t ⟨cs,fr,e⟩ hn).trans e⟩
theorem ZR.trans (h:ZR ts w w')(g:ZR ts w' w''):ZR ts w w'':=
 ⟨Nat.le_trans h.size g.size,fun k t ht hn=>(g.block k t (h.Xr ht hn) hn).trans (h.block k t ht hn)⟩
theorem ZR.Ya {ts':List TypeId}(h:ZR ts w w')(hs: ∀ t,t∈ts→t∈ts'):ZR ts' w w':=
 ⟨h.size,fun k t ht hn=>h.block k t ht fun hm=>hn (hs t hm)⟩
theorem ZR.Zp {n:Nat}(h:Below n w w')(hn:w.heap.size≤n):ZR ts w w':=
 ⟨by have:=h.size;omega,fun k t ht _=>h.block k (by have:=ht.lt;omega)⟩
theorem ZR.alloc (w:World)(o:Obj):ZR ts w (w.alloc o):=
 ZR.Zp ((Below.refl _ _).alloc (Nat.le_refl _) o) (Nat.le_refl _)
theorem ZR.drew (w:World):ZR ts w w.drew:=⟨Nat.le_refl _,fun _ _ _ _=>rfl⟩
theorem ZR.Zx {g i:Nat}{t:TypeId}(hg:Zc w g t)(ht:t∈ts)(u:Value):ZR ts w (w.setCell ⟨g,i,none⟩ u):=by
 refine⟨by simp [World.setCell],fun k t' hk hn=> ?_⟩
 refine Below.heap_setCell w ⟨g,i,none⟩ u k fun e=> ?_
 subst e;exact hn ((hk.same hg)▸ht)
theorem YC {base:Nat}{e:TypeId}{size n:Nat}{v:Value}{xs:List Value}(h:w.ownsRow base e size v n xs){k:Nat}(hk:v.ownBlock=some k):Zc w k e:=by
 rcases h.2 with ⟨rfl,_⟩ | ⟨g,cap,cur,rfl,_,hg,_⟩
 ·simp [Value.ownBlock] at hk
 ·simp [Value.ownBlock] at hk;subst hk;exact⟨_,_,hg⟩
theorem ZR.grown {base:Nat}{e:TypeId}{size n:Nat}{v:Value}{xs:List Value}(h:w.ownsRow base e size v n xs)(hg:w.grownBy w' v.ownBlock)(he:e∈ts)(hs:w.heap.size≤w'.heap.size):ZR ts w w':=by
 refine⟨hs,fun k t hk hn=>hg.block k hk.lt fun e'=> ?_⟩
 exact hn ((hk.same (YC h e'.symm))▸he)
theorem ZP.keeps {g:Nat}{t:TypeId}{cs:List Value}(h:ZP w g t cs)(hk:ZR ts w w')(hn:t∉ts):ZP w' g t cs:=(hk.block g t h.Xr hn).trans h
theorem _root_.Go.World.ownsRow.keeps {base:Nat}{e:TypeId}{size n:Nat}{v:Value}{xs:List Value}(h:w.ownsRow base e size v n xs)(hk:ZR ts w w')(hn:e∉ts):w'.ownsRow base e size v n xs:=by
 refine⟨h.1,?_⟩
 rcases h.2 with hn' | ⟨g,cap,cur,rfl,hbg,hg,rest⟩
 ·exact .inl hn'
 ·exact .inr ⟨g,cap,cur,rfl,hbg,by rw [hk.block g e ⟨_,_,hg⟩ hn];exact hg,rest⟩
end
theorem YH (ad:Addr)(k i:Nat)(h:0<i):ad.add (k+i)=⟨(ad.add k).block,(ad.add k).off+i,none⟩:=by
 rw [←ZG];generalize ad.add k=x;unfold Addr.add;rw [if_neg (by omega)]
theorem ZP.YQ {w:World}{g:Nat}{t:TypeId}{cs:List Value}(h:ZP w g t cs):w.rangeAt g 0 cs:=fun j v hv=>by
 rw [Nat.zero_add];exact(h.cell j).trans hv
theorem ZP.range {w:World}{g:Nat}{t:TypeId}{cs0:List Value}(h:ZP w g t cs0)(o:Nat)(cs:List Value)(he:(cs0.drop o).take cs.length=cs):w.rangeAt g o cs:=fun j v hv=>by
 rw [←he,List.getElem?_take] at hv;split at hv
 ·rw [List.getElem?_drop] at hv;exact(h.cell (o+j)).trans hv
 ·cases hv
theorem TP {P:Program}{f:FuncId}{args:Array Value}{Q:Ending→World→Prop}(w wX:World)(h:Below w.heap.size w wX)(k:Below w.heap.size w wX→Calls P f args wX Q):Calls P f args wX Q:=k h
mutual
def YK (w:World)(S:Nat→Prop):Sh→Da→Value→Prop
 | .num,.int n,v=>v= .int .i64 n
 | .YF,.int n,v=>v= .int .i64 n∧ -9223372036854775808≤n∧n≤9223372036854775807
 | .Z9,.Z9 b,v=>v= .string (Z9 b)
 | .YY,.YY b,v=>v= .bool b
 | .rows l,.rows ds,v=> ∃ A c,v= .slice A ds.length c∧(0<ds.length→ ∃ ad,A=some ad∧S ad.block∧
   ∀ (j:Nat) (d:List Da),ds[j]?=some d→ ∃ vs,ZH w S l d vs∧ ∀ (i:Nat) (u:Value),vs[i]?=some u→w.cell? (ad.add (j*l.length+i))=some u)
 | _,_,_=>False
def ZH (w:World)(S:Nat→Prop):List Sh→List Da→List Value→Prop
 | [],[],vs=>vs= []
 | a ::l,d ::ds,vs=> ∃ v vs',vs=v ::vs'∧YK w S a d v∧ZH w S l ds vs'
 | _,_,_=>False
end
section
variable {w w' : World} {S S' : Nat → Prop}
mutual
theorem YK.Y6 (hs: ∀ k,S k→S' k)(hc: ∀ p:Addr,S p.block→w'.cell? p=w.cell? p): ∀ (a:Sh)(d:Da)(v:Value),YK w S a d v→YK w' S' a d v
 | .num,.int n,v,h=>by simpa only [YK] using h
 | .YF,.int n,v,h=>by simpa only [YK] using h
 | .Z9,.Z9 b,v,h=>by simpa only [YK] using h
 | .YY,.YY b,v,h=>by simpa only [YK] using h
 | .rows l,.rows ds,v,h=>by
  simp only [YK] at h ⊢;obtain⟨A,c,hv,h⟩:=h;refine⟨A,c,hv,fun hn=> ?_⟩
  obtain⟨ad,hA,hS,h⟩:=h hn;refine⟨ad,hA,hs _ hS,fun j d hd=> ?_⟩
  obtain⟨vs,h1,h2⟩:=h j d hd;exact⟨vs,ZH.Y6 hs hc l d vs h1,fun i u hu=>(hc _ (by rw [Zs];exact hS)).trans (h2 i u hu)⟩
 | .num,.Z9 _,v,h=>by simp only [YK] at h
 | .num,.YY _,v,h=>by simp only [YK] at h
 | .num,.rows _,v,h=>by simp only [YK] at h
 | .YF,.Z9 _,v,h=>by simp only [YK] at h
 | .YF,.YY _,v,h=>by simp only [YK] at h
 | .YF,.rows _,v,h=>by simp only [YK] at h
 | .Z9,.int _,v,h=>by simp only [YK] at h
 | .Z9,.YY _,v,h=>by simp only [YK] at h
 | .Z9,.rows _,v,h=>by simp only [YK] at h
 | .YY,.int _,v,h=>by simp only [YK] at h
 | .YY,.Z9 _,v,h=>by simp only [YK] at h
 | .YY,.rows _,v,h=>by simp only [YK] at h
 | .rows _,.int _,v,h=>by simp only [YK] at h
 | .rows _,.Z9 _,v,h=>by simp only [YK] at h
 | .rows _,.YY _,v,h=>by simp only [YK] at h
theorem ZH.Y6 (hs: ∀ k,S k→S' k)(hc: ∀ p:Addr,S p.block→w'.cell? p=w.cell? p): ∀ (l:List Sh)(ds:List Da)(vs:List Value),ZH w S l ds vs→ZH w' S' l ds vs
 | [],[],vs,h=>by simpa only [ZH] using h
 | a ::l,d ::ds,vs,h=>by
  simp only [ZH] at h ⊢;obtain⟨v,vs',e,h1,h2⟩:=h;exact⟨v,vs',e,YK.Y6 hs hc a d v h1,ZH.Y6 hs hc l ds vs' h2⟩
 | [],_ ::_,vs,h=>by simp only [ZH] at h
 | _ ::_,[],vs,h=>by simp only [ZH] at h
end
theorem ZH.cons {a:Sh}{l:List Sh}{ds:List Da}{vs:List Value}(h:ZH w S (a ::l) ds vs): ∃ d ds' v vs',ds=d ::ds'∧vs=v ::vs'∧YK w S a d v∧ZH w S l ds' vs':=by
 cases ds with
 | nil=>simp only [ZH] at h
 | cons d ds=>
  simp only [ZH] at h;obtain⟨v,vs',e,h1,h2⟩:=h;exact⟨d,ds,v,vs',rfl,e,h1,h2⟩
theorem ZH.nil {ds:List Da}{vs:List Value}(h:ZH w S [] ds vs):ds= []∧vs= []:=by
 cases ds with
 | nil=>exact⟨rfl,by simpa only [ZH] using h⟩
 | cons d ds=>simp only [ZH] at h
theorem ZH.mk {a:Sh}{l:List Sh}{d:Da}{ds:List Da}{v:Value}{vs:List Value}(h:YK w S a d v)(hs:ZH w S l ds vs):ZH w S (a ::l) (d ::ds) (v ::vs):=by
 simp only [ZH];exact⟨v,vs,rfl,h,hs⟩
theorem ZH.JB:ZH w S [] [] []:=by simp only [ZH]
theorem ZH.one {a:Sh}{d:Da}{v:Value}(h:YK w S a d v):ZH w S [a] [d] [v]:=ZH.mk h ZH.JB
theorem ZH.len: ∀ {l:List Sh}{ds:List Da}{vs:List Value},ZH w S l ds vs→ds.length=l.length∧vs.length=l.length
 | [],ds,vs,h=>by
  obtain⟨rfl,rfl⟩:=h.nil;exact⟨rfl,rfl⟩
 | a ::l,ds,vs,h=>by
  obtain⟨d,ds',v,vs',rfl,rfl,_,h⟩:=h.cons;have:=h.len;simp [this.1,this.2]
theorem ZH.split: ∀ {l l':List Sh}{ds:List Da}{vs:List Value},ZH w S (l ++l') ds vs→ ∃ d1 d2 v1 v2,ds=d1 ++d2∧vs=v1 ++v2∧ZH w S l d1 v1∧ZH w S l' d2 v2
 | [],l',ds,vs,h=>⟨[],ds,[],vs,rfl,rfl,ZH.JB,h⟩
 | a ::l,l',ds,vs,h=>by
  obtain⟨d,ds',v,vs',rfl,rfl,h1,h2⟩:=ZH.cons (l:=l ++l') h;obtain⟨d1,d2,v1,v2,rfl,rfl,h3,h4⟩:=ZH.split h2;exact⟨d ::d1,d2,v ::v1,v2,rfl,rfl,ZH.mk h1 h3,h4⟩
theorem ZH.join: ∀ {l l':List Sh}{d1 d2:List Da}{v1 v2:List Value},ZH w S l d1 v1→ZH w S l' d2 v2→ZH w S (l ++l') (d1 ++d2) (v1 ++v2)
 | [],l',d1,d2,v1,v2,h,h'=>by
  obtain⟨rfl,rfl⟩:=h.nil;exact h'
 | a ::l,l',d1,d2,v1,v2,h,h'=>by
  obtain⟨d,ds',v,vs',rfl,rfl,h1,h2⟩:=h.cons;exact ZH.mk h1 (h2.join h')
theorem YK.num {d:Da}{v:Value}(h:YK w S .num d v): ∃ n,d= .int n∧v= .int .i64 n:=by
 cases d <;> simp only [YK] at h
 exact⟨_,rfl,h⟩
theorem YK.YF {d:Da}{v:Value}(h:YK w S .YF d v): ∃ n,d= .int n∧v= .int .i64 n∧ -9223372036854775808≤n∧n≤9223372036854775807:=by
 cases d <;> simp only [YK] at h
 exact⟨_,rfl,h⟩
theorem YK.T0 {d:Da}{v:Value}(h:YK w S .Z9 d v): ∃ b,d= .Z9 b∧v= .string (Z9 b):=by
 cases d <;> simp only [YK] at h
 exact⟨_,rfl,h⟩
theorem YK.YY {d:Da}{v:Value}(h:YK w S .YY d v): ∃ b,d= .YY b∧v= .bool b:=by
 cases d <;> simp only [YK] at h
 exact⟨_,rfl,h⟩
def ZV (w:World)(S:Nat→Prop)(l:List Sh)(ds:List (List Da))(A:Option Addr):Prop:=
 0<ds.length→ ∃ ad,A=some ad∧S ad.block∧ ∀ (j:Nat) (d:List Da),ds[j]?=some d→ ∃ vs,ZH w S l d vs∧ ∀ (i:Nat) (u:Value),vs[i]?=some u→w.cell? (ad.add (j*l.length+i))=some u
theorem YK.rows {l:List Sh}{d:Da}{v:Value}(h:YK w S (.rows l) d v): ∃ ds A c,d= .rows ds∧v= .slice A ds.length c∧ZV w S l ds A:=by
 cases d <;> simp only [YK] at h
 obtain⟨A,c,hv,h⟩:=h;exact⟨_,A,c,rfl,hv,h⟩
theorem YK.WJ {l:List Sh}{ds:List (List Da)}{A:Option Addr}(c:Nat)(h:ZV w S l ds A):YK w S (.rows l) (.rows ds) (.slice A ds.length c):=by
 simp only [YK];exact⟨A,c,rfl,h⟩
theorem YK.Xq (n:Int):YK w S .num (.int n) (.int .i64 n):=by simp only [YK]
theorem YK.UU {n:Int}(h: -9223372036854775808≤n∧n≤9223372036854775807):YK w S .YF (.int n) (.int .i64 n):=by simp only [YK];exact⟨trivial,h⟩
theorem YK.YZ (b:List UInt8):YK w S .Z9 (.Z9 b) (.string (Z9 b)):=by simp only [YK]
theorem YK.Pz (b:Bool):YK w S .YY (.YY b) (.bool b):=by simp only [YK]
theorem ZV.nil {l:List Sh}{A:Option Addr} :ZV w S l [] A:=fun h=>absurd h (by simp)
theorem ZV.Y6 {l:List Sh}{ds:List (List Da)}{A:Option Addr}(h:ZV w S l ds A)(hs: ∀ k,S k→S' k)(hc: ∀ p:Addr,S p.block→w'.cell? p=w.cell? p):ZV w' S' l ds A:=fun hn=>by
 obtain⟨ad,e,hS,h⟩:=h hn;refine⟨ad,e,hs _ hS,fun j d hd=> ?_⟩
 obtain⟨vs,h1,h2⟩:=h j d hd;exact⟨vs,ZH.Y6 hs hc l d vs h1,fun i u hu=>(hc _ (by rw [Zs];exact hS)).trans (h2 i u hu)⟩
theorem ZV.at_ {l:List Sh}{ds:List (List Da)}{A:Option Addr}(h:ZV w S l ds A){j:Nat}(hj:j<ds.length):
  ∃ ad vs,A=some ad∧ZH w S l ds[j] vs∧ ∀ (i:Nat) (u:Value),vs[i]?=some u→w.cell? (ad.add (j*l.length+i))=some u:=by
 obtain⟨ad,e,_,h⟩:=h (by omega);obtain⟨vs,h1,h2⟩:=h j ds[j] (List.getElem?_eq_getElem hj);exact⟨ad,vs,e,h1,h2⟩
theorem ZV.block {l:List Sh}{ds:List (List Da)}{ad:Addr}(h:ZV w S l ds (some ad))(hn:0<ds.length):S ad.block:=by
 obtain⟨ad',e,hS,_⟩:=h hn;injection e with e
 exact e▸hS
end
theorem YK.below {w w':World}{B:Nat}{a:Sh}{d:Da}{v:Value}(h:YK w (· < B) a d v)(hb:Below B w w'):YK w' (· < B) a d v:=YK.Y6 (fun _ h=>h) (fun _ hp=>hb.cell hp) a d v h
theorem ZH.below {w w':World}{B:Nat}{l:List Sh}{ds:List Da}{vs:List Value}(h:ZH w (· < B) l ds vs)(hb:Below B w w'):ZH w' (· < B) l ds vs:=ZH.Y6 (fun _ h=>h) (fun _ hp=>hb.cell hp) l ds vs h
theorem ZV.below {w w':World}{B:Nat}{l:List Sh}{ds:List (List Da)}{A:Option Addr}(h:ZV w (· < B) l ds A)(hb:Below B w w'):ZV w' (· < B) l ds A:=h.Y6 (fun _ h=>h) (fun _ hp=>hb.cell hp)
theorem ZH.Ya {w:World}{B B':Nat}{l:List Sh}{ds:List Da}{vs:List Value}(h:ZH w (· < B) l ds vs)(hb:B≤B'):ZH w (· < B') l ds vs:=ZH.Y6 (fun _ h=>Nat.lt_of_lt_of_le h hb) (fun _ _=>rfl) l ds vs h
def Xn (w:World)(ts:List TypeId):Nat→Prop:=fun k=> ∃ t,t∈ts∧Zc w k t
theorem ZR.cell {ts us:List TypeId}{w w':World}(h:ZR ts w w')(hd: ∀ t,t∈us→t∉ts){p:Addr}(hp:Xn w us p.block):w'.cell? p=w.cell? p:=by
 obtain⟨t,ht,hp⟩:=hp;exact World.cell?_of_block (h.block p.block t hp (hd t ht))
theorem ZR.Sz {ts us:List TypeId}{w w':World}(h:ZR ts w w')(hd: ∀ t,t∈us→t∉ts)(k:Nat)(hp:Xn w us k):Xn w' us k:=by
 obtain⟨t,ht,hp⟩:=hp;exact⟨t,ht,h.Xr hp (hd t ht)⟩
theorem YK.keeps {ts us:List TypeId}{w w':World}{a:Sh}{d:Da}{v:Value}(h:YK w (Xn w us) a d v)(hk:ZR ts w w')(hd: ∀ t,t∈us→t∉ts):YK w' (Xn w' us) a d v:=YK.Y6 (hk.Sz hd) (fun _ hp=>hk.cell hd hp) a d v h
theorem ZH.keeps {ts us:List TypeId}{w w':World}{l:List Sh}{ds:List Da}{vs:List Value}(h:ZH w (Xn w us) l ds vs)(hk:ZR ts w w')(hd: ∀ t,t∈us→t∉ts):ZH w' (Xn w' us) l ds vs:=ZH.Y6 (hk.Sz hd) (fun _ hp=>hk.cell hd hp) l ds vs h
theorem YK.Lv {us us':List TypeId}{w:World}{a:Sh}{d:Da}{v:Value}(h:YK w (Xn w us) a d v)(hd: ∀ t,t∈us→t∈us'):YK w (Xn w us') a d v:=YK.Y6 (fun _ ⟨t,ht,hp⟩=>⟨t,hd t ht,hp⟩) (fun _ _=>rfl) a d v h
theorem ZH.Lv {us us':List TypeId}{w:World}{l:List Sh}{ds:List Da}{vs:List Value}(h:ZH w (Xn w us) l ds vs)(hd: ∀ t,t∈us→t∈us'):ZH w (Xn w us') l ds vs:=ZH.Y6 (fun _ ⟨t,ht,hp⟩=>⟨t,hd t ht,hp⟩) (fun _ _=>rfl) l ds vs h
theorem ce {w:World}{g:Nat}{t:TypeId}{cs:List Value}(h:Hid (ZP w g t cs))(i:Nat){v:Value}(hv:cs[i]?=some v:=by rfl):w.cell? ⟨g,i,none⟩=some v:=(h.out.cell i).trans hv
theorem cd {w:World}{g:Nat}{t:TypeId}{cs:List Value}(h:ZP w g t cs)(i:Nat){v:Value}(hv:cs[i]?=some v:=by rfl):w.cell? ⟨g,i,none⟩=some v:=(h.cell i).trans hv
theorem cb {w w':World}{g:Nat}{t:TypeId}{cs:List Value}(h:Hid (ZP w g t cs))(hb:Below w.heap.size w w')(i:Nat){v:Value}(hv:cs[i]?=some v:=by rfl):w'.cell? ⟨g,i,none⟩=some v:=((h.out.below hb h.out.lt).cell i).trans hv
theorem ct {w w':World}{n:Nat}{p:Addr}{v:Option Value}(ha:w.cell? p=v)(h:Below n w w')(hz:p.block<n):w'.cell? p=v:=(h.cell hz).trans ha
theorem ef {w:World}{ad:Addr}{m:Nat}{vs:List Value}(hr: ∀ (i:Nat)(u:Value),vs[i]?=some u→w.cell? (ad.add (m+i))=some u)(i:Nat){v:Value}(hv:vs[i]?=some v:=by rfl)(h0:0<i:=by decide):w.cell? ⟨(ad.add m).block,(ad.add m).off+i,none⟩=some v:=by
 rw [←YH ad m i h0];exact hr i v hv
theorem e0 {w:World}{ad:Addr}{m:Nat}{vs:List Value}(hr: ∀ (i:Nat)(u:Value),vs[i]?=some u→w.cell? (ad.add (m+i))=some u){v:Value}(hv:vs[0]?=some v:=by rfl):w.cell? (ad.add m)=some v:=by
 have:=hr 0 v hv;rwa [Nat.add_zero] at this
end Go.Proofs.YtnhmoibjlakhjaaGreat
