/- Lemmas, each under its own conditions. -/
import Derived.Test.YtnhmoibjlakhjaaGreatW02
import Derived.Deep.MidRow
set_option linter.all false
namespace Go.Proofs.YtnhmoibjlakhjaaGreat
set_option maxRecDepth 100000
set_option maxHeartbeats 16000000
open Go.RowKit
def Za (w:World)(k:Nat)(t:TypeId):Prop:= ∃ cs fr,w.heap[k]?=some (.cells cs t fr)
theorem Za.lt {w:World}{k:Nat}{t:TypeId}(h:Za w k t):k<w.heap.size:=by
 obtain⟨cs,d,h⟩:=h;exact(Array.getElem?_eq_some_iff.1 h).1
theorem Za.same {w:World}{k:Nat}{t t':TypeId}(h:Za w k t)(d:Za w k t'):t=t':=by
 obtain⟨cs,s,h⟩:=h;obtain⟨j,m,d⟩:=d;rw [h] at d;injection d with d
 injection d
theorem Za.RN {w w':World}{k:Nat}{t:TypeId}(h:Za w k t)(j:w'.heap[k]?=w.heap[k]?):Za w' k t:=by
 obtain⟨cs,d,h⟩:=h;exact⟨cs,d,j.trans h⟩
theorem Za.setCell {w:World}{k:Nat}{t:TypeId}(h:Za w k t)(p:Addr)(u:Value):Za (w.setCell p u) k t:=by
 obtain⟨cs,d,h⟩:=h;by_cases e:k=p.block
 ·subst e;refine⟨if p.spot.isSome then cs else cs.setIfInBounds p.off u,d,?_⟩
  simp only [World.setCell,Array.getElem?_modify,h]
  cases p.spot <;> simp
 ·exact⟨cs,d,(Below.heap_setCell w p u k e).trans h⟩
theorem ZP.Xr {w:World}{g:Nat}{t:TypeId}{cs:List Value}(h:ZP w g t cs):Za w g t:=⟨_,_,h⟩
structure ZS (ts:List TypeId) (w w':World):Prop where
 size:w.heap.size<=w'.heap.size
 block: ∀ k t,Za w k t->t∉ts->w'.heap[k]?=w.heap[k]?
section
variable {ts : List TypeId} {w w' w'' : World}
theorem ZS.refl (ts:List TypeId)(w:World):ZS ts w w:=⟨Nat.le_refl _,fun _ _ _ _=>rfl⟩
theorem ZS.Xr (h:ZS ts w w'){k:Nat}{t:TypeId}(m:Za w k t)(j:t∉ts):Za w' k t:=by
 obtain⟨cs,d,e⟩:=m;exact⟨cs,d,(h.block k t ⟨cs,d,e⟩ j).trans e⟩
theorem ZS.trans (h:ZS ts w w')(g:ZS ts w' w''):ZS ts w w'':=
 ⟨Nat.le_trans h.size g.size,fun k t j d=>(g.block k t (h.Xr j d) d).trans (h.block k t j d)⟩
theorem ZS.X6 {ts':List TypeId}(h:ZS ts w w')(m: ∀ t,t∈ts->t∈ts'):ZS ts' w w':=
 ⟨h.size,fun k t s j=>h.block k t s fun d=>j (m t d)⟩
theorem ZS.ZA {n:Nat}(h:Below n w w')(j:w.heap.size<=n):ZS ts w w':=
 ⟨by have:=h.size;omega,fun k t d _=>h.block k (by have:=d.lt;omega)⟩
theorem ZS.alloc (w:World)(o:Obj):ZS ts w (w.alloc o):=
 ZS.ZA ((Below.refl _ _).alloc (Nat.le_refl _) o) (Nat.le_refl _)
theorem ZS.drew (w:World):ZS ts w w.drew:=⟨Nat.le_refl _,fun _ _ _ _=>rfl⟩
theorem ZS.Zx {g i:Nat}{t:TypeId}(d:Za w g t)(m:t∈ts)(u:Value):ZS ts w (w.setCell ⟨g,i,none⟩ u):=by
 refine⟨by simp [World.setCell],fun k t' h j=> ?_⟩
 refine Below.heap_setCell w ⟨g,i,none⟩ u k fun e=> ?_
 subst e;exact j ((h.same d)▸m)
theorem Yx {base:Nat}{e:TypeId}{size n:Nat}{v:Value}{xs:List Value}(h:w.ownsRow base e size v n xs){k:Nat}(d:v.ownBlock=some k):Za w k e:=by
 rcases h.2 with ⟨rfl,_⟩ | ⟨g,cap,m,rfl,_,j,_⟩
 ·simp [Value.ownBlock] at d
 ·simp [Value.ownBlock] at d;subst d;exact⟨_,_,j⟩
theorem ZS.grown {base:Nat}{e:TypeId}{size n:Nat}{v:Value}{xs:List Value}(h:w.ownsRow base e size v n xs)(s:w.grownBy w' v.ownBlock)(m:e∈ts)(C:w.heap.size<=w'.heap.size):ZS ts w w':=by
 refine⟨C,fun k t d u=>s.block k d.lt fun j=> ?_⟩
 exact u ((d.same (Yx h j.symm))▸m)
theorem ZP.keeps {g:Nat}{t:TypeId}{cs:List Value}(h:ZP w g t cs)(d:ZS ts w w')(j:t∉ts):ZP w' g t cs:=(d.block g t h.Xr j).trans h
theorem _root_.Go.World.ownsRow.keeps {base:Nat}{e:TypeId}{size n:Nat}{v:Value}{xs:List Value}(h:w.ownsRow base e size v n xs)(u:ZS ts w w')(C:e∉ts):w'.ownsRow base e size v n xs:=by
 refine⟨h.1,?_⟩
 rcases h.2 with s | ⟨g,cap,j,rfl,m,d,rest⟩
 ·exact .inl s
 ·exact .inr ⟨g,cap,j,rfl,m,by rw [u.block g e ⟨_,_,d⟩ C];exact d,rest⟩
end
theorem Yr (d:Addr)(k i:Nat)(h:0<i):d.add (k+i)=⟨(d.add k).block,(d.add k).off+i,none⟩:=by
 rw [<-ZG];generalize d.add k=x;unfold Addr.add;rw [if_neg (by omega)]
theorem ZP.Yz {w:World}{g:Nat}{t:TypeId}{cs:List Value}(h:ZP w g t cs):w.rangeAt g 0 cs:=fun j v d=>by
 rw [Nat.zero_add];exact(h.cell j).trans d
theorem ZP.range {w:World}{g:Nat}{t:TypeId}{m:List Value}(h:ZP w g t m)(o:Nat)(cs:List Value)(s:(m.drop o).take cs.length=cs):w.rangeAt g o cs:=fun j v d=>by
 rw [<-s,List.getElem?_take] at d;split at d
 ·rw [List.getElem?_drop] at d;exact(h.cell (o+j)).trans d
 ·cases d
theorem TS {P:Program}{f:FuncId}{args:Array Value}{Q:Ending->World->Prop}(w d:World)(h:Below w.heap.size w d)(k:Below w.heap.size w d->Calls P f args d Q):Calls P f args d Q:=k h
mutual
def Yv (w:World)(S:Nat->Prop):Sh->Da->Value->Prop
 | .num,.int n,v=>v= .int .i64 n
 | .Yo,.int n,v=>v= .int .i64 n/\ -9223372036854775808<=n/\n<=9223372036854775807
 | .Z2,.Z2 b,v=>v= .string (Z2 b)
 | .YD,.YD b,v=>v= .bool b
 | .rows l,.rows ds,v=> ∃ A c,v= .slice A ds.length c/\(0<ds.length-> ∃ ad,A=some ad/\S ad.block/\
   ∀ (j:Nat) (d:List Da),ds[j]?=some d-> ∃ vs,ZE w S l d vs/\ ∀ (i:Nat) (u:Value),vs[i]?=some u->w.cell? (ad.add (j*l.length+i))=some u)
 | _,_,_=>False
def ZE (w:World)(S:Nat->Prop):List Sh->List Da->List Value->Prop
 | [],[],vs=>vs= []
 | a ::l,d ::ds,vs=> ∃ v vs',vs=v ::vs'/\Yv w S a d v/\ZE w S l ds vs'
 | _,_,_=>False
end
section
variable {w w' : World} {S S' : Nat -> Prop}
mutual
theorem Yv.YW (C: ∀ k,S k->S' k)(s: ∀ p:Addr,S p.block->w'.cell? p=w.cell? p): ∀ (a:Sh)(d:Da)(v:Value),Yv w S a d v->Yv w' S' a d v
 | .num,.int n,v,h=>by simpa only [Yv] using h
 | .Yo,.int n,v,h=>by simpa only [Yv] using h
 | .Z2,.Z2 b,v,h=>by simpa only [Yv] using h
 | .YD,.YD b,v,h=>by simpa only [Yv] using h
 | .rows l,.rows ds,v,h=>by
  simp only [Yv] at h ⊢;obtain⟨A,c,L,h⟩:=h;refine⟨A,c,L,fun J=> ?_⟩
  obtain⟨E,I,m,h⟩:=h J;refine⟨E,I,C _ m,fun j d hd=> ?_⟩
  obtain⟨D,F,G⟩:=h j d hd;exact⟨D,ZE.YW C s l d D F,fun i u K=>(s _ (by rw [ZL];exact m)).trans (G i u K)⟩
 | .num,.Z2 _,v,h=>by simp only [Yv] at h
 | .num,.YD _,v,h=>by simp only [Yv] at h
 | .num,.rows _,v,h=>by simp only [Yv] at h
 | .Yo,.Z2 _,v,h=>by simp only [Yv] at h
 | .Yo,.YD _,v,h=>by simp only [Yv] at h
 | .Yo,.rows _,v,h=>by simp only [Yv] at h
 | .Z2,.int _,v,h=>by simp only [Yv] at h
 | .Z2,.YD _,v,h=>by simp only [Yv] at h
 | .Z2,.rows _,v,h=>by simp only [Yv] at h
 | .YD,.int _,v,h=>by simp only [Yv] at h
 | .YD,.Z2 _,v,h=>by simp only [Yv] at h
 | .YD,.rows _,v,h=>by simp only [Yv] at h
 | .rows _,.int _,v,h=>by simp only [Yv] at h
 | .rows _,.Z2 _,v,h=>by simp only [Yv] at h
 | .rows _,.YD _,v,h=>by simp only [Yv] at h
theorem ZE.YW (u: ∀ k,S k->S' k)(s: ∀ p:Addr,S p.block->w'.cell? p=w.cell? p): ∀ (l:List Sh)(ds:List Da)(j:List Value),ZE w S l ds j->ZE w' S' l ds j
 | [],[],j,h=>by simpa only [ZE] using h
 | a ::l,d ::ds,j,h=>by
  simp only [ZE] at h ⊢;obtain⟨v,m,e,C,D⟩:=h;exact⟨v,m,e,Yv.YW u s a d v C,ZE.YW u s l ds m D⟩
 | [],_ ::_,j,h=>by simp only [ZE] at h
 | _ ::_,[],j,h=>by simp only [ZE] at h
end
theorem ZE.cons {a:Sh}{l:List Sh}{ds:List Da}{s:List Value}(h:ZE w S (a ::l) ds s): ∃ d m v j,ds=d ::m/\s=v ::j/\Yv w S a d v/\ZE w S l m j:=by
 cases ds with
 | nil=>simp only [ZE] at h
 | cons d ds=>
  simp only [ZE] at h;obtain⟨v,j,e,u,C⟩:=h;exact⟨d,ds,v,j,rfl,e,u,C⟩
theorem ZE.nil {ds:List Da}{j:List Value}(h:ZE w S [] ds j):ds= []/\j= []:=by
 cases ds with
 | nil=>exact⟨rfl,by simpa only [ZE] using h⟩
 | cons d ds=>simp only [ZE] at h
theorem ZE.mk {a:Sh}{l:List Sh}{d:Da}{ds:List Da}{v:Value}{j:List Value}(h:Yv w S a d v)(m:ZE w S l ds j):ZE w S (a ::l) (d ::ds) (v ::j):=by
 simp only [ZE];exact⟨v,j,rfl,h,m⟩
theorem ZE.EG:ZE w S [] [] []:=by simp only [ZE]
theorem ZE.one {a:Sh}{d:Da}{v:Value}(h:Yv w S a d v):ZE w S [a] [d] [v]:=ZE.mk h ZE.EG
theorem ZE.len: ∀ {l:List Sh}{ds:List Da}{j:List Value},ZE w S l ds j->ds.length=l.length/\j.length=l.length
 | [],ds,j,h=>by
  obtain⟨rfl,rfl⟩:=h.nil;exact⟨rfl,rfl⟩
 | a ::l,ds,j,h=>by
  obtain⟨d,m,v,s,rfl,rfl,_,h⟩:=h.cons;have:=h.len;simp [this.1,this.2]
theorem ZE.split: ∀ {l j:List Sh}{ds:List Da}{m:List Value},ZE w S (l ++j) ds m-> ∃ s u v1 v2,ds=s ++u/\m=v1 ++v2/\ZE w S l s v1/\ZE w S j u v2
 | [],j,ds,m,h=>⟨[],ds,[],m,rfl,rfl,ZE.EG,h⟩
 | a ::l,j,ds,m,h=>by
  obtain⟨d,G,v,I,rfl,rfl,C,D⟩:=ZE.cons (l:=l ++j) h;obtain⟨s,u,v1,v2,rfl,rfl,E,F⟩:=ZE.split D;exact⟨d ::s,u,v ::v1,v2,rfl,rfl,ZE.mk C E,F⟩
theorem ZE.join: ∀ {l s:List Sh}{j m:List Da}{v1 v2:List Value},ZE w S l j v1->ZE w S s m v2->ZE w S (l ++s) (j ++m) (v1 ++v2)
 | [],s,j,m,v1,v2,h,h'=>by
  obtain⟨rfl,rfl⟩:=h.nil;exact h'
 | a ::l,s,j,m,v1,v2,h,h'=>by
  obtain⟨d,D,v,E,rfl,rfl,u,C⟩:=h.cons;exact ZE.mk u (C.join h')
theorem Yv.num {d:Da}{v:Value}(h:Yv w S .num d v): ∃ n,d= .int n/\v= .int .i64 n:=by
 cases d <;> simp only [Yv] at h
 exact⟨_,rfl,h⟩
theorem Yv.Yo {d:Da}{v:Value}(h:Yv w S .Yo d v): ∃ n,d= .int n/\v= .int .i64 n/\ -9223372036854775808<=n/\n<=9223372036854775807:=by
 cases d <;> simp only [Yv] at h
 exact⟨_,rfl,h⟩
theorem Yv.T0 {d:Da}{v:Value}(h:Yv w S .Z2 d v): ∃ b,d= .Z2 b/\v= .string (Z2 b):=by
 cases d <;> simp only [Yv] at h
 exact⟨_,rfl,h⟩
theorem Yv.YD {d:Da}{v:Value}(h:Yv w S .YD d v): ∃ b,d= .YD b/\v= .bool b:=by
 cases d <;> simp only [Yv] at h
 exact⟨_,rfl,h⟩
def ZT (w:World)(S:Nat->Prop)(l:List Sh)(ds:List (List Da))(A:Option Addr):Prop:=
 0<ds.length-> ∃ ad,A=some ad/\S ad.block/\ ∀ (j:Nat) (d:List Da),ds[j]?=some d-> ∃ vs,ZE w S l d vs/\ ∀ (i:Nat) (u:Value),vs[i]?=some u->w.cell? (ad.add (j*l.length+i))=some u
theorem Yv.rows {l:List Sh}{d:Da}{v:Value}(h:Yv w S (.rows l) d v): ∃ ds A c,d= .rows ds/\v= .slice A ds.length c/\ZT w S l ds A:=by
 cases d <;> simp only [Yv] at h
 obtain⟨A,c,j,h⟩:=h;exact⟨_,A,c,rfl,j,h⟩
theorem Yv.Wn {l:List Sh}{ds:List (List Da)}{A:Option Addr}(c:Nat)(h:ZT w S l ds A):Yv w S (.rows l) (.rows ds) (.slice A ds.length c):=by
 simp only [Yv];exact⟨A,c,rfl,h⟩
theorem Yv.Xo (n:Int):Yv w S .num (.int n) (.int .i64 n):=by simp only [Yv]
theorem Yv.U8 {n:Int}(h: -9223372036854775808<=n/\n<=9223372036854775807):Yv w S .Yo (.int n) (.int .i64 n):=by simp only [Yv];exact⟨trivial,h⟩
theorem Yv.YO (b:List UInt8):Yv w S .Z2 (.Z2 b) (.string (Z2 b)):=by simp only [Yv]
theorem Yv.M5 (b:Bool):Yv w S .YD (.YD b) (.bool b):=by simp only [Yv]
theorem ZT.nil {l:List Sh}{A:Option Addr} :ZT w S l [] A:=fun h=>absurd h (by simp)
theorem ZT.YW {l:List Sh}{ds:List (List Da)}{A:Option Addr}(h:ZT w S l ds A)(C: ∀ k,S k->S' k)(s: ∀ p:Addr,S p.block->w'.cell? p=w.cell? p):ZT w' S' l ds A:=fun I=>by
 obtain⟨E,e,m,h⟩:=h I;refine⟨E,e,C _ m,fun j d hd=> ?_⟩
 obtain⟨D,F,G⟩:=h j d hd;exact⟨D,ZE.YW C s l d D F,fun i u J=>(s _ (by rw [ZL];exact m)).trans (G i u J)⟩
theorem ZT.at_ {l:List Sh}{ds:List (List Da)}{A:Option Addr}(h:ZT w S l ds A){j:Nat}(D:j<ds.length):
  ∃ d m,A=some d/\ZE w S l ds[j] m/\ ∀ (i:Nat) (u:Value),m[i]?=some u->w.cell? (d.add (j*l.length+i))=some u:=by
 obtain⟨d,e,_,h⟩:=h (by omega);obtain⟨m,s,C⟩:=h j ds[j] (List.getElem?_eq_getElem D);exact⟨d,m,e,s,C⟩
theorem ZT.block {l:List Sh}{ds:List (List Da)}{d:Addr}(h:ZT w S l ds (some d))(m:0<ds.length):S d.block:=by
 obtain⟨s,e,j,_⟩:=h m;injection e with e
 exact e▸j
end
theorem Yv.below {w w':World}{B:Nat}{a:Sh}{d:Da}{v:Value}(h:Yv w (· < B) a d v)(hb:Below B w w'):Yv w' (· < B) a d v:=Yv.YW (fun _ h=>h) (fun _ j=>hb.cell j) a d v h
theorem ZE.below {w w':World}{B:Nat}{l:List Sh}{ds:List Da}{d:List Value}(h:ZE w (· < B) l ds d)(hb:Below B w w'):ZE w' (· < B) l ds d:=ZE.YW (fun _ h=>h) (fun _ j=>hb.cell j) l ds d h
theorem ZT.below {w w':World}{B:Nat}{l:List Sh}{ds:List (List Da)}{A:Option Addr}(h:ZT w (· < B) l ds A)(hb:Below B w w'):ZT w' (· < B) l ds A:=h.YW (fun _ h=>h) (fun _ d=>hb.cell d)
theorem ZE.X6 {w:World}{B B':Nat}{l:List Sh}{ds:List Da}{d:List Value}(h:ZE w (· < B) l ds d)(hb:B<=B'):ZE w (· < B') l ds d:=ZE.YW (fun _ h=>Nat.lt_of_lt_of_le h hb) (fun _ _=>rfl) l ds d h
def Xs (w:World)(ts:List TypeId):Nat->Prop:=fun k=> ∃ t,t∈ts/\Za w k t
theorem ZS.cell {ts us:List TypeId}{w w':World}(h:ZS ts w w')(hd: ∀ t,t∈us->t∉ts){p:Addr}(d:Xs w us p.block):w'.cell? p=w.cell? p:=by
 obtain⟨t,j,d⟩:=d;exact World.cell?_of_block (h.block p.block t d (hd t j))
theorem ZS.Rp {ts us:List TypeId}{w w':World}(h:ZS ts w w')(hd: ∀ t,t∈us->t∉ts)(k:Nat)(d:Xs w us k):Xs w' us k:=by
 obtain⟨t,j,d⟩:=d;exact⟨t,j,h.Xr d (hd t j)⟩
theorem Yv.keeps {ts us:List TypeId}{w w':World}{a:Sh}{d:Da}{v:Value}(h:Yv w (Xs w us) a d v)(j:ZS ts w w')(hd: ∀ t,t∈us->t∉ts):Yv w' (Xs w' us) a d v:=Yv.YW (j.Rp hd) (fun _ m=>j.cell hd m) a d v h
theorem ZE.keeps {ts us:List TypeId}{w w':World}{l:List Sh}{ds:List Da}{d:List Value}(h:ZE w (Xs w us) l ds d)(j:ZS ts w w')(hd: ∀ t,t∈us->t∉ts):ZE w' (Xs w' us) l ds d:=ZE.YW (j.Rp hd) (fun _ m=>j.cell hd m) l ds d h
theorem Yv.Hj {us j:List TypeId}{w:World}{a:Sh}{d:Da}{v:Value}(h:Yv w (Xs w us) a d v)(hd: ∀ t,t∈us->t∈j):Yv w (Xs w j) a d v:=Yv.YW (fun _ ⟨t,s,m⟩=>⟨t,hd t s,m⟩) (fun _ _=>rfl) a d v h
theorem ZE.Hj {us j:List TypeId}{w:World}{l:List Sh}{ds:List Da}{d:List Value}(h:ZE w (Xs w us) l ds d)(hd: ∀ t,t∈us->t∈j):ZE w (Xs w j) l ds d:=ZE.YW (fun _ ⟨t,s,m⟩=>⟨t,hd t s,m⟩) (fun _ _=>rfl) l ds d h
theorem ce {w:World}{g:Nat}{t:TypeId}{cs:List Value}(h:Hid (ZP w g t cs))(i:Nat){v:Value}(d:cs[i]?=some v:=by rfl):w.cell? ⟨g,i,none⟩=some v:=(h.out.cell i).trans d
theorem cd {w:World}{g:Nat}{t:TypeId}{cs:List Value}(h:ZP w g t cs)(i:Nat){v:Value}(d:cs[i]?=some v:=by rfl):w.cell? ⟨g,i,none⟩=some v:=(h.cell i).trans d
theorem cb {w w':World}{g:Nat}{t:TypeId}{cs:List Value}(h:Hid (ZP w g t cs))(hb:Below w.heap.size w w')(i:Nat){v:Value}(d:cs[i]?=some v:=by rfl):w'.cell? ⟨g,i,none⟩=some v:=((h.out.below hb h.out.lt).cell i).trans d
theorem ct {w w':World}{n:Nat}{p:Addr}{v:Option Value}(d:w.cell? p=v)(h:Below n w w')(j:p.block<n):w'.cell? p=v:=(h.cell j).trans d
theorem ef {w:World}{d:Addr}{m:Nat}{h:List Value}(s: ∀ (i:Nat)(u:Value),h[i]?=some u->w.cell? (d.add (m+i))=some u)(i:Nat){v:Value}(C:h[i]?=some v:=by rfl)(j:0<i:=by decide):w.cell? ⟨(d.add m).block,(d.add m).off+i,none⟩=some v:=by
 rw [<-Yr d m i j];exact s i v C
theorem e0 {w:World}{d:Addr}{m:Nat}{h:List Value}(j: ∀ (i:Nat)(u:Value),h[i]?=some u->w.cell? (d.add (m+i))=some u){v:Value}(s:h[0]?=some v:=by rfl):w.cell? (d.add m)=some v:=by
 have:=j 0 v s;rwa [Nat.add_zero] at this
end Go.Proofs.YtnhmoibjlakhjaaGreat
