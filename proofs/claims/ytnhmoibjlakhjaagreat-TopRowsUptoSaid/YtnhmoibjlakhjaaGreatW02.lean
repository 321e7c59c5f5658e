/- Lemmas, each under its own conditions. -/
import Derived.Test.YtnhmoibjlakhjaaGreatW01
import Derived.WalkSpells
import Derived.WalkLawsBesides
import Derived.Laws.CopyOwn
import Derived.Lib.Hide
import Derived.Deep.AppendLies
set_option linter.all false
namespace Go.Proofs.YtnhmoibjlakhjaaGreat
set_option maxRecDepth 100000
set_option maxHeartbeats 16000000
open Go.RowKit
def Jh (l:List UInt8):List Value:=l.map fun c=>Value.int .u8 (c.toNat:Int)
@[simp] theorem EK (l:List UInt8):(Jh l).length=l.length:=by simp [Jh]
theorem EL (l:List UInt8)(i:Nat)(h:i<l.length):(Jh l)[i]?=some (.int .u8 ((l[i]'h).toNat:Int)):=by
 simp [Jh,h]
theorem ZL (a:Addr)(n:Nat):(a.add n).block=a.block:=by unfold Addr.add;split <;> rfl
theorem ZG (a:Addr)(i j:Nat):(a.add i).add j=a.add (i+j):=by
 unfold Addr.add;by_cases hi:i=0 <;> by_cases hj:j=0 <;> simp [hi,hj,Nat.add_assoc]
def Reads (w:World)(B:Nat)(A:Option Addr)(n:Nat)(xs:List Value):Prop:=
 xs.length=n/\(0<n-> ∃ ad,A=some ad/\ad.block<B/\ ∀ j u,xs[j]?=some u->w.cell? (ad.add j)=some u)
section
variable {w w' : World} {B B' n : Nat} {A : Option Addr} {xs : List Value}
theorem Reads.len (h:Reads w B A n xs):xs.length=n:=h.1
theorem Reads.none_:Reads w B A 0 []:=⟨rfl,fun h=>absurd h (by omega)⟩
theorem Reads.keep (h:Reads w B A n xs)(s: ∀ p:Addr,p.block<B->w'.cell? p=w.cell? p):Reads w' B A n xs:=
 ⟨h.1,fun C=>by
  obtain⟨d,e,hb,m⟩:=h.2 C;exact⟨d,e,hb,fun j u D=>(s _ (by rw [ZL];exact hb)).trans (m j u D)⟩⟩
theorem Reads.X6 (h:Reads w B A n xs)(s:B<=B'):Reads w B' A n xs:=
 ⟨h.1,fun m=>by
  obtain⟨d,e,hb,j⟩:=h.2 m;exact⟨d,e,by omega,j⟩⟩
theorem Reads.below (h:Reads w B A n xs)(hb:Below B w w'):Reads w' B A n xs:=h.keep fun _ d=>hb.cell d
theorem Reads.drew (h:Reads w B A n xs):Reads w.drew B A n xs:=h
theorem Reads.drewN (h:Reads w B A n xs)(k:Nat):Reads (w.drewN k) B A n xs:=h
theorem Reads.alloc (h:Reads w B A n xs)(d:B<=w.heap.size)(o:Obj):Reads (w.alloc o) B A n xs:=h.keep fun p j=>World.cell?_alloc_lt w o p (by omega)
theorem Reads.setCell (h:Reads w B A n xs){p:Addr}(d:B<=p.block)(u:Value):Reads (w.setCell p u) B A n xs:=
 h.keep fun q j=>World.cell?_setCell_other w p q u (fun e=>by subst e;omega)
theorem Reads.grown (h:Reads w B A n xs){row:Option Nat}(d:w.grownBy w' row)(m:B<=w.heap.size)(j: ∀ g,row=some g->B<=g):Reads w' B A n xs:=
 h.keep fun p s=>World.cell?_of_block (d.block p.block (by omega) (fun e=>by have:=j _ e.symm;omega))
theorem Reads.ES {base:Nat}{e:TypeId}{c:Nat}(h:w.ownsRow base e 1 (.slice A n c) n xs):Reads w w.heap.size A n xs:=by
 refine⟨by simpa using h.1,fun m=> ?_⟩
 obtain⟨g,cap,s,_,d⟩:=h.form m;have j:A=some ⟨g,0,none⟩:=by injection s
 subst j;exact⟨_,rfl,d,h.cells (g:=g) rfl⟩
theorem Reads.take (h:Reads w B A n xs){k:Nat}(C:k<=n):Reads w B A k (xs.take k):=by
 refine⟨by rw [List.length_take,h.1];omega,fun D=> ?_⟩
 obtain⟨m,e,hb,s⟩:=h.2 (by omega);refine⟨m,e,hb,fun j u d=>s j u ?_⟩
 rw [List.getElem?_take] at d;split at d
 ·exact d
 ·cases d
end
def ZP (w:World)(g:Nat)(t:TypeId)(cs:List Value):Prop:=w.heap[g]?=some (.cells cs.toArray t (0,0))
section
variable {w w' : World} {g : Nat} {t : TypeId} {cs : List Value}
theorem ZP.lt (h:ZP w g t cs):g<w.heap.size:=by
 rcases Nat.lt_or_ge g w.heap.size with j | d
 ·exact j
 ·unfold ZP at h;rw [Array.getElem?_eq_none d] at h;cases h
theorem ZP.cell (h:ZP w g t cs)(i:Nat):w.cell? ⟨g,i,none⟩=cs[i]?:=by
 have:=cell_of_row w g i cs.toArray t (0,0) h;simpa using this
theorem ZP.frozen (h:ZP w g t cs)(i:Nat):w.frozen? ⟨g,i,none⟩=false:=by
 unfold ZP at h;simp [World.frozen?,h]
theorem ZP.new (w:World)(t:TypeId)(cs:List Value):ZP (w.alloc (.cells cs.toArray t)) w.heap.size t cs:=heap_alloc_new w _
theorem ZP.drew (h:ZP w g t cs):ZP w.drew g t cs:=h
theorem ZP.drewN (h:ZP w g t cs)(n:Nat):ZP (w.drewN n) g t cs:=h
theorem ZP.alloc (h:ZP w g t cs)(o:Obj):ZP (w.alloc o) g t cs:=(Below.heap_alloc w o g h.lt).trans h
theorem ZP.Zx (h:ZP w g t cs)(i:Nat)(u:Value):ZP (w.setCell ⟨g,i,none⟩ u) g t (cs.set i u):=by
 unfold ZP at h ⊢;simp [World.setCell,Array.getElem?_modify,h]
theorem ZP.WT (h:ZP w g t cs){p:Addr}(d:g≠p.block)(u:Value):ZP (w.setCell p u) g t cs:=(Below.heap_setCell w p u g d).trans h
theorem ZP.below {B:Nat}(h:ZP w g t cs)(hb:Below B w w')(d:g<B):ZP w' g t cs:=(hb.block g d).trans h
theorem ZP.grown {row:Option Nat}(h:ZP w g t cs)(hb:w.grownBy w' row)(d:some g≠row):ZP w' g t cs:=(hb.block g h.lt d).trans h
theorem ZP.own (h:ZP w g t cs){base n cap:Nat}(hb:base<=g)(m:n<=cap)(d:cs.length=cap)(j:cap<=maxLen):
  w.ownsRow base t 1 (.slice (some ⟨g,0,none⟩) n cap) n (cs.take n):=
 ⟨by rw [List.length_take];omega,.inr ⟨g,cap,cs.toArray,rfl,hb,h,m,j,by simp [d],by simp⟩⟩
theorem ZP.reads (h:ZP w g t cs){n:Nat}(m:n<=cs.length):Reads w w.heap.size (some ⟨g,0,none⟩) n (cs.take n):=by
 refine⟨by rw [List.length_take];omega,fun _=>⟨_,rfl,h.lt,fun j u d=> ?_⟩⟩
 have e:(⟨g,0,none⟩:Addr).add j=⟨g,j,none⟩:=by unfold Addr.add;split <;> simp_all
 rw [e,h.cell];rw [List.getElem?_take] at d;split at d
 ·exact d
 ·cases d
end
def Z2 (l:List UInt8):ByteArray:=⟨l.toArray⟩
section
variable {P : Program} (w : World)
theorem RE (base:Nat)(t s e:TypeId)(i:TypeInfo)(h:P.underlying t=some (.slice e))(d:P.info? e=some i)
  (v:Value) (n:Nat) (xs:List Value) (j:w.ownsRow base e 1 v n xs) (c:Nat):(Builtin.append_ #[t,t] s #[v,.slice none 0 c]).run P w= .ok v w:=by
 rcases j.2 with ⟨rfl,rfl⟩ | ⟨g,cap,u,rfl,_,_,m,_⟩
 ·simp [Builtin.append_,run_underlying h,sizeOf,typeInfo,d,Builtin.lenOf,Builtin.firstCells]
 ·simp [Builtin.append_,run_underlying h,sizeOf,typeInfo,d,Builtin.lenOf,Builtin.firstCells,m,storeCells]
theorem FE (base:Nat)(t G e:TypeId)(i:TypeInfo)(z:Value)(bytes:Nat)(J:P.underlying t=some (.slice e))(I:P.info? e=some i)(hz:i.zero=some z)
  (O:i.size=1) (V:i.bytes=bytes) (Z:z.cells.size=1)
  (v:Value) (n:Nat) (xs:List Value) (E:w.ownsRow base e 1 v n xs)
  (B:Nat) (A:Option Addr) (m c:Nat) (news:List Value) (C:Reads w B A m news) (h1: ∀ u∈news,u.oneCell'=true)
  (U:n+m<=maxLen) (L:(n+m)*bytes<=140737488355328) (N:base<=w.heap.size):
  ∃ D w',(Builtin.append_ #[t,t] G #[v,.slice A m c]).run P w= .ok D w'/\w'.ownsRow base e 1 D (n+m) (xs ++news)/\w.grownBy w' v.ownBlock:=by
 have M: ∀ d,A=some d-> ∀ j u,news[j]?=some u->w.cell? (d.add j)=some u:=by
  rintro d rfl j u K;rcases Nat.eq_zero_or_pos m with s | s
  ·subst s;have F:news= []:=List.eq_nil_of_length_eq_zero C.1;subst F;simp at K
  ·obtain⟨aa,h,_,hc⟩:=C.2 s;injection h with h
   subst h;exact hc j u K
 rcases A with _ | d
 ·have hm:m=0:=by
   rcases Nat.eq_zero_or_pos m with s | s
   ·exact s
   ·obtain⟨d,h,_⟩:=C.2 s
    cases h
  subst hm;have F:news= []:=List.eq_nil_of_length_eq_zero C.1;subst F;exact⟨v,w,RE w base t G e i J I v n xs E c,by simpa using E,World.grownBy.refl w _⟩
 ·obtain⟨D,w',T,h2,h3,_⟩:=run_append_own (P:=P) w base t G e i z 1 bytes J I hz O V Z (by decide) v n xs E d m c news (by rw [C.1,Nat.mul_one]) (M d rfl) h1 U L N;exact⟨D,w',T,h2,h3⟩
end
theorem WH {w:World}{base:Nat}{e:TypeId}{size n:Nat}{v:Value}{xs:List Value}(h:w.ownsRow base e size v n xs): ∃ A c,v= .slice A n c:=by
 rcases h.2 with ⟨rfl,rfl⟩ | ⟨g,cap,d,rfl,_⟩
 ·exact⟨none,0,rfl⟩
 ·exact⟨_,_,rfl⟩
theorem ZD {w:World}{base:Nat}{e:TypeId}{size n:Nat}{v:Value}{xs:List Value}(h:w.ownsRow base e size v n xs): ∀ k,v.ownBlock=some k->base<=k:=
 fun k d=>(h.lt k d).1
theorem JM {P:Program}{w:World}{ops:Array Oper}{rest:List Oper}{o:Oper}{a:Act}{Q:Exit->Act->World->Prop}(O:o.guard=none)(s x:Operand)(t:TypeId)
  (ho:o.op= .call { callee:= .builtin .append,args:= #[s,x],argTypes:= #[t,t]})
  (base:Nat) (e:TypeId) (i:TypeInfo) (z:Value) (bytes:Nat) (ht:P.underlying t=some (.slice e)) (Z:P.info? e=some i) (hz:i.zero=some z)
  (J:i.size=1) (N:i.bytes=bytes) (T:z.cells.size=1)
  (v:Value) (n:Nat) (xs:List Value) (hs:a.eval s=v) (D:w.ownsRow base e 1 v n xs)
  (B:Nat) (A:Option Addr) (m c:Nat) (news:List Value) (hx:a.eval x= .slice A m c) (hr:Reads w B A m news) (U: ∀ u∈news,u.oneCell'=true)
  (M:n+m<=maxLen) (I:(n+m)*bytes<=140737488355328) (C:base<=w.heap.size) (G:World) (hb:Below base G w)
  (h: ∀ d j w',Hid (w'.ownsRow base e 1 (.slice d (n+m) j) (n+m) (xs ++news))->Below base G w'->Hid (w.grownBy w' v.ownBlock)->wpList P ops Q rest (a.put o.dst (.slice d (n+m) j)) w'):wpList P ops Q (o ::rest) a w:=by
 refine wpList_plain O fun K V=> ?_
 obtain⟨v',w',L,E,F⟩:=FE (P:=P) w base t o.type e i z bytes ht Z hz J N T v n xs D B A m c news hr U M I C;unfold Oper.wp execOp;simp only [ho,resolve,invoke,builtin,Sem.run_bind,Sem.run_pure,Result.andThen_ok,List.map_toArray,List.map_cons,List.map_nil,hs,hx,L];obtain⟨d,j,rfl⟩:=WH E;exact V _ _ (h d j w' E (hb.grown F C (ZD D)) F)
theorem Reads.DC (w:World)(x:Value)(t:TypeId):Reads (w.alloc (.cells #[x] t)) (w.heap.size+1) (some ⟨w.heap.size,0,none⟩) 1 [x]:=by
 have h:=ZP.new w t [x];have:=h.reads (n:=1) (by simp);simpa using this
theorem DB (k:IntKind)(x:Int): ∀ u∈ [Value.int k x],u.oneCell'=true:=by
 intro u d;simp at d;subst d;rfl
@[simp] theorem QK (l:List UInt8):(Z2 l).toList=l:=by rw [ByteArray.toList_eq];simp [Z2]
theorem Yk (l:List UInt8):(Z2 l).size=l.length:=by simp [Z2,ByteArray.size]
theorem Fz (s:ByteArray):Z2 s.data.toList=s:=by simp [Z2]
structure Made (w0 w:World) (t:TypeId) (A:Option Addr) (n c:Nat) (l:List UInt8):Prop where
 own:w.ownsRow w0.heap.size t 1 (.slice A n c) n (Jh l)
 below:Below w0.heap.size w0 w
theorem Made.reads {d w:World}{t:TypeId}{A:Option Addr}{n c:Nat}{l:List UInt8}(h:Made d w t A n c l):Reads w w.heap.size A n (Jh l):=Reads.ES h.own
theorem Made.len {d w:World}{t:TypeId}{A:Option Addr}{n c:Nat}{l:List UInt8}(h:Made d w t A n c l):l.length=n:=by
 have:=h.own.1;simpa using this
theorem _root_.Go.World.ownsRow.ZC {w w':World}{base:Nat}{e:TypeId}{size n:Nat}{v:Value}{xs:List Value}(h:w.ownsRow base e size v n xs)(hb:Below w.heap.size w w'):w'.ownsRow base e size v n xs:=by
 refine⟨h.1,?_⟩
 rcases h.2 with s | ⟨g,cap,j,rfl,m,d,rest⟩
 ·exact .inl s
 ·exact .inr ⟨g,cap,j,rfl,m,by rw [hb.block g (Array.getElem?_eq_some_iff.1 d).1];exact d,rest⟩
def JH (k : IntKind) (w : World) (a : Option Addr) (len cap : Nat) (zs : List Int) : Prop :=
  (a = none /\ len = 0 /\ cap = 0 /\ zs = []) ∨
  ∃ x, a = some x /\ len <= cap /\ cap <= maxLen /\ zs.length = cap /\ (∀ i, i < zs.length -> w.cell? (x.add i) = some (.int k (zs.getD i 0))) /\ ∀ n ∈ zs, (Lit.int k n).wf = true
theorem JH.ints {k : IntKind} {w : World} {a : Option Addr} {len cap : Nat} {m : List Int} (h : JH k w a len cap m) :
    Reads w w.heap.size a len ((m.take len).map (Value.int k)) /\ len <= cap /\ (m.take len).length = len := by
  rcases h with ⟨rfl, rfl, rfl, rfl⟩ | ⟨x, rfl, E, F, J, D, I⟩
  · exact ⟨by simpa using Reads.none_, Nat.le_refl _, rfl⟩
  · have C : (m.take len).length = len := by rw [List.length_take]; omega
    refine ⟨⟨by simpa using C, fun G => ⟨x, rfl, ?_, fun j u d => ?_⟩⟩, E, C⟩
    · have := World.block_lt_of_cell? w _ (D 0 (by omega))
      rwa [ZL] at this
    · simp only [List.getElem?_map, List.getElem?_take] at d
      split at d
      · have s : j < m.length := by
          rcases Nat.lt_or_ge j m.length with h | h
          · exact h
          · rw [List.getElem?_eq_none h] at d; simp at d
        rw [List.getElem?_eq_getElem s] at d
        simp only [Option.map_some, Option.some.injEq] at d
        subst d
        have := D j s
        rwa [List.getD_eq_getElem?_getD, List.getElem?_eq_getElem s, Option.getD_some] at this
      · simp at d
theorem JH.bytes {w : World} {a : Option Addr} {len cap : Nat} {d : List Int} (h : JH .u8 w a len cap d) :
    ∃ l : List UInt8, Reads w w.heap.size a len (Jh l) /\ len <= cap := by
  obtain ⟨s, u, D⟩ := h.ints
  have m : ∀ n ∈ d, (Lit.int .u8 n).wf = true := by
    rcases h with ⟨_, _, _, rfl⟩ | ⟨_, _, _, _, _, _, m⟩
    · intro n j; cases j
    · exact m
  refine ⟨(d.take len).map fun n => UInt8.ofNat n.toNat, ?_, u⟩
  have e : Jh ((d.take len).map fun n => UInt8.ofNat n.toNat) = (d.take len).map (Value.int .u8) := by
    unfold Jh
    rw [List.map_map]
    refine List.map_congr_left fun n j => ?_
    have hb := m n (List.mem_of_mem_take j)
    have C : 0 <= n /\ n <= 255 := by simpa [Lit.wf, IntKind.min, IntKind.max, IntKind.signed, IntKind.bits] using hb
    have : (UInt8.ofNat n.toNat).toNat = n.toNat % 256 := UInt8.toNat_ofNat'
    simp only [Function.comp]
    rw [this]
    congr 1
    omega
  rw [e]
  exact s
end Go.Proofs.YtnhmoibjlakhjaaGreat
