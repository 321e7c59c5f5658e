/- Lemmas of the proof. No condition but each theorem's own. -/
import Derived.Test.YtnhmoibjlakhjaaGreatR01
import Derived.WalkKit
import Derived.WalkSpells
import Derived.WalkLawsBesides
import Derived.Laws.CopyOwn
import Derived.Lib.Hide
import Derived.Deep.AppendLies
import Derived.Deep.Draws
import Derived.Maps.AppendAt
set_option linter.unusedVariables false
set_option linter.unusedSimpArgs false
namespace Go.Proofs.YtnhmoibjlakhjaaGreat
set_option maxRecDepth 100000
set_option maxHeartbeats 16000000
open Go.RowKit
def MG (l:List UInt8):List Value:=l.map fun c=>Value.int .u8 (c.toNat:Int)
@[simp] theorem JE (l:List UInt8):(MG l).length=l.length:=by simp [MG]
theorem JF (l:List UInt8)(i:Nat)(h:i<l.length):(MG l)[i]?=some (.int .u8 ((l[i]'h).toNat:Int)):=by
 simp [MG,h]
theorem Zs (a:Addr)(n:Nat):(a.add n).block=a.block:=by unfold Addr.add;split <;> rfl
theorem ZG (a:Addr)(i j:Nat):(a.add i).add j=a.add (i+j):=by
 unfold Addr.add;by_cases hi:i=0 <;> by_cases hj:j=0 <;> simp [hi,hj,Nat.add_assoc]
def Reads (w:World)(B:Nat)(A:Option Addr)(n:Nat)(xs:List Value):Prop:=
 xs.length=n∧(0<n→ ∃ ad,A=some ad∧ad.block<B∧ ∀ j u,xs[j]?=some u→w.cell? (ad.add j)=some u)
section
variable {w w' : World} {B B' n : Nat} {A : Option Addr} {xs : List Value}
theorem Reads.len (h:Reads w B A n xs):xs.length=n:=h.1
theorem Reads.none_:Reads w B A 0 []:=⟨rfl,fun h=>absurd h (by omega)⟩
theorem Reads.keep (h:Reads w B A n xs)(hk: ∀ p:Addr,p.block<B→w'.cell? p=w.cell? p):Reads w' B A n xs:=
 ⟨h.1,fun hn=>by
  obtain⟨ad,e,hb,hc⟩:=h.2 hn;exact⟨ad,e,hb,fun j u hu=>(hk _ (by rw [Zs];exact hb)).trans (hc j u hu)⟩⟩
theorem Reads.Ya (h:Reads w B A n xs)(hB:B≤B'):Reads w B' A n xs:=
 ⟨h.1,fun hn=>by
  obtain⟨ad,e,hb,hc⟩:=h.2 hn;exact⟨ad,e,by omega,hc⟩⟩
theorem Reads.below (h:Reads w B A n xs)(hb:Below B w w'):Reads w' B A n xs:=h.keep fun _ hp=>hb.cell hp
theorem Reads.drew (h:Reads w B A n xs):Reads w.drew B A n xs:=h
theorem Reads.drewN (h:Reads w B A n xs)(k:Nat):Reads (w.drewN k) B A n xs:=h
theorem Reads.alloc (h:Reads w B A n xs)(hB:B≤w.heap.size)(o:Obj):Reads (w.alloc o) B A n xs:=h.keep fun p hp=>World.cell?_alloc_lt w o p (by omega)
theorem Reads.setCell (h:Reads w B A n xs){p:Addr}(hB:B≤p.block)(u:Value):Reads (w.setCell p u) B A n xs:=
 h.keep fun q hq=>World.cell?_setCell_other w p q u (fun e=>by subst e;omega)
theorem Reads.grown (h:Reads w B A n xs){row:Option Nat}(hg:w.grownBy w' row)(hB:B≤w.heap.size)(hr: ∀ g,row=some g→B≤g):Reads w' B A n xs:=
 h.keep fun p hp=>World.cell?_of_block (hg.block p.block (by omega) (fun e=>by have:=hr _ e.symm;omega))
theorem Reads.JK {base:Nat}{e:TypeId}{c:Nat}(h:w.ownsRow base e 1 (.slice A n c) n xs):Reads w w.heap.size A n xs:=by
 refine⟨by simpa using h.1,fun hn=> ?_⟩
 obtain⟨g,cap,hv,_,hlt⟩:=h.form hn;have hA:A=some ⟨g,0,none⟩:=by injection hv
 subst hA;exact⟨_,rfl,hlt,h.cells (g:=g) rfl⟩
theorem Reads.take (h:Reads w B A n xs){k:Nat}(hk:k≤n):Reads w B A k (xs.take k):=by
 refine⟨by rw [List.length_take,h.1];omega,fun hn=> ?_⟩
 obtain⟨ad,e,hb,hc⟩:=h.2 (by omega);refine⟨ad,e,hb,fun j u hu=>hc j u ?_⟩
 rw [List.getElem?_take] at hu;split at hu
 ·exact hu
 ·cases hu
end
def ZP (w:World)(g:Nat)(t:TypeId)(cs:List Value):Prop:=w.heap[g]?=some (.cells cs.toArray t (0,0))
section
variable {w w' : World} {g : Nat} {t : TypeId} {cs : List Value}
theorem ZP.lt (h:ZP w g t cs):g<w.heap.size:=by
 rcases Nat.lt_or_ge g w.heap.size with hlt | hge
 ·exact hlt
 ·unfold ZP at h;rw [Array.getElem?_eq_none hge] at h;cases h
theorem ZP.cell (h:ZP w g t cs)(i:Nat):w.cell? ⟨g,i,none⟩=cs[i]?:=by
 have:=cell_of_row w g i cs.toArray t (0,0) h;simpa using this
theorem ZP.frozen (h:ZP w g t cs)(i:Nat):w.frozen? ⟨g,i,none⟩=false:=by
 unfold ZP at h;simp [World.frozen?,h]
theorem ZP.new (w:World)(t:TypeId)(cs:List Value):ZP (w.alloc (.cells cs.toArray t)) w.heap.size t cs:=heap_alloc_new w _
theorem ZP.drew (h:ZP w g t cs):ZP w.drew g t cs:=h
theorem ZP.drewN (h:ZP w g t cs)(n:Nat):ZP (w.drewN n) g t cs:=h
theorem ZP.alloc (h:ZP w g t cs)(o:Obj):ZP (w.alloc o) g t cs:=(Below.heap_alloc w o g h.lt).trans h
theorem ZP.Zx (h:ZP w g t cs)(i:Nat)(u:Value):ZP (w.setCell ⟨g,i,none⟩ u) g t (cs.set i u):=by
 unfold ZP at h ⊢;simp [World.setCell,Array.getElem?_modify,h]
theorem ZP.Wx (h:ZP w g t cs){p:Addr}(hp:g≠p.block)(u:Value):ZP (w.setCell p u) g t cs:=(Below.heap_setCell w p u g hp).trans h
theorem ZP.below {B:Nat}(h:ZP w g t cs)(hb:Below B w w')(hg:g<B):ZP w' g t cs:=(hb.block g hg).trans h
theorem ZP.grown {row:Option Nat}(h:ZP w g t cs)(hb:w.grownBy w' row)(hg:some g≠row):ZP w' g t cs:=(hb.block g h.lt hg).trans h
theorem ZP.own (h:ZP w g t cs){base n cap:Nat}(hb:base≤g)(hn:n≤cap)(hc:cs.length=cap)(hm:cap≤maxLen):
  w.ownsRow base t 1 (.slice (some ⟨g,0,none⟩) n cap) n (cs.take n):=
 ⟨by rw [List.length_take];omega,.inr ⟨g,cap,cs.toArray,rfl,hb,h,hn,hm,by simp [hc],by simp⟩⟩
theorem ZP.reads (h:ZP w g t cs){n:Nat}(hn:n≤cs.length):Reads w w.heap.size (some ⟨g,0,none⟩) n (cs.take n):=by
 refine⟨by rw [List.length_take];omega,fun _=>⟨_,rfl,h.lt,fun j u hu=> ?_⟩⟩
 have e:(⟨g,0,none⟩:Addr).add j=⟨g,j,none⟩:=by unfold Addr.add;split <;> simp_all
 rw [e,h.cell];rw [List.getElem?_take] at hu;split at hu
 ·exact hu
 ·cases hu
end
def Z9 (l:List UInt8):ByteArray:=⟨l.toArray⟩
section
variable {P : Program} (w : World)
theorem Tn (base:Nat)(t ty e:TypeId)(i:TypeInfo)(ht:P.underlying t=some (.slice e))(hi:P.info? e=some i)
  (v:Value) (n:Nat) (xs:List Value) (hown:w.ownsRow base e 1 v n xs) (c:Nat):(Builtin.append_ #[t,t] ty #[v,.slice none 0 c]).run P w= .ok v w:=by
 rcases hown.2 with ⟨rfl,rfl⟩ | ⟨g,cap,cur,rfl,_,_,hnc,_⟩
 ·simp [Builtin.append_,run_underlying ht,sizeOf,typeInfo,hi,Builtin.lenOf,Builtin.firstCells]
 ·simp [Builtin.append_,run_underlying ht,sizeOf,typeInfo,hi,Builtin.lenOf,Builtin.firstCells,hnc,storeCells]
theorem Ke (base:Nat)(t ty e:TypeId)(i:TypeInfo)(z:Value)(bytes:Nat)(ht:P.underlying t=some (.slice e))(hi:P.info? e=some i)(hz:i.zero=some z)
  (hsize:i.size=1) (hby:i.bytes=bytes) (hzs:z.cells.size=1)
  (v:Value) (n:Nat) (xs:List Value) (hown:w.ownsRow base e 1 v n xs)
  (B:Nat) (A:Option Addr) (m c:Nat) (news:List Value) (hr:Reads w B A m news) (h1: ∀ u∈news,u.oneCell'=true)
  (h63:n+m≤maxLen) (hbytes:(n+m)*bytes≤140737488355328) (hbase:base≤w.heap.size):
  ∃ v' w',(Builtin.append_ #[t,t] ty #[v,.slice A m c]).run P w= .ok v' w'∧w'.ownsRow base e 1 v' (n+m) (xs ++news)∧w.grownBy w' v.ownBlock:=by
 have hcells: ∀ ad,A=some ad→ ∀ j u,news[j]?=some u→w.cell? (ad.add j)=some u:=by
  rintro ad rfl j u hu;rcases Nat.eq_zero_or_pos m with h0 | h0
  ·subst h0;have hn:news= []:=List.eq_nil_of_length_eq_zero hr.1;subst hn;simp at hu
  ·obtain⟨ad',h,_,hc⟩:=hr.2 h0;injection h with h
   subst h;exact hc j u hu
 rcases A with _ | ad
 ·have hm:m=0:=by
   rcases Nat.eq_zero_or_pos m with h0 | h0
   ·exact h0
   ·obtain⟨ad,h,_⟩:=hr.2 h0
    cases h
  subst hm;have hn:news= []:=List.eq_nil_of_length_eq_zero hr.1;subst hn;exact⟨v,w,Tn w base t ty e i ht hi v n xs hown c,by simpa using hown,World.grownBy.refl w _⟩
 ·obtain⟨v',w',hrun,h2,h3,_⟩:=run_append_own (P:=P) w base t ty e i z 1 bytes ht hi hz hsize hby hzs (by decide) v n xs hown ad m c news (by rw [hr.1,Nat.mul_one]) (hcells ad rfl) h1 h63 hbytes hbase;exact⟨v',w',hrun,h2,h3⟩
end
theorem Wi {w:World}{base:Nat}{e:TypeId}{size n:Nat}{v:Value}{xs:List Value}(h:w.ownsRow base e size v n xs): ∃ A c,v= .slice A n c:=by
 rcases h.2 with ⟨rfl,rfl⟩ | ⟨g,cap,cur,rfl,_⟩
 ·exact⟨none,0,rfl⟩
 ·exact⟨_,_,rfl⟩
theorem Zu {w:World}{base:Nat}{e:TypeId}{size n:Nat}{v:Value}{xs:List Value}(h:w.ownsRow base e size v n xs): ∀ k,v.ownBlock=some k→base≤k:=
 fun k hk=>(h.lt k hk).1
theorem Nb {P:Program}{w:World}{ops:Array Oper}{rest:List Oper}{o:Oper}{a:Act}{Q:Exit→Act→World→Prop}(hgd:o.guard=none)(s x:Operand)(t:TypeId)
  (ho:o.op= .call { callee:= .builtin .append,args:= #[s,x],argTypes:= #[t,t]})
  (base:Nat) (e:TypeId) (i:TypeInfo) (z:Value) (bytes:Nat) (ht:P.underlying t=some (.slice e)) (hi:P.info? e=some i) (hz:i.zero=some z)
  (hsize:i.size=1) (hby:i.bytes=bytes) (hzs:z.cells.size=1)
  (v:Value) (n:Nat) (xs:List Value) (hs:a.eval s=v) (hown:w.ownsRow base e 1 v n xs)
  (B:Nat) (A:Option Addr) (m c:Nat) (news:List Value) (hx:a.eval x= .slice A m c) (hr:Reads w B A m news) (h1: ∀ u∈news,u.oneCell'=true)
  (h63:n+m≤maxLen) (hbytes:(n+m)*bytes≤140737488355328) (hbase:base≤w.heap.size) (w0:World) (hb:Below base w0 w)
  (h: ∀ A' c' w',Hid (w'.ownsRow base e 1 (.slice A' (n+m) c') (n+m) (xs ++news))→Below base w0 w'→Hid (w.grownBy w' v.ownBlock)→wpList P ops Q rest (a.put o.dst (.slice A' (n+m) c')) w'):wpList P ops Q (o ::rest) a w:=by
 refine wpList_plain hgd fun K hK=> ?_
 obtain⟨v',w',hrun,h2,h3⟩:=Ke (P:=P) w base t o.type e i z bytes ht hi hz hsize hby hzs v n xs hown B A m c news hr h1 h63 hbytes hbase;unfold Oper.wp execOp;simp only [ho,resolve,invoke,builtin,Sem.run_bind,Sem.run_pure,Result.andThen_ok,List.map_toArray,List.map_cons,List.map_nil,hs,hx,hrun];obtain⟨A',c',rfl⟩:=Wi h2;exact hK _ _ (h A' c' w' h2 (hb.grown h3 hbase (Zu hown)) h3)
theorem Reads.IN (w:World)(x:Value)(t:TypeId):Reads (w.alloc (.cells #[x] t)) (w.heap.size+1) (some ⟨w.heap.size,0,none⟩) 1 [x]:=by
 have h:=ZP.new w t [x];have:=h.reads (n:=1) (by simp);simpa using this
theorem IM (k:IntKind)(x:Int): ∀ u∈ [Value.int k x],u.oneCell'=true:=by
 intro u hu;simp at hu;subst hu;rfl
@[simp] theorem SG (l:List UInt8):(Z9 l).toList=l:=by rw [ByteArray.toList_eq];simp [Z9]
theorem YA (l:List UInt8):(Z9 l).size=l.length:=by simp [Z9,ByteArray.size]
theorem Ka (s:ByteArray):Z9 s.data.toList=s:=by simp [Z9]
structure Made (w0 w:World) (t:TypeId) (A:Option Addr) (n c:Nat) (l:List UInt8):Prop where
 own:w.ownsRow w0.heap.size t 1 (.slice A n c) n (MG l)
 below:Below w0.heap.size w0 w
theorem Made.reads {w0 w:World}{t:TypeId}{A:Option Addr}{n c:Nat}{l:List UInt8}(h:Made w0 w t A n c l):Reads w w.heap.size A n (MG l):=Reads.JK h.own
theorem Made.len {w0 w:World}{t:TypeId}{A:Option Addr}{n c:Nat}{l:List UInt8}(h:Made w0 w t A n c l):l.length=n:=by
 have:=h.own.1;simpa using this
theorem _root_.Go.World.ownsRow.Zw {w w':World}{base:Nat}{e:TypeId}{size n:Nat}{v:Value}{xs:List Value}(h:w.ownsRow base e size v n xs)(hb:Below w.heap.size w w'):w'.ownsRow base e size v n xs:=by
 refine⟨h.1,?_⟩
 rcases h.2 with hn | ⟨g,cap,cur,rfl,hbg,hg,rest⟩
 ·exact .inl hn
 ·exact .inr ⟨g,cap,cur,rfl,hbg,by rw [hb.block g (Array.getElem?_eq_some_iff.1 hg).1];exact hg,rest⟩
def M6 (k:IntKind)(w:World)(a:Option Addr)(len cap:Nat)(zs:List Int):Prop:=
 (a=none∧len=0∧cap=0∧zs= [])∨
 ∃ x,a=some x∧len≤cap∧cap≤maxLen∧zs.length=cap∧(∀ i,i<zs.length→w.cell? (x.add i)=some (.int k (zs.getD i 0)))∧ ∀ n∈zs,(Lit.int k n).wf=true
theorem M6.ints {k:IntKind}{w:World}{a:Option Addr}{len cap:Nat}{zs:List Int}(h:M6 k w a len cap zs):
  Reads w w.heap.size a len ((zs.take len).map (Value.int k))∧len≤cap∧(zs.take len).length=len:=by
 rcases h with ⟨rfl,rfl,rfl,rfl⟩ | ⟨x,rfl,hl,hm,hz,hc,hw⟩
 ·exact⟨by simpa using Reads.none_,Nat.le_refl _,rfl⟩
 ·have hlen:(zs.take len).length=len:=by rw [List.length_take];omega
  refine⟨⟨by simpa using hlen,fun hn=>⟨x,rfl,?_,fun j u hu=> ?_⟩⟩,hl,hlen⟩
  ·have:=World.block_lt_of_cell? w _ (hc 0 (by omega));rwa [Zs] at this
  ·simp only [List.getElem?_map,List.getElem?_take] at hu;split at hu
   ·have hj:j<zs.length:=by
     rcases Nat.lt_or_ge j zs.length with h | h
     ·exact h
     ·rw [List.getElem?_eq_none h] at hu;simp at hu
    rw [List.getElem?_eq_getElem hj] at hu;simp only [Option.map_some,Option.some.injEq] at hu;subst hu;have:=hc j hj;rwa [List.getD_eq_getElem?_getD,List.getElem?_eq_getElem hj,Option.getD_some] at this
   ·simp at hu
theorem M6.bytes {w:World}{a:Option Addr}{len cap:Nat}{zs:List Int}(h:M6 .u8 w a len cap zs):
  ∃ l:List UInt8,Reads w w.heap.size a len (MG l)∧len≤cap:=by
 obtain⟨h1,h2,h3⟩:=h.ints;have hw: ∀ n∈zs,(Lit.int .u8 n).wf=true:=by
  rcases h with ⟨_,_,_,rfl⟩ | ⟨_,_,_,_,_,_,hw⟩
  ·intro n hn;cases hn
  ·exact hw
 refine⟨(zs.take len).map fun n=>UInt8.ofNat n.toNat,?_,h2⟩
 have e:MG ((zs.take len).map fun n=>UInt8.ofNat n.toNat)=(zs.take len).map (Value.int .u8):=by
  unfold MG;rw [List.map_map];refine List.map_congr_left fun n hn=> ?_
  have hb:=hw n (List.mem_of_mem_take hn);have hb2:0≤n∧n≤255:=by simpa [Lit.wf,IntKind.min,IntKind.max,IntKind.signed,IntKind.bits] using hb
  have:(UInt8.ofNat n.toNat).toNat=n.toNat % 256:=UInt8.toNat_ofNat';simp only [Function.comp];rw [this];congr 1
  omega
 rw [e];exact h1
end Go.Proofs.YtnhmoibjlakhjaaGreat
