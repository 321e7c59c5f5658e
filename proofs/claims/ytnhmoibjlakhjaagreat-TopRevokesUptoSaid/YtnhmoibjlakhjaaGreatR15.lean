/- Lemmas of the proof. No condition but each theorem's own. -/
import Derived.Test.YtnhmoibjlakhjaaGreatR11
import Derived.Test.YtnhmoibjlakhjaaGreatR10
import Derived.Test.YtnhmoibjlakhjaaGreatR09
import Derived.Test.YtnhmoibjlakhjaaGreatR03
import Derived.Deep.RegionLaw
import Derived.Test.YtnhmoibjlakhjaaGreatR01
import Derived.Lib.SliceRun
import Derived.Deep.RegionHeld3
set_option linter.unusedVariables false
set_option linter.unusedSimpArgs false
namespace Go.Proofs.YtnhmoibjlakhjaaGreat
set_option maxRecDepth 100000
set_option maxHeartbeats 16000000
open Go.RowKit Le
def Nw (w:World)(base:Nat)(ts:List TypeId)(k:Nat):Prop:=base≤k∧ ∃ t,t∈ts∧ ∃ cs,w.heap[k]?=some (.cells cs t (0,0))
section
variable {w w' : World} {base base' : Nat} {ts ts' : List TypeId} {k : Nat}
theorem Nw.lt (h:Nw w base ts k):k<w.heap.size:=by
 obtain⟨_,t,_,cs,h⟩:=h;exact(Array.getElem?_eq_some_iff.1 h).1
theorem Nw.below (h:Nw w base ts k)(hb:Below w.heap.size w w'):Nw w' base ts k:=by
 have hlt:=h.lt;obtain⟨hk,t,ht,cs,h⟩:=h;exact⟨hk,t,ht,cs,(hb.block k hlt).trans h⟩
theorem Nw.mono (h:Nw w base ts k)(hb:base'≤base)(hs: ∀ t,t∈ts→t∈ts'):Nw w base' ts' k:=by
 obtain⟨hk,t,ht,cs,h⟩:=h;exact⟨Nat.le_trans hb hk,t,hs t ht,cs,h⟩
theorem ZV.RC {l:List Sh}{ds:List (List Da)}{A:Option Addr}(h:ZV w (Nw w base ts) l ds A)(hb:Below w.heap.size w w'):ZV w' (Nw w' base ts) l ds A:=
 h.Y6 (fun _ h=>h.below hb) (fun _ hp=>hb.cell hp.lt)
theorem ZV.Oz {l:List Sh}{ds:List (List Da)}{A:Option Addr}(h:ZV w (Nw w base ts) l ds A):ZV w (· < w.heap.size) l ds A:=
 h.Y6 (fun _ h=>h.lt) (fun _ _=>rfl)
theorem ZV.UF {l:List Sh}{ds:List (List Da)}{A:Option Addr}(h:ZV w (Nw w base ts) l ds A)(hb:base'≤base)(hs: ∀ t,t∈ts→t∈ts'):ZV w (Nw w base' ts') l ds A:=
 h.Y6 (fun _ h=>h.mono hb hs) (fun _ _=>rfl)
theorem ZH.RC {l:List Sh}{ds:List Da}{vs:List Value}(h:ZH w (Nw w base ts) l ds vs)(hb:Below w.heap.size w w'):ZH w' (Nw w' base ts) l ds vs:=
 ZH.Y6 (fun _ h=>h.below hb) (fun _ hp=>hb.cell hp.lt) l ds vs h
theorem ZH.Oz {l:List Sh}{ds:List Da}{vs:List Value}(h:ZH w (Nw w base ts) l ds vs):ZH w (· < w.heap.size) l ds vs:=
 ZH.Y6 (fun _ h=>h.lt) (fun _ _=>rfl) l ds vs h
theorem ZH.UF {l:List Sh}{ds:List Da}{vs:List Value}(h:ZH w (Nw w base ts) l ds vs)(hb:base'≤base)(hs: ∀ t,t∈ts→t∈ts'):ZH w (Nw w base' ts') l ds vs:=
 ZH.Y6 (fun _ h=>h.mono hb hs) (fun _ _=>rfl) l ds vs h
theorem ZR.step {ts:List TypeId}{w w1:World}{g i:Nat}{t:TypeId}{u:Value}(hk:ZR ts w w1)(hg:Zc w1 g t)(ht:t∈ts):ZR ts w (w1.setCell ⟨g,i,none⟩ u):=hk.trans (ZR.Zx hg ht u)
theorem Nw.keeps {us:List TypeId}(h:Nw w base ts k)(hk:ZR us w w')(hd: ∀ t,t∈ts→t∉us):Nw w' base ts k∧w'.heap[k]?=w.heap[k]?:=by
 obtain⟨hb,t,ht,cs,h⟩:=h;have e:=hk.block k t ⟨_,_,h⟩ (hd t ht);exact⟨⟨hb,t,ht,cs,e.trans h⟩,e⟩
theorem ZV.WD {us:List TypeId}{l:List Sh}{ds:List (List Da)}{A:Option Addr}(h:ZV w (Nw w base ts) l ds A)(hk:ZR us w w')(hd: ∀ t,t∈ts→t∉us):ZV w' (Nw w' base ts) l ds A:=
 h.Y6 (fun _ h=>(h.keeps hk hd).1) (fun _ hp=>World.cell?_of_block (hp.keeps hk hd).2)
theorem ZH.WD {us:List TypeId}{l:List Sh}{ds:List Da}{vs:List Value}(h:ZH w (Nw w base ts) l ds vs)(hk:ZR us w w')(hd: ∀ t,t∈ts→t∉us):ZH w' (Nw w' base ts) l ds vs:=
 ZH.Y6 (fun _ h=>(h.keeps hk hd).1) (fun _ hp=>World.cell?_of_block (hp.keeps hk hd).2) l ds vs h
theorem ZV.Ya {B B':Nat}{l:List Sh}{ds:List (List Da)}{A:Option Addr}(h:ZV w (· < B) l ds A)(hb:B≤B'):ZV w (· < B') l ds A:=
 h.Y6 (fun _ h=>Nat.lt_of_lt_of_le h hb) (fun _ _=>rfl)
end
def KA (l:List Int):List Value:=l.map (Value.int .i64)
@[simp] theorem J3 (l:List Int):(KA l).length=l.length:=by simp [KA]
section
variable {w : World} {S : Nat → Prop} {B : Nat} {l : List Int} {A : Option Addr}
theorem ZV.reads (h:ZV w S [.num] (XN l) A)(hS: ∀ k,S k→k<B):Reads w B A l.length (KA l):=by
 refine⟨by simp,fun hn=> ?_⟩
 obtain⟨ad,e,hb,hc⟩:=h (by rw [RD];exact hn);refine⟨ad,e,hS _ hb,fun j u hu=> ?_⟩
 simp only [KA,List.getElem?_map] at hu
 cases hj:l[j]? with
 | none=>rw [hj] at hu;simp at hu
 | some n=>
  rw [hj] at hu;simp only [Option.map_some,Option.some.injEq] at hu;subst hu;obtain⟨vs,h1,h2⟩:=hc j [.int n] (by simp [XN,hj]);obtain⟨d,ds',v,vs',e1,rfl,h3,h4⟩:=h1.cons;obtain⟨m,rfl,rfl⟩:=h3.num;injection e1 with e1
  injection e1 with e1
  subst e1;have:=h2 0 _ rfl;simpa using this
end
theorem WR (w:World)(t:TypeId)(B size:Nat)(hB:B≤w.heap.size):(w.alloc (.cells #[] t)).ownsRow B t size (.slice (some ⟨w.heap.size,0,none⟩) 0 0) 0 []:=
 ⟨by simp,.inr ⟨w.heap.size,0,#[],rfl,hB,heap_alloc_new w _,Nat.le_refl _,by simp [maxLen],by simp,by simp⟩⟩
def IW (w:World)(l:List Int)(e:Ending)(w':World):Prop:=
 ∃ A c,e= .returned (.slice A l.length c)∧ZV w' (Nw w' w.heap.size [3]) [.num] (XN l) A∧Below w.heap.size w w'
end Go.Proofs.YtnhmoibjlakhjaaGreat
