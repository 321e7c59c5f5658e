/- Lemmas of the proof. No condition but each theorem's own. -/
import Derived.Test.YtnhmoibjlakhjaaGreatR45
import Derived.Test.YtnhmoibjlakhjaaGreatRows
set_option linter.unusedVariables false
set_option linter.unusedSimpArgs false
namespace Go.Proofs.YtnhmoibjlakhjaaGreat
set_option maxRecDepth 100000
set_option maxHeartbeats 16000000
open Go.RowKit
mutual
def wt:Da→Nat
 | .int _=>1
 | .Z9 b=>b.length+1
 | .YY _=>1
 | .rows l=>TX l+1
def Tj:List Da→Nat
 | []=>0
 | d ::ds=>wt d+Tj ds
def TX:List (List Da)→Nat
 | []=>0
 | d ::ds=>Tj d+TX ds
end
theorem Na (a b:List Da):Tj (a ++b)=Tj a+Tj b:=by
 induction a with
 | nil=>simp [Tj]
 | cons d a ih=>simp only [List.cons_append,Tj,ih];omega
theorem Qq (n:Int)(s:St):(XD n s).1.length≤s.1.length+4:=by
 unfold XD;split
 ·simp [St.put]
 ·simp [St.fail]
theorem MS (l:List Sh)(h: ∀ ds s,(XR l ds s).1.length≤s.1.length+8*Tj ds): ∀ (ds:List (List Da))(s:St),(ds.foldl (fun s d=>XR l d s) s).1.length≤s.1.length+8*TX ds
 | [],s=>by simp
 | d ::ds,s=>by
  have h1:=MS l h ds (XR l d s);have h2:=h d s;simp only [List.foldl_cons,TX];omega
mutual
theorem JQ: ∀ (a:Sh)(d:Da)(s:St),(lay a d s).1.length≤s.1.length+8*wt d
 | .num,.int n,s=>by simp only [lay,wt];have:=Qq n s;omega
 | .YF,.int n,s=>by simp [lay,wt,RI,St.put]
 | .Z9,.Z9 b,s=>by
  simp only [lay,wt,Wp];split
  ·simp [St.put];omega
  ·simp [St.fail]
 | .YY,.YY b,s=>by simp [lay,wt,MN,St.put]
 | .rows l,.rows ds,s=>by
  simp only [lay,wt];split
  ·split
   ·have h1:=MS l (fun ds s=>ML l ds s) ds (XD ds.length s);have h2:=Qq ds.length s;omega
   ·simp [St.fail]
  ·omega
 | .num,.Z9 _,s=>by simp [lay]
 | .num,.YY _,s=>by simp [lay]
 | .num,.rows _,s=>by simp [lay]
 | .YF,.Z9 _,s=>by simp [lay]
 | .YF,.YY _,s=>by simp [lay]
 | .YF,.rows _,s=>by simp [lay]
 | .Z9,.int _,s=>by simp [lay]
 | .Z9,.YY _,s=>by simp [lay]
 | .Z9,.rows _,s=>by simp [lay]
 | .YY,.int _,s=>by simp [lay]
 | .YY,.Z9 _,s=>by simp [lay]
 | .YY,.rows _,s=>by simp [lay]
 | .rows _,.int _,s=>by simp [lay]
 | .rows _,.Z9 _,s=>by simp [lay]
 | .rows _,.YY _,s=>by simp [lay]
theorem ML: ∀ (l:List Sh)(ds:List Da)(s:St),(XR l ds s).1.length≤s.1.length+8*Tj ds
 | [],ds,s=>by simp [XR]
 | a ::l,[],s=>by simp [XR]
 | a ::l,d ::ds,s=>by
  simp only [XR,Tj];have h1:=JQ a d s;have h2:=ML l ds (lay a d s);omega
end
section
variable {H : Type} {enc : TypeId × Value → H} {P : Program} {w : World} {held : Bool}
theorem LK (d:DataW H):1≤Rows.uptoBulk d:=by
 cases d with
 | lit l=>cases l <;> simp [Rows.uptoBulk]
 | nil=>simp [Rows.uptoBulk]
 | ptr d=>simp [Rows.uptoBulk]
 | slice elems spare=>simp [Rows.uptoBulk]
 | agg parts=>simp [Rows.uptoBulk]
 | iface t d=>simp [Rows.uptoBulk]
 | map entries=>simp [Rows.uptoBulk]
 | held h=>simp [Rows.uptoBulk]
def Jc (f:Nat→Nat):Nat→Nat
 | 0=>0
 | n+1=>Jc f n+f n
theorem Ts {n fuel:Nat}{cs:List Value}
  (ih: ∀ (m:Nat) (t:TypeId) (sh:List Sh) (fuel:Nat) (cs:List Value) (x:DataW H×List MemPlace),m≤n→fits P m t sh=true→DataW.trod enc P w 0 (fun _=>true) held fuel t cs=some x→ ∃ ds,ZH w (· < w.heap.size) sh ds cs∧Tj ds≤Rows.uptoBulk x.1):
  ∀ (k:Nat) (fs:List Field) (xs:List (DataW H×List MemPlace)) (o:Nat) (sh:List Sh),k≤n+1→QC P k fs o sh=true→o+sh.length=cs.length→xs.length=fs.length→
   (∀ (i:Nat) (f:Field),fs[i]?=some f→DataW.trod enc P w 0 (fun _=>true) held fuel f.type ((cs.drop f.offset).take (P.cellsOf f.type))=xs[i]?)→ ∃ ds,ZH w (· < w.heap.size) sh ds (cs.drop o)∧Tj ds≤Rows.uptoBulkAll (xs.map (·.1))
 | k,[],xs,o,sh,_,hf,hl,hx,_=>by
  have hs:sh= []:=by cases k <;> simpa [QC] using hf
  subst hs;refine⟨[],?_,by simp [Tj]⟩
  rw [List.drop_eq_nil_of_le (by simp at hl;omega)];exact ZH.JB
 | 0,f ::fs,xs,o,sh,_,hf,_,_,_=>by simp [QC] at hf
 | k+1,f ::fs,xs,o,sh,hk,hf,hl,hxl,hx=>by
  cases xs with
  | nil=>simp at hxl
  | cons x xs=>
   simp only [QC,Bool.and_eq_true,beq_iff_eq] at hf;obtain⟨h1,h2,h3,h4⟩:=hf;have hx0:=hx 0 f rfl;rw [h1] at hx0;obtain⟨d1,hd1,hw1⟩:=ih k f.type _ fuel _ x (by omega) h2 hx0;have hle:P.cellsOf f.type≤sh.length:=by rw [List.length_take] at h3;omega
   obtain⟨d2,hd2,hw2⟩:=Ts ih k fs xs (o+P.cellsOf f.type) (sh.drop (P.cellsOf f.type)) (by omega) h4 (by rw [List.length_drop];omega) (by simpa using hxl) (fun i f' hf'=>hx (i+1) f' (by simpa using hf'));refine⟨d1 ++d2,?_,?_⟩
   ·have:=ZH.join hd1 hd2;rwa [List.take_append_drop,←List.drop_drop,List.take_append_drop] at this
   ·rw [Na];simp only [List.map_cons,Rows.uptoBulkAll];omega
theorem M9 (f:Nat→List Da): ∀ (xs:List (DataW H)),(∀ (i:Nat)(x:DataW H),xs[i]?=some x→Tj (f i)≤Rows.uptoBulk x)→TX ((List.range xs.length).map f)≤Rows.uptoBulkAll xs:=by
 intro xs;induction xs generalizing f with
 | nil=>intro _;simp [TX]
 | cons x xs ih=>
  intro h;rw [List.length_cons,List.range_succ_eq_map];simp only [List.map_cons,TX,Rows.uptoBulkAll,List.map_map];have h0:=h 0 x rfl;have h1:=ih (f∘Nat.succ) (fun i y hy=>h (i+1) y (by simpa using hy));omega
theorem NE: ∀ (n:Nat)(m:Nat)(t:TypeId)(sh:List Sh)(fuel:Nat)(cs:List Value)(x:DataW H×List MemPlace),m≤n→fits P m t sh=true→DataW.trod enc P w 0 (fun _=>true) held fuel t cs=some x→ ∃ ds,ZH w (· < w.heap.size) sh ds cs∧Tj ds≤Rows.uptoBulk x.1:=by
 intro n;induction n with
 | zero=>
  intro m t sh fuel cs x hm hf;obtain rfl:m=0:=by omega
  simp [fits] at hf
 | succ n ih=>
  intro m t sh fuel cs x hm hf hx;have one: ∀ {a:Sh} {d:Da} {v:Value},YK w (· < w.heap.size) a d v→wt d≤Rows.uptoBulk x.1→ ∃ ds,ZH w (· < w.heap.size) [a] ds [v]∧Tj ds≤Rows.uptoBulk x.1:=fun {a d v} h hw=>⟨[d],ZH.one h,by simp only [Tj];omega⟩
  have hp:=LK x.1
  cases m with
  | zero=>simp [fits] at hf
  | succ m=>
   simp only [fits] at hf;split at hf
   ·rename_i hu;obtain⟨v,rfl,_,hw⟩:=DataW.trod_int hu hx;have hb: -9223372036854775808≤v∧v≤9223372036854775807:=bounds_i64 hw;split at hf
    ·exact one (YK.Xq v) (by simp only [wt];exact hp)
    ·exact one (YK.UU hb) (by simp only [wt];exact hp)
    ·cases hf
   ·rename_i hu;obtain⟨s,rfl,hxe,_⟩:=DataW.trod_string hu hx;split at hf
    ·have h1:YK w (· < w.heap.size) .Z9 (.Z9 s.data.toList) (.string s):=by
      have:=YK.YZ (w:=w) (S:=(· < w.heap.size)) s.data.toList;rwa [Ka] at this
     exact one h1 (by rw [hxe];simp only [wt,Rows.uptoBulk];omega)
    ·cases hf
   ·rename_i hu;obtain⟨b,rfl,_⟩:=DataW.trod_bool hu hx;split at hf
    ·exact one (YK.Pz b) (by simp only [wt];exact hp)
    ·cases hf
   ·rename_i fs hu;simp only [Bool.and_eq_true,beq_iff_eq] at hf;obtain⟨hf,hc⟩:=hf;obtain⟨xs,k,_,hxe,hl,hxl,hfs⟩:=DataW.trod_struct hu hx;have:=Ts (n:=n) (fuel:=k) (cs:=cs) (fun m t sh fuel cs x hm=>ih m t sh fuel cs x hm) m fs.toList xs 0 sh (by omega) hf (by omega) (by simpa using hxl) (fun i f hf'=>hfs i f (by simpa using hf'));obtain⟨ds,h1,h2⟩:=this;refine⟨ds,by simpa using h1,?_⟩
    rw [hxe];simp only [Rows.uptoBulk];omega
   ·rename_i e hu;split at hf
    ·rename_i l;simp only [Bool.and_eq_true,beq_iff_eq,decide_eq_true_eq] at hf;obtain⟨⟨hf,hc⟩,hp0⟩:=hf;rcases DataW.trod_slice hu hx with ⟨rfl,_⟩ | ⟨a,len,cap,elems,rest,k,_,rfl,hxe,_,hlc,hcm,hel,hat,_⟩
     ·exact one (YK.WJ (ds:= []) (A:=none) 0 ZV.nil) (by simp only [wt,TX];omega)
     ·have each: ∀ i,i<len→ ∃ d:List Da,(∃ vs,ZH w (· < w.heap.size) l d vs∧ ∀ (j:Nat) (u:Value),vs[j]?=some u→w.cell? (a.add (i*l.length+j))=some u)∧ ∀ y,elems[i]?=some y→Tj d≤Rows.uptoBulk y.1:=by
       intro i hi;have h1:=hat i hi;rw [List.getElem?_eq_getElem (by omega)] at h1;obtain⟨cs',h2,h3⟩:=Option.bind_eq_some_iff.1 h1;obtain⟨d,hd,hw⟩:=ih m e l k cs' _ (by omega) hf h3;refine⟨d,⟨cs',hd,fun j u hu=> ?_⟩,fun y hy=> ?_⟩
       ·have h4:=(LJ h2).2 j u hu;rwa [ZG,hc] at h4
       ·rw [List.getElem?_eq_getElem (by omega)] at hy;injection hy with hy
        rw [←hy];exact hw
      obtain⟨f,hf2⟩:=Deep.choose_lt each;have hr:ZV w (· < w.heap.size) l ((List.range len).map f) (some a):=by
       intro h0;refine⟨a,rfl,?_,fun j d hj=> ?_⟩
       ·obtain⟨vs,h1,h2⟩:=(hf2 0 (by simpa using h0)).1;have hv:0<vs.length:=by rw [h1.len.2];exact hp0
        have:=World.block_lt_of_cell? w _ (h2 0 _ (List.getElem?_eq_getElem hv));rwa [Zs] at this
       ·by_cases hjl:j<len
        ·simp [hjl] at hj;subst hj;exact(hf2 j hjl).1
        ·simp [hjl] at hj
      have hw:TX ((List.range len).map f)≤Rows.uptoBulkAll (elems.map (·.1)):=by
       have:=M9 f (elems.map (·.1)) (fun i x hx=>by
        rw [List.getElem?_map] at hx
        cases hy:elems[i]? with
        | none=>rw [hy] at hx;cases hx
        | some y=>
         rw [hy] at hx;simp only [Option.map_some,Option.some.injEq] at hx;have hi:i<len:=by
          rcases Nat.lt_or_ge i elems.length with h | h
          ·omega
          ·rw [List.getElem?_eq_none h] at hy;cases hy
         rw [←hx];exact(hf2 i hi).2 y hy)
       rwa [List.length_map,hel] at this
      have h1:=one (YK.WJ cap hr) (by rw [hxe];simp only [wt,Rows.uptoBulk];omega);simpa using h1
    ·cases hf
   ·cases hf
end
end Go.Proofs.YtnhmoibjlakhjaaGreat
