/- Lemmas, each under its own conditions. -/
import Derived.Test.YtnhmoibjlakhjaaGreatW03
import Derived.OpenShut
import Derived.Deep.Slices
import Derived.Test.YtnhmoibjlakhjaaGreatRows
set_option linter.all false
namespace Go.Proofs.YtnhmoibjlakhjaaGreat
set_option maxRecDepth 100000
set_option maxHeartbeats 16000000
open Go.RowKit
mutual
def fits (P:Program):Nat->TypeId->List Sh->Bool
 | 0,_,_=>false
 | n+1,t,sh=>
  match P.underlying t with
  | some (.int .i64)=>match sh with
   | [.num]=>true
   | [.Yo]=>true
   | _=>false
  | some .string=>match sh with
   | [.Z2]=>true
   | _=>false
  | some .bool=>match sh with
   | [.YD]=>true
   | _=>false
  | some (.struct fs)=>Of P n fs.toList 0 sh && (P.cellsOf t == sh.length)
  | some (.slice e)=>match sh with
   | [.rows l]=>fits P n e l && (P.cellsOf e == l.length) && decide (0<l.length)
   | _=>false
  | _=>false
def Of (P:Program):Nat->List Field->Nat->List Sh->Bool
 | _,[],_,sh=>sh.isEmpty
 | 0,_ ::_,_,_=>false
 | n+1,f ::fs,o,sh=>(f.offset == o) && (fits P n f.type (sh.take (P.cellsOf f.type)) && (((sh.take (P.cellsOf f.type)).length == P.cellsOf f.type) && Of P n fs (o+P.cellsOf f.type) (sh.drop (P.cellsOf f.type))))
end
section
variable {H : Type} {enc : TypeId × Value -> H} {P : Program} {w : World} {held : Bool}
theorem ZE.Kj {S:Nat->Prop}{a:Sh}{d:Da}{v:Value}(h:Yv w S a d v): ∃ ds,ZE w S [a] ds [v]:=⟨[d],ZE.one h⟩
theorem Ia {base:Nat}{a:Addr}{n:Nat}{cs:List Value}(h:w.cells? base a n=some cs):cs.length=n/\ ∀ (i:Nat)(u:Value),cs[i]?=some u->w.cell? (a.add i)=some u:=by
 obtain⟨_,C,m⟩:=World.cells?_some h
 refine⟨C,fun i u d=> ?_⟩
 have s:i<n:=by
  rcases Nat.lt_or_ge i cs.length with j | j
  ·omega
  ·rw [List.getElem?_eq_none j] at d;cases d
 rw [m i s];exact d
end
mutual
def wt:Da->Nat
 | .int _=>1
 | .Z2 b=>b.length+1
 | .YD _=>1
 | .rows l=>SA l+1
def Sy:List Da->Nat
 | []=>0
 | d ::ds=>wt d+Sy ds
def SA:List (List Da)->Nat
 | []=>0
 | d ::ds=>Sy d+SA ds
end
theorem JL (a b:List Da):Sy (a ++b)=Sy a+Sy b:=by
 induction a with
 | nil=>simp [Sy]
 | cons d a ih=>simp only [List.cons_append,Sy,ih];omega
theorem NR (n:Int)(s:St):(Xh n s).1.length<=s.1.length+4:=by
 unfold Xh;split
 ·simp [St.put]
 ·simp [St.fail]
theorem Jy (l:List Sh)(h: ∀ ds s,(Xw l ds s).1.length<=s.1.length+8*Sy ds): ∀ (ds:List (List Da))(s:St),(ds.foldl (fun s d=>Xw l d s) s).1.length<=s.1.length+8*SA ds
 | [],s=>by simp
 | d ::ds,s=>by
  have j:=Jy l h ds (Xw l d s)
  have m:=h d s
  simp only [List.foldl_cons,SA]
  omega
mutual
theorem EY: ∀ (a:Sh)(d:Da)(s:St),(lay a d s).1.length<=s.1.length+8*wt d
 | .num,.int n,s=>by simp only [lay,wt];have:=NR n s;omega
 | .Yo,.int n,s=>by simp [lay,wt,Po,St.put]
 | .Z2,.Z2 b,s=>by
  simp only [lay,wt,Vu]
  split
  ·simp [St.put];omega
  ·simp [St.fail]
 | .YD,.YD b,s=>by simp [lay,wt,Jr,St.put]
 | .rows l,.rows ds,s=>by
  simp only [lay,wt]
  split
  ·split
   ·have h:=Jy l (fun ds s=>Jp l ds s) ds (Xh ds.length s)
    have j:=NR ds.length s
    omega
   ·simp [St.fail]
  ·omega
 | .num,.Z2 _,s=>by simp [lay]
 | .num,.YD _,s=>by simp [lay]
 | .num,.rows _,s=>by simp [lay]
 | .Yo,.Z2 _,s=>by simp [lay]
 | .Yo,.YD _,s=>by simp [lay]
 | .Yo,.rows _,s=>by simp [lay]
 | .Z2,.int _,s=>by simp [lay]
 | .Z2,.YD _,s=>by simp [lay]
 | .Z2,.rows _,s=>by simp [lay]
 | .YD,.int _,s=>by simp [lay]
 | .YD,.Z2 _,s=>by simp [lay]
 | .YD,.rows _,s=>by simp [lay]
 | .rows _,.int _,s=>by simp [lay]
 | .rows _,.Z2 _,s=>by simp [lay]
 | .rows _,.YD _,s=>by simp [lay]
theorem Jp: ∀ (l:List Sh)(ds:List Da)(s:St),(Xw l ds s).1.length<=s.1.length+8*Sy ds
 | [],ds,s=>by simp [Xw]
 | a ::l,[],s=>by simp [Xw]
 | a ::l,d ::ds,s=>by
  simp only [Xw,Sy]
  have h:=EY a d s
  have j:=Jp l ds (lay a d s)
  omega
end
section
variable {H : Type} {enc : TypeId × Value -> H} {P : Program} {w : World} {held : Bool}
theorem Ib (d:DataW H):1<=Rows.uptoBulk d:=by
 cases d with
 | lit l=>cases l <;> simp [Rows.uptoBulk]
 | nil=>simp [Rows.uptoBulk]
 | ptr d=>simp [Rows.uptoBulk]
 | slice elems spare=>simp [Rows.uptoBulk]
 | agg parts=>simp [Rows.uptoBulk]
 | iface t d=>simp [Rows.uptoBulk]
 | map entries=>simp [Rows.uptoBulk]
 | held h=>simp [Rows.uptoBulk]
def Eg (f:Nat->Nat):Nat->Nat
 | 0=>0
 | n+1=>Eg f n+f n
theorem RM {n fuel:Nat}{cs:List Value}
  (ih: ∀ (m:Nat) (t:TypeId) (sh:List Sh) (fuel:Nat) (cs:List Value) (x:DataW H×List MemPlace),m<=n->fits P m t sh=true->DataW.trod enc P w 0 (fun _=>true) held fuel t cs=some x-> ∃ ds,ZE w (· < w.heap.size) sh ds cs/\Sy ds<=Rows.uptoBulk x.1):
  ∀ (k:Nat) (d:List Field) (xs:List (DataW H×List MemPlace)) (o:Nat) (sh:List Sh),k<=n+1->Of P k d o sh=true->o+sh.length=cs.length->xs.length=d.length->
   (∀ (i:Nat) (f:Field),d[i]?=some f->DataW.trod enc P w 0 (fun _=>true) held fuel f.type ((cs.drop f.offset).take (P.cellsOf f.type))=xs[i]?)-> ∃ ds,ZE w (· < w.heap.size) sh ds (cs.drop o)/\Sy ds<=Rows.uptoBulkAll (xs.map (·.1))
 | k,[],xs,o,sh,_,hf,hl,hx,_=>by
  have K:sh= []:=by cases k <;> simpa [Of] using hf
  subst K
  refine⟨[],?_,by simp [Sy]⟩
  rw [List.drop_eq_nil_of_le (by simp at hl;omega)]
  exact ZE.EG
 | 0,f ::d,xs,o,sh,_,hf,_,_,_=>by simp [Of] at hf
 | k+1,f ::d,xs,o,sh,hk,hf,hl,hxl,hx=>by
  cases xs with
  | nil=>simp at hxl
  | cons x xs=>
   simp only [Of,Bool.and_eq_true,beq_iff_eq] at hf
   obtain⟨F,G,I,J⟩:=hf
   have h:=hx 0 f rfl
   rw [F] at h
   obtain⟨C,j,M⟩:=ih k f.type _ fuel _ x (by omega) G h
   have L:P.cellsOf f.type<=sh.length:=by rw [List.length_take] at I;omega
   obtain⟨D,s,N⟩:=RM ih k d xs (o+P.cellsOf f.type) (sh.drop (P.cellsOf f.type)) (by omega) J (by rw [List.length_drop];omega) (by simpa using hxl) (fun i E u=>hx (i+1) E (by simpa using u))
   refine⟨C ++D,?_,?_⟩
   ·have:=ZE.join j s
    rwa [List.take_append_drop,<-List.drop_drop,List.take_append_drop] at this
   ·rw [JL]
    simp only [List.map_cons,Rows.uptoBulkAll]
    omega
theorem JK (f:Nat->List Da): ∀ (xs:List (DataW H)),(∀ (i:Nat)(x:DataW H),xs[i]?=some x->Sy (f i)<=Rows.uptoBulk x)->SA ((List.range xs.length).map f)<=Rows.uptoBulkAll xs:=by
 intro xs
 induction xs generalizing f with
 | nil=>intro _;simp [SA]
 | cons x xs ih=>
  intro h
  rw [List.length_cons,List.range_succ_eq_map]
  simp only [List.map_cons,SA,Rows.uptoBulkAll,List.map_map]
  have j:=h 0 x rfl
  have m:=ih (f∘Nat.succ) (fun i y d=>h (i+1) y (by simpa using d))
  omega
theorem Pg: ∀ (n:Nat)(m:Nat)(t:TypeId)(sh:List Sh)(fuel:Nat)(cs:List Value)(x:DataW H×List MemPlace),m<=n->fits P m t sh=true->DataW.trod enc P w 0 (fun _=>true) held fuel t cs=some x-> ∃ ds,ZE w (· < w.heap.size) sh ds cs/\Sy ds<=Rows.uptoBulk x.1:=by
 intro n
 induction n with
 | zero=>
  intro m t sh fuel cs x U C
  obtain rfl:m=0:=by omega
  simp [fits] at C
 | succ n ih=>
  intro m t sh fuel cs x U C D
  have one: ∀ {a:Sh} {d:Da} {v:Value},Yv w (· < w.heap.size) a d v->wt d<=Rows.uptoBulk x.1-> ∃ ds,ZE w (· < w.heap.size) [a] ds [v]/\Sy ds<=Rows.uptoBulk x.1:=fun {a d v} h K=>⟨[d],ZE.one h,by simp only [Sy];omega⟩
  have V:=Ib x.1
  cases m with
  | zero=>simp [fits] at C
  | succ m=>
   simp only [fits] at C
   split at C
   ·rename_i E
    obtain⟨v,rfl,_,K⟩:=DataW.trod_int E D
    have hb: -9223372036854775808<=v/\v<=9223372036854775807:=bounds_i64 K
    split at C
    ·exact one (Yv.Xo v) (by simp only [wt];exact V)
    ·exact one (Yv.U8 hb) (by simp only [wt];exact V)
    ·cases C
   ·rename_i E
    obtain⟨s,rfl,J,_⟩:=DataW.trod_string E D
    split at C
    ·have F:Yv w (· < w.heap.size) .Z2 (.Z2 s.data.toList) (.string s):=by
      have:=Yv.YO (w:=w) (S:=(· < w.heap.size)) s.data.toList
      rwa [Fz] at this
     exact one F (by rw [J];simp only [wt,Rows.uptoBulk];omega)
    ·cases C
   ·rename_i E
    obtain⟨b,rfl,_⟩:=DataW.trod_bool E D
    split at C
    ·exact one (Yv.M5 b) (by simp only [wt];exact V)
    ·cases C
   ·rename_i fs E
    simp only [Bool.and_eq_true,beq_iff_eq] at C
    obtain⟨C,hc⟩:=C
    obtain⟨xs,k,_,J,hl,af,ad⟩:=DataW.trod_struct E D
    have:=RM (n:=n) (fuel:=k) (cs:=cs) (fun m t sh fuel cs x U=>ih m t sh fuel cs x U) m fs.toList xs 0 sh (by omega) C (by omega) (by simpa using af) (fun i f ac=>ad i f (by simpa using ac))
    obtain⟨ds,F,L⟩:=this
    refine⟨ds,by simpa using F,?_⟩
    rw [J]
    simp only [Rows.uptoBulk]
    omega
   ·rename_i e E
    split at C
    ·rename_i l
     simp only [Bool.and_eq_true,beq_iff_eq,decide_eq_true_eq] at C
     obtain⟨⟨C,hc⟩,ae⟩:=C
     rcases DataW.trod_slice E D with ⟨rfl,_⟩ | ⟨a,len,cap,I,rest,k,_,rfl,J,_,ah,ag,ab,aa,_⟩
     ·exact one (Yv.Wn (ds:= []) (A:=none) 0 ZT.nil) (by simp only [wt,SA];omega)
     ·have each: ∀ i,i<len-> ∃ d:List Da,(∃ M,ZE w (· < w.heap.size) l d M/\ ∀ (j:Nat) (u:Value),M[j]?=some u->w.cell? (a.add (i*l.length+j))=some u)/\ ∀ y,I[i]?=some y->Sy d<=Rows.uptoBulk y.1:=by
       intro i O
       have F:=aa i O
       rw [List.getElem?_eq_getElem (by omega)] at F
       obtain⟨Z,L,h3⟩:=Option.bind_eq_some_iff.1 F
       obtain⟨d,hd,K⟩:=ih m e l k Z _ (by omega) C h3
       refine⟨d,⟨Z,hd,fun j u E=> ?_⟩,fun y G=> ?_⟩
       ·have h4:=(Ia L).2 j u E
        rwa [ZG,hc] at h4
       ·rw [List.getElem?_eq_getElem (by omega)] at G
        injection G with G
        rw [<-G]
        exact K
      obtain⟨f,N⟩:=Deep.choose_lt each
      have hr:ZT w (· < w.heap.size) l ((List.range len).map f) (some a):=by
       intro h0
       refine⟨a,rfl,?_,fun j d T=> ?_⟩
       ·obtain⟨M,F,L⟩:=(N 0 (by simpa using h0)).1
        have hv:0<M.length:=by rw [F.len.2];exact ae
        have:=World.block_lt_of_cell? w _ (L 0 _ (List.getElem?_eq_getElem hv))
        rwa [ZL] at this
       ·by_cases hjl:j<len
        ·simp [hjl] at T
         subst T
         exact(N j hjl).1
        ·simp [hjl] at T
      have K:SA ((List.range len).map f)<=Rows.uptoBulkAll (I.map (·.1)):=by
       have:=JK f (I.map (·.1)) (fun i x D=>by
        rw [List.getElem?_map] at D
        cases G:I[i]? with
        | none=>rw [G] at D;cases D
        | some y=>
         rw [G] at D
         simp only [Option.map_some,Option.some.injEq] at D
         have O:i<len:=by
          rcases Nat.lt_or_ge i I.length with h | h
          ·omega
          ·rw [List.getElem?_eq_none h] at G;cases G
         rw [<-D]
         exact(N i O).2 y G)
       rwa [List.length_map,ab] at this
      have F:=one (Yv.Wn cap hr) (by rw [J];simp only [wt,Rows.uptoBulk];omega)
      simpa using F
    ·cases C
   ·cases C
end
end Go.Proofs.YtnhmoibjlakhjaaGreat
