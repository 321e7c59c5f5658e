/- Lemmas of the proof. No condition but each theorem's own. -/
set_option linter.unusedVariables false
set_option linter.unusedSimpArgs false
namespace Go.Proofs.YtnhmoibjlakhjaaGreat
set_option maxRecDepth 100000
set_option maxHeartbeats 16000000
namespace Le
set_option maxRecDepth 100000
set_option maxHeartbeats 16000000
def low:Nat→Nat→List UInt8
 | _,0=> []
 | v,n+1=>UInt8.ofNat v ::low (v / 256) n
def num:List UInt8→Nat
 | []=>0
 | c ::l=>c.toNat+256*num l
@[simp] theorem Jz (v n:Nat):(low v n).length=n:=by
 induction n generalizing v with
 | zero=>rfl
 | succ n ih=>simp [low,ih]
theorem JD (l:List UInt8):num l<256 ^ l.length:=by
 induction l with
 | nil=>simp [num]
 | cons c l ih=>have:=c.toNat_lt;simp only [num,List.length_cons,Nat.pow_succ];omega
theorem PE (v n:Nat):num (low v n)=v % 256 ^ n:=by
 induction n generalizing v with
 | zero=>simp [low,num,Nat.mod_one]
 | succ n ih=>
  simp only [low,num,ih];rw [Nat.pow_succ,Nat.mul_comm (256 ^ n) 256,Nat.mod_mul];simp
theorem J7 (l:List UInt8):low (num l) l.length=l:=by
 induction l with
 | nil=>rfl
 | cons c l ih=>
  have hc:=c.toNat_lt;simp only [List.length_cons,low,num];rw [show (c.toNat+256*num l) / 256=num l by omega,ih];congr 1
  apply UInt8.toNat_inj.1;simp
end Le
end Go.Proofs.YtnhmoibjlakhjaaGreat
namespace Go.Proofs.YtnhmoibjlakhjaaGreat
set_option maxRecDepth 100000
set_option maxHeartbeats 16000000
open Le
inductive Sh where
 | num | YG | Z9 | YV
 | rows (l:List Sh)
inductive Da where
 | int (n:Int)
 | Z9 (b:List UInt8)
 | YV (b:Bool)
 | rows (l:List (List Da))
abbrev St:=List UInt8×Nat
def SD (n:Int):Nat:=(n % 18446744073709551616).toNat
def Nu (v:Nat):Int:=if v<9223372036854775808 then(v:Int) else(v:Int) - 18446744073709551616
def St.put (s:St)(b:List UInt8):St:=(s.1 ++b,s.2)
def St.fail (s:St)(e:Nat):St:=(s.1,if s.2=0 then e else s.2)
def XD (n:Int)(s:St):St:=if 0≤n∧n≤1000000000 then s.put (low n.toNat 4) else s.fail 1
def Wq (b:List UInt8)(s:St):St:=if b.length≤65536 then s.put (low b.length 4 ++b) else s.fail 2
def RY (n:Int)(s:St):St:=s.put (low (SD n) 8)
def MO (b:Bool)(s:St):St:=s.put [if b then 1 else 0]
def IM (n:Nat)(s:St):St:=if n≤4096 then XD n s else s.fail 2
mutual
def lay:Sh→Da→St→St
 | .num,.int n,s=>XD n s
 | .YG,.int n,s=>RY n s
 | .Z9,.Z9 b,s=>Wq b s
 | .YV,.YV b,s=>MO b s
 | .rows l,.rows ds,s=>if s.2=0 then(if ds.length≤4096 then ds.foldl (fun s d=>XQ l d s) (XD ds.length s) else s.fail 2) else s
 | _,_,s=>s
def XQ:List Sh→List Da→St→St
 | a ::l,d ::ds,s=>XQ l ds (lay a d s)
 | _,_,s=>s
end
def iter {α:Type}(f:List UInt8→Option (α×List UInt8)):Nat→List UInt8→Option (List α×List UInt8)
 | 0,l=>some ([],l)
 | n+1,l=>(f l).bind fun x=>(iter f n x.2).bind fun y=>some (x.1 ::y.1,y.2)
def rdNum (l:List UInt8):Option (Nat×List UInt8):=if l.length<4 then none else if 1000000000<num (l.take 4) then none else some (num (l.take 4),l.drop 4)
def TP (l:List UInt8):Option (Int×List UInt8):=if l.length<8 then none else some (Nu (num (l.take 8)),l.drop 8)
def LA (l:List UInt8):Option (List UInt8×List UInt8):=
 if l.length<4 then none else if 65536<num (l.take 4) then none else if l.length<4+num (l.take 4) then none
 else some ((l.drop 4).take (num (l.take 4)),l.drop (4+num (l.take 4)))
def M7:List UInt8→Option (Bool×List UInt8)
 | []=>none
 | c ::l=>if c.toNat≤1 then some (c.toNat == 1,l) else none
mutual
def rd:Sh→List UInt8→Option (Da×List UInt8)
 | .num,l=>(rdNum l).bind fun x=>some (.int x.1,x.2)
 | .YG,l=>(TP l).bind fun x=>some (.int x.1,x.2)
 | .Z9,l=>(LA l).bind fun x=>some (.Z9 x.1,x.2)
 | .YV,l=>(M7 l).bind fun x=>some (.YV x.1,x.2)
 | .rows sh,l=>(rdNum l).bind fun x=>if x.1≤4096 then(iter (LP sh) x.1 x.2).bind fun y=>some (.rows y.1,y.2) else none
def LP:List Sh→List UInt8→Option (List Da×List UInt8)
 | [],l=>some ([],l)
 | a ::sh,l=>(rd a l).bind fun x=>(LP sh x.2).bind fun y=>some (x.1 ::y.1,y.2)
end
theorem St.ME {s:St}(h:s.2≠0)(e:Nat):(s.fail e).2=s.2:=by simp [St.fail,h]
theorem Ni {s:St}(h:s.2≠0)(n:Int):(XD n s).2=s.2:=by
 unfold XD;split
 ·rfl
 ·exact St.ME h _
theorem Oh {s:St}(h:s.2≠0)(b:List UInt8):(Wq b s).2=s.2:=by
 unfold Wq;split
 ·rfl
 ·exact St.ME h _
mutual
theorem Ka: ∀ (a:Sh)(d:Da)(s:St),s.2≠0→(lay a d s).2=s.2
 | .num,.int n,s,h=>Ni h n
 | .YG,.int n,s,h=>rfl
 | .Z9,.Z9 b,s,h=>Oh h b
 | .YV,.YV b,s,h=>rfl
 | .rows l,.rows ds,s,h=>by simp [lay,h]
 | .num,.Z9 _,s,h=>rfl
 | .num,.YV _,s,h=>rfl
 | .num,.rows _,s,h=>rfl
 | .YG,.Z9 _,s,h=>rfl
 | .YG,.YV _,s,h=>rfl
 | .YG,.rows _,s,h=>rfl
 | .Z9,.int _,s,h=>rfl
 | .Z9,.YV _,s,h=>rfl
 | .Z9,.rows _,s,h=>rfl
 | .YV,.int _,s,h=>rfl
 | .YV,.Z9 _,s,h=>rfl
 | .YV,.rows _,s,h=>rfl
 | .rows _,.int _,s,h=>rfl
 | .rows _,.Z9 _,s,h=>rfl
 | .rows _,.YV _,s,h=>rfl
theorem Sd: ∀ (l:List Sh)(ds:List Da)(s:St),s.2≠0→(XQ l ds s).2=s.2
 | [],_,s,h=>by simp [XQ]
 | _ ::_,[],s,h=>by simp [XQ]
 | a ::l,d ::ds,s,h=>by
  have h1:=Ka a d s h;have h2:=Sd l ds (lay a d s) (by rw [h1];exact h);simp only [XQ];rw [h2,h1]
end
theorem LB (l:List Sh)(ds:List (List Da))(s:St)(h:s.2≠0):(ds.foldl (fun s d=>XQ l d s) s).2=s.2:=by
 induction ds generalizing s with
 | nil=>rfl
 | cons d ds ih=>
  have h1:=Sd l d s h;simp only [List.foldl_cons];rw [ih _ (by rw [h1];exact h),h1]
def Yh (s s':St):Prop:= ∃ p,s'.1=s.1 ++p
theorem Yh.refl (s:St):Yh s s:=⟨[],by simp⟩
theorem Yh.trans {a b c:St}(h:Yh a b)(g:Yh b c):Yh a c:=by
 obtain⟨p,hp⟩:=h;obtain⟨q,hq⟩:=g;exact⟨p ++q,by rw [hq,hp,List.append_assoc]⟩
theorem UD (s:St)(b:List UInt8):Yh s (s.put b):=⟨b,rfl⟩
theorem Ue (s:St)(e:Nat):Yh s (s.fail e):=⟨[],by simp [St.fail]⟩
theorem Qp (n:Int)(s:St):Yh s (XD n s):=by
 unfold XD;split
 ·exact UD _ _
 ·exact Ue _ _
theorem Np (b:List UInt8)(s:St):Yh s (Wq b s):=by
 unfold Wq;split
 ·exact UD _ _
 ·exact Ue _ _
theorem M6 (l:List Sh)(hl: ∀ ds s,Yh s (XQ l ds s))(ds:List (List Da))(s:St):Yh s (ds.foldl (fun s d=>XQ l d s) s):=by
 induction ds generalizing s with
 | nil=>exact Yh.refl s
 | cons d ds ih=>exact(hl d s).trans (ih _)
mutual
theorem L3: ∀ (a:Sh)(d:Da)(s:St),Yh s (lay a d s)
 | .num,.int n,s=>Qp n s
 | .YG,.int n,s=>UD _ _
 | .Z9,.Z9 b,s=>Np b s
 | .YV,.YV b,s=>UD _ _
 | .rows l,.rows ds,s=>by
  simp only [lay];split
  ·split
   ·exact(Qp _ s).trans (M6 l (fun ds s=>RJ l ds s) ds _)
   ·exact Ue _ _
  ·exact Yh.refl s
 | .num,.Z9 _,s=>Yh.refl s
 | .num,.YV _,s=>Yh.refl s
 | .num,.rows _,s=>Yh.refl s
 | .YG,.Z9 _,s=>Yh.refl s
 | .YG,.YV _,s=>Yh.refl s
 | .YG,.rows _,s=>Yh.refl s
 | .Z9,.int _,s=>Yh.refl s
 | .Z9,.YV _,s=>Yh.refl s
 | .Z9,.rows _,s=>Yh.refl s
 | .YV,.int _,s=>Yh.refl s
 | .YV,.Z9 _,s=>Yh.refl s
 | .YV,.rows _,s=>Yh.refl s
 | .rows _,.int _,s=>Yh.refl s
 | .rows _,.Z9 _,s=>Yh.refl s
 | .rows _,.YV _,s=>Yh.refl s
theorem RJ: ∀ (l:List Sh)(ds:List Da)(s:St),Yh s (XQ l ds s)
 | [],_,s=>by simp only [XQ];exact Yh.refl s
 | _ ::_,[],s=>by simp only [XQ];exact Yh.refl s
 | a ::l,d ::ds,s=>by
  simp only [XQ];exact(L3 a d s).trans (RJ l ds _)
end
theorem RM {l:List UInt8}{k:Nat}(h:k≤l.length):low (num (l.take k)) k=l.take k:=by
 have:=J7 (l.take k);rwa [List.length_take,Nat.min_eq_left h] at this
theorem SZ (l:List UInt8)(h:4≤l.length)(hv:num (l.take 4)≤1000000000)(B:List UInt8):XD (num (l.take 4)) (B,0)=(B ++l.take 4,0):=by
 unfold XD;rw [if_pos ⟨by omega,by omega⟩,Int.toNat_natCast,RM h];rfl
theorem RD {l r:List UInt8}{n:Nat}(h:rdNum l=some (n,r)):l=l.take 4 ++r∧n=num (l.take 4)∧n≤1000000000∧4≤l.length:=by
 unfold rdNum at h;split at h
 ·cases h
 ·split at h
  ·cases h
  ·cases h
   exact⟨by simp,rfl,by omega,by omega⟩
theorem Pq {l r:List UInt8}{n:Int}(h:TP l=some (n,r)):l=l.take 8 ++r∧n=Nu (num (l.take 8))∧8≤l.length:=by
 unfold TP at h;split at h
 ·cases h
 ·cases h
  exact⟨by simp,rfl,by omega⟩
theorem MB (v:Nat)(h:v<18446744073709551616):SD (Nu v)=v:=by
 unfold SD Nu;split <;> omega
theorem Mw {l r b:List UInt8}(h:LA l=some (b,r)):l=l.take 4 ++ (b ++r)∧b.length=num (l.take 4)∧b.length≤65536∧4≤l.length:=by
 unfold LA at h;split at h
 ·cases h
 ·split at h
  ·cases h
  ·split at h
   ·cases h
   ·cases h
    have hb:((l.drop 4).take (num (l.take 4))).length=num (l.take 4):=by rw [List.length_take,List.length_drop];omega
    have e:l=l.take 4 ++l.drop 4:=(List.take_append_drop 4 l).symm;have e2:l.drop 4=(l.drop 4).take (num (l.take 4)) ++l.drop (4+num (l.take 4)):=by
     rw [←List.drop_drop,List.take_append_drop]
    exact⟨e.trans (congrArg (l.take 4 ++ ·) e2),hb,by omega,by omega⟩
theorem Oz {l r:List UInt8}{b:Bool}(h:M7 l=some (b,r)):l= [if b then 1 else 0] ++r:=by
 cases l with
 | nil=>cases h
 | cons c l=>
  by_cases hc:c.toNat≤1
  ·have h':(if c.toNat≤1 then some (c.toNat == 1,l) else none)=some (b,r):=h;rw [if_pos hc] at h'
   cases h'
   have h01:c.toNat=0∨c.toNat=1:=by omega
   rcases h01 with h0 | h1
   ·have:c=0:=UInt8.toNat_inj.1 h0;subst this;rfl
   ·have:c=1:=UInt8.toNat_inj.1 h1;subst this;rfl
  ·have h':(if c.toNat≤1 then some (c.toNat == 1,l) else none)=some (b,r):=h;rw [if_neg hc] at h'
   cases h'
theorem LJ (sh:List Sh)(h: ∀ l ds r,LP sh l=some (ds,r)→ ∃ p,l=p ++r∧ ∀ B,XQ sh ds (B,0)=(B ++p,0)):
  ∀ (n:Nat) (l:List UInt8) (ys:List (List Da)) (r:List UInt8),iter (LP sh) n l=some (ys,r)→ys.length=n∧ ∃ p,l=p ++r∧ ∀ B,ys.foldl (fun s d=>XQ sh d s) (B,0)=(B ++p,0):=by
 intro n;induction n with
 | zero=>
  intro l ys r he;simp only [iter] at he
  cases he
  exact⟨rfl,[],rfl,fun B=>by simp⟩
 | succ n ih=>
  intro l ys r he;simp only [iter] at he;obtain⟨⟨d,l1⟩,h1,he⟩:=Option.bind_eq_some_iff.1 he;obtain⟨⟨ds,l2⟩,h2,he⟩:=Option.bind_eq_some_iff.1 he
  cases he
  obtain⟨p,hp,hB⟩:=h l d l1 h1;obtain⟨hn,q,hq,hB2⟩:=ih l1 ds l2 h2;refine⟨by simp [hn],p ++q,by rw [hp,hq,List.append_assoc],fun B=> ?_⟩
  simp only [List.foldl_cons];rw [hB,hB2,List.append_assoc]
mutual
theorem JF: ∀ (sh:Sh)(l:List UInt8)(d:Da)(r:List UInt8),rd sh l=some (d,r)→ ∃ p,l=p ++r∧ ∀ B,lay sh d (B,0)=(B ++p,0)
 | .num,l,d,r,h=>by
  simp only [rd] at h;obtain⟨⟨n,r1⟩,h1,h2⟩:=Option.bind_eq_some_iff.1 h
  cases h2
  obtain⟨e1,e2,e3,e4⟩:=RD h1;subst e2;exact⟨_,e1,fun B=>SZ l e4 e3 B⟩
 | .YG,l,d,r,h=>by
  simp only [rd] at h;obtain⟨⟨n,r1⟩,h1,h2⟩:=Option.bind_eq_some_iff.1 h
  cases h2
  obtain⟨e1,e2,e3⟩:=Pq h1;subst e2;refine⟨_,e1,fun B=> ?_⟩
  simp only [lay,RY,St.put];have hlt:num (l.take 8)<18446744073709551616:=by
   have:=JD (l.take 8);rwa [List.length_take,Nat.min_eq_left e3] at this
  rw [MB _ hlt,RM e3]
 | .Z9,l,d,r,h=>by
  simp only [rd] at h;obtain⟨⟨b,r1⟩,h1,h2⟩:=Option.bind_eq_some_iff.1 h
  cases h2
  obtain⟨e1,e2,e3,e4⟩:=Mw h1;refine⟨l.take 4 ++b,by rw [List.append_assoc];exact e1,fun B=> ?_⟩;simp only [lay,Wq,St.put];rw [if_pos e3,e2,RM e4]
 | .YV,l,d,r,h=>by
  simp only [rd] at h;obtain⟨⟨b,r1⟩,h1,h2⟩:=Option.bind_eq_some_iff.1 h
  cases h2
  exact⟨_,Oz h1,fun B=>rfl⟩
 | .rows sh,l,d,r,h=>by
  simp only [rd] at h;obtain⟨⟨n,r1⟩,h1,h2⟩:=Option.bind_eq_some_iff.1 h;dsimp only at h2;split at h2
  ·rename_i hn;obtain⟨⟨ys,r2⟩,h3,h4⟩:=Option.bind_eq_some_iff.1 h2
   cases h4
   obtain⟨e1,e2,e3,e4⟩:=RD h1;obtain⟨hy,p,hp,hB⟩:=LJ sh (fun l ds r=>MS sh l ds r) n r1 ys r2 h3;refine⟨l.take 4 ++p,by rw [List.append_assoc,←hp];exact e1,fun B=> ?_⟩;simp only [lay,if_true];rw [if_pos (by omega),hy,e2,SZ l e4 (by omega),hB,List.append_assoc]
  ·cases h2
theorem MS: ∀ (sh:List Sh)(l:List UInt8)(ds:List Da)(r:List UInt8),LP sh l=some (ds,r)→ ∃ p,l=p ++r∧ ∀ B,XQ sh ds (B,0)=(B ++p,0)
 | [],l,ds,r,h=>by
  simp only [LP] at h
  cases h
  exact⟨[],rfl,fun B=>by simp [XQ]⟩
 | a ::sh,l,ds,r,h=>by
  simp only [LP] at h;obtain⟨⟨d,l1⟩,h1,h⟩:=Option.bind_eq_some_iff.1 h;obtain⟨⟨ds1,l2⟩,h2,h⟩:=Option.bind_eq_some_iff.1 h
  cases h
  obtain⟨p,hp,hB⟩:=JF a l d l1 h1;obtain⟨q,hq,hB2⟩:=MS sh l1 ds1 l2 h2;refine⟨p ++q,by rw [hp,hq,List.append_assoc],fun B=> ?_⟩
  simp only [XQ];rw [hB,hB2,List.append_assoc]
end
mutual
def Fits:Sh→Da→Prop
 | .num,.int _=>True
 | .YG,.int n=> -9223372036854775808≤n∧n≤9223372036854775807
 | .Z9,.Z9 _=>True
 | .YV,.YV _=>True
 | .rows l,.rows ds=> ∀ d∈ds,SK l d
 | _,_=>False
def SK:List Sh→List Da→Prop
 | [],[]=>True
 | a ::l,d ::ds=>Fits a d∧SK l ds
 | _,_=>False
end
theorem S3 {n:Int}{B:List UInt8}(h:(XD n (B,0)).2=0):0≤n∧n≤1000000000∧ ∀ B':List UInt8,XD n (B',0)=(B' ++low n.toNat 4,0):=by
 by_cases hn:0≤n∧n≤1000000000
 ·refine⟨hn.1,hn.2,fun B'=> ?_⟩
  unfold XD;rw [if_pos hn];rfl
 ·unfold XD at h;rw [if_neg hn] at h;simp [St.fail] at h
theorem Qs (n:Nat)(h:n≤1000000000)(r:List UInt8):rdNum (low n 4 ++r)=some (n,r):=by
 unfold rdNum;have e:(low n 4 ++r).take 4=low n 4:=List.take_left' (by simp);rw [e,PE,Nat.mod_eq_of_lt (by omega),if_neg (by simp),if_neg (by omega),List.drop_left' (by simp)]
theorem Pe (n:Int)(h: -9223372036854775808≤n∧n≤9223372036854775807)(r:List UInt8):TP (low (SD n) 8 ++r)=some (n,r):=by
 unfold TP;have e:(low (SD n) 8 ++r).take 8=low (SD n) 8:=List.take_left' (by simp);have hu:SD n<18446744073709551616:=by unfold SD;omega
 have hi:Nu (SD n)=n:=by unfold Nu SD;split <;> omega
 rw [e,PE,Nat.mod_eq_of_lt (by simpa using hu),if_neg (by simp),List.drop_left' (by simp),hi]
theorem KW (b:List UInt8)(h:b.length≤65536)(r:List UInt8):LA (low b.length 4 ++b ++r)=some (b,r):=by
 unfold LA;have e:(low b.length 4 ++b ++r).take 4=low b.length 4:=by rw [List.append_assoc,List.take_left' (by simp)]
 have e2:(low b.length 4 ++b ++r).drop 4=b ++r:=by rw [List.append_assoc,List.drop_left' (by simp)]
 have e3:num (low b.length 4)=b.length:=by rw [PE,Nat.mod_eq_of_lt (by omega)]
 rw [e,e3,if_neg (by simp),if_neg (by omega),if_neg (by simp),e2,←List.drop_drop,e2,List.take_left' rfl,List.drop_left' rfl]
theorem NS (b:Bool)(r:List UInt8):M7 ([if b then 1 else 0] ++r)=some (b,r):=by cases b <;> rfl
theorem Kd (sh:List Sh)(h: ∀ ds B C,SK sh ds→XQ sh ds (B,0)=(C,0)→ ∃ p,(∀ B',XQ sh ds (B',0)=(B' ++p,0))∧ ∀ r,LP sh (p ++r)=some (ds,r)):
  ∀ (ys:List (List Da)) (B C:List UInt8),(∀ d∈ys,SK sh d)→ys.foldl (fun s d=>XQ sh d s) (B,0)=(C,0)→
   ∃ p,(∀ B':List UInt8,ys.foldl (fun s d=>XQ sh d s) (B',0)=(B' ++p,0))∧ ∀ r,iter (LP sh) ys.length (p ++r)=some (ys,r):=by
 intro ys;induction ys with
 | nil=>
  intro B C _ he;exact⟨[],fun B'=>by simp,fun r=>by simp [iter]⟩
 | cons d ds ih=>
  intro B C hf he;simp only [List.foldl_cons] at he;have hz:(XQ sh d (B,0)).2=0:=by
   rcases Nat.eq_zero_or_pos (XQ sh d (B,0)).2 with h0 | h0
   ·exact h0
   ·have h1:=LB sh ds (XQ sh d (B,0)) (by omega);rw [he] at h1;simp only at h1;omega
  have e1:XQ sh d (B,0)=((XQ sh d (B,0)).1,0):=Prod.ext rfl hz;obtain⟨p,hp,hr⟩:=h d B _ (hf d (by simp)) e1;rw [hp] at he;obtain⟨q,hq,hr2⟩:=ih _ _ (fun x hx=>hf x (by simp [hx])) he;refine⟨p ++q,fun B'=> ?_,fun r=> ?_⟩
  ·simp only [List.foldl_cons];rw [hp,hq,List.append_assoc]
  ·simp only [List.length_cons,iter];rw [List.append_assoc,hr];simp only [Option.bind_some];rw [hr2];rfl
mutual
theorem Jm: ∀ (sh:Sh)(d:Da)(B C:List UInt8),Fits sh d→lay sh d (B,0)=(C,0)→ ∃ p,(∀ B',lay sh d (B',0)=(B' ++p,0))∧ ∀ r,rd sh (p ++r)=some (d,r)
 | .num,.int n,B,C,_,h=>by
  simp only [lay] at h;obtain⟨h0,h1,h2⟩:=S3 (B:=B) (by rw [h]);refine⟨low n.toNat 4,fun B'=>by simp only [lay];exact h2 B',fun r=> ?_⟩;simp only [rd];rw [Qs _ (by omega)];simp only [Option.bind_some];rw [Int.toNat_of_nonneg h0]
 | .YG,.int n,B,C,hf,h=>by
  simp only [Fits] at hf;refine⟨low (SD n) 8,fun B'=>rfl,fun r=> ?_⟩
  simp only [rd];rw [Pe n hf];rfl
 | .Z9,.Z9 b,B,C,_,h=>by
  have hb:b.length≤65536:=by
   rcases Nat.lt_or_ge 65536 b.length with h1 | h1
   ·simp only [lay,Wq] at h;rw [if_neg (by omega)] at h;simp [St.fail] at h
   ·exact h1
  refine⟨low b.length 4 ++b,fun B'=>by simp only [lay,Wq];rw [if_pos hb];rfl,fun r=> ?_⟩
  simp only [rd];rw [KW b hb];rfl
 | .YV,.YV b,B,C,_,h=>by
  refine⟨[if b then 1 else 0],fun B'=>rfl,fun r=> ?_⟩
  simp only [rd];rw [NS];rfl
 | .rows l,.rows ds,B,C,hf,h=>by
  simp only [Fits] at hf;simp only [lay,if_true] at h;have hl:ds.length≤4096:=by
   rcases Nat.lt_or_ge 4096 ds.length with h1 | h1
   ·rw [if_neg (by omega)] at h;simp [St.fail] at h
   ·exact h1
  rw [if_pos hl] at h;have hz:(XD ds.length (B,0)).2=0:=by unfold XD;rw [if_pos ⟨by omega,by omega⟩];rfl
  obtain⟨_,_,h2⟩:=S3 hz;rw [h2] at h;obtain⟨p,hp,hr⟩:=Kd l (fun ds B C=>MF l ds B C) ds _ _ hf h;refine⟨low ds.length 4 ++p,fun B'=> ?_,fun r=> ?_⟩
  ·simp only [lay,if_true];rw [if_pos hl,h2,hp,List.append_assoc];rfl
  ·simp only [rd];rw [List.append_assoc,Qs _ (by omega)];simp only [Option.bind_some];rw [if_pos hl,hr];rfl
 | .num,.Z9 _,B,C,hf,h=>absurd hf (by simp [Fits])
 | .num,.YV _,B,C,hf,h=>absurd hf (by simp [Fits])
 | .num,.rows _,B,C,hf,h=>absurd hf (by simp [Fits])
 | .YG,.Z9 _,B,C,hf,h=>absurd hf (by simp [Fits])
 | .YG,.YV _,B,C,hf,h=>absurd hf (by simp [Fits])
 | .YG,.rows _,B,C,hf,h=>absurd hf (by simp [Fits])
 | .Z9,.int _,B,C,hf,h=>absurd hf (by simp [Fits])
 | .Z9,.YV _,B,C,hf,h=>absurd hf (by simp [Fits])
 | .Z9,.rows _,B,C,hf,h=>absurd hf (by simp [Fits])
 | .YV,.int _,B,C,hf,h=>absurd hf (by simp [Fits])
 | .YV,.Z9 _,B,C,hf,h=>absurd hf (by simp [Fits])
 | .YV,.rows _,B,C,hf,h=>absurd hf (by simp [Fits])
 | .rows _,.int _,B,C,hf,h=>absurd hf (by simp [Fits])
 | .rows _,.Z9 _,B,C,hf,h=>absurd hf (by simp [Fits])
 | .rows _,.YV _,B,C,hf,h=>absurd hf (by simp [Fits])
theorem MF: ∀ (sh:List Sh)(ds:List Da)(B C:List UInt8),SK sh ds→XQ sh ds (B,0)=(C,0)→ ∃ p,(∀ B',XQ sh ds (B',0)=(B' ++p,0))∧ ∀ r,LP sh (p ++r)=some (ds,r)
 | [],[],B,C,_,h=>⟨[],fun B'=>by simp [XQ],fun r=>by simp [LP]⟩
 | [],_ ::_,B,C,hf,h=>absurd hf (by simp [SK])
 | _ ::_,[],B,C,hf,h=>absurd hf (by simp [SK])
 | a ::sh,d ::ds,B,C,hf,h=>by
  simp only [SK] at hf;simp only [XQ] at h;have hz:(lay a d (B,0)).2=0:=by
   rcases Nat.eq_zero_or_pos (lay a d (B,0)).2 with h0 | h0
   ·exact h0
   ·have h1:=Sd sh ds (lay a d (B,0)) (by omega);rw [h] at h1;simp only at h1;omega
  have e1:lay a d (B,0)=((lay a d (B,0)).1,0):=Prod.ext rfl hz;obtain⟨p,hp,hr⟩:=Jm a d B _ hf.1 e1;rw [hp] at h;obtain⟨q,hq,hr2⟩:=MF sh ds _ _ hf.2 h;refine⟨p ++q,fun B'=> ?_,fun r=> ?_⟩
  ·simp only [XQ];rw [hp,hq,List.append_assoc]
  ·simp only [LP];rw [List.append_assoc,hr];simp only [Option.bind_some];rw [hr2];rfl
end
def Ih (l:List Sh)(ds:List (List Da))(j:Nat)(s:St):St:=(ds.take j).foldl (fun s d=>XQ l d s) s
end Go.Proofs.YtnhmoibjlakhjaaGreat
namespace Go.Proofs.YtnhmoibjlakhjaaGreat
set_option maxRecDepth 100000
set_option maxHeartbeats 16000000
def Zp:List Sh:= [.Z9,.num,.YV]
def YP:List Sh:= [.Z9,.num,.rows [.Z9],.YG,.YG,.Z9,.Z9,.Z9]
def Zv:List Sh:= [.Z9,.Z9,.Z9,.rows Zp,.rows YP]
def Zm:List Sh:= [.Z9,.Z9]
def Y9:List Sh:= [.Z9,.Z9]
def Yy:List Sh:= [.Z9,.Z9,.num,.Z9,.Z9,.YV]
def Jl:List Sh:= [.rows Zm,.rows Zv]
def Ji:List Sh:= [.num,.num,.rows Zm,.rows Zv,.rows [.Z9],.rows Y9,.rows Yy]
def Xw:List Sh:= [.num,.Z9,.Z9,.Z9,.Z9,.Z9,.rows Zp,.Z9,.num,.rows [.Z9],.YG,.YG,.Z9,.Z9,.Z9,.num,.YV]
def IY:List Sh:= [.rows [.num],.rows [.num]]
def Ry:List Sh:= [.num,.num,.num,.num,.num,.num,.rows [.num],.rows [.num],.Z9,.num,.num,.num,.rows [.num],.rows [.num],.Z9]
def Hz:List Sh:= [.num,.num,.num,.num,.Z9,.Z9,.Z9,.Z9,.Z9,.rows Zp,.Z9,.num,.rows [.Z9],.YG,.YG,.Z9,.Z9,.Z9,.num,.YV,.num,.num,.num]
def J3:List Sh:= [.num,.num,.num,.num]
def Ju:List Sh:= [.num,.num,.num,.num,.num]
def Jj:List Sh:= [.num,.num,.rows Zm,.rows Zv,.rows [.Z9],.rows Y9,.rows Yy,.rows Ju,.rows J3,.num]
structure RI where
 Tp:Int
 term:Int
 v:List Int
 l:List Int
 b:List UInt8
 deriving DecidableEq
structure TW where
 Tp:Int
 term:Int
 ZQ:Int
 v:List Int
 l:List Int
 b:List UInt8
 deriving DecidableEq
structure Rf where
 ZQ:Int
 term:Int
 Uc:Int
 Pk:TW
 at_:Int
 Wu:RI
 deriving DecidableEq
structure OE where
 term:Int
 Uc:Int
 Wu:RI
 Wd:List TW
 deriving DecidableEq
def WG:List Sh:= [.num,.num,.num,.rows [.num],.rows [.num],.Z9]
def Tf:List Sh:= [.num,.num,.rows [.num],.rows [.num],.Z9]
def Lc:List Sh:= [.num,.num,.num,.num,.rows [.num],.rows [.num],.Z9,.rows WG]
def XM (l:List Int):List (List Da):=l.map fun n=> [.int n]
def RI.da (s:RI):List Da:= [.int s.Tp,.int s.term,.rows (XM s.v),.rows (XM s.l),.Z9 s.b]
def TW.da (e:TW):List Da:= [.int e.Tp,.int e.term,.int e.ZQ,.rows (XM e.v),.rows (XM e.l),.Z9 e.b]
def Rf.da (r:Rf):List Da:= [.int r.ZQ,.int r.term,.int r.Uc,.int r.Pk.Tp,.int r.Pk.term,.int r.Pk.ZQ,.rows (XM r.Pk.v),.rows (XM r.Pk.l),.Z9 r.Pk.b,.int r.at_,.int r.Wu.Tp,.int r.Wu.term,.rows (XM r.Wu.v),.rows (XM r.Wu.l),.Z9 r.Wu.b]
def OE.da (k:OE):List Da:= [.int k.term,.int k.Uc,.int k.Wu.Tp,.int k.Wu.term,.rows (XM k.Wu.v),.rows (XM k.Wu.l),.Z9 k.Wu.b,.rows (k.Wd.map TW.da)]
def RI.zero:RI:=⟨0,0,[],[],[]⟩
def TW.zero:TW:=⟨0,0,0,[],[],[]⟩
def OE.zero:OE:=⟨0,0,.zero,[]⟩
def Rf.Jr (t v:Int):Rf:=⟨1,t,v,.zero,0,.zero⟩
def Rf.I9 (e:TW):Rf:=⟨2,0,0,e,0,.zero⟩
def Rf.Ii (n:Int):Rf:=⟨3,0,0,.zero,n,.zero⟩
def Rf.Ja (s:RI):Rf:=⟨4,0,0,.zero,0,s⟩
def I6 (r:Rf):Nat:=(XQ Ry r.da ([],0)).2
def IG (k:OE):List Rf:=Rf.Jr k.term k.Uc ::((if k.Wu= .zero then [] else [Rf.Ja k.Wu]) ++k.Wd.map Rf.I9)
def wr (n:Int):Int:=Nu (SD n)
def JN (s:Int):Nat→List TW→Bool
 | _,[]=>true
 | i,e ::l=>e.Tp == wr (wr (s+1)+i) && JN s (i+1) l
def JB (k:OE):Bool:=k.Wd.length≤10000 && !(k.Wu.Tp<1 && k.Wu≠ .zero) && JN k.Wu.Tp 0 k.Wd && (IG k).all fun r=>I6 r == 0
def Ir (r:Rf):Bool:=I6 r == 0 &&
 ((r.ZQ == 1 && r.Pk= .zero && r.at_ == 0 && r.Wu= .zero) ||(r.ZQ == 2 && r.term == 0 && r.Uc == 0 && r.at_ == 0 && r.Wu= .zero)
 ||(r.ZQ == 3 && r.term == 0 && r.Uc == 0 && r.Pk= .zero && r.Wu= .zero) ||(r.ZQ == 4 && r.term == 0 && r.Uc == 0 && r.Pk= .zero && r.at_ == 0))
def OE.last (k:OE):Int:=k.Wu.Tp+k.Wd.length
def J1 (k:OE)(r:Rf):OE×Nat:=
 if r.ZQ=1 then(if r.term<k.term then(.zero,140) else({ k with term:=r.term,Uc:=r.Uc},0))
 else if r.ZQ=2 then(if r.Pk.Tp≠k.last+1 then(.zero,140) else if 10000≤k.Wd.length then(.zero,2) else({ k with Wd:=k.Wd ++ [r.Pk]},0))
 else if r.ZQ=3 then(if r.at_≤k.Wu.Tp∨k.last<r.at_ then(.zero,140) else({ k with Wd:=k.Wd.take (r.at_ - k.Wu.Tp - 1).toNat},0))
 else if r.Wu.Tp≤k.Wu.Tp then(.zero,140)
 else({ k with Wu:=r.Wu,Wd:=if(k.Wd[(r.Wu.Tp - k.Wu.Tp - 1).toNat]?).map (·.term)=some r.Wu.term then k.Wd.drop ((r.Wu.Tp - k.Wu.Tp - 1).toNat+1) else []},0)
def Ib (k:OE)(r:Rf):OE×Nat:=if JB k then(if Ir r then J1 k r else(.zero,140)) else(.zero,1)
def J6 (n:Int):Prop:=0≤n∧n≤1000000000
def IQ (l:List Int):Prop:=l.length≤4096∧ ∀ n∈l,J6 n
def IL (b:List UInt8):Prop:=b.length≤65536
structure Iy (s:RI):Prop where
 Tp:J6 s.Tp
 term:J6 s.term
 v:IQ s.v
 l:IQ s.l
 b:IL s.b
structure Iu (e:TW):Prop where
 Tp:J6 e.Tp
 term:J6 e.term
 ZQ:J6 e.ZQ
 v:IQ e.v
 l:IQ e.l
 b:IL e.b
theorem KO:J6 0:=⟨by omega,by omega⟩
theorem Iy.zero:Iy .zero:=⟨KO,KO,⟨by simp [RI.zero],by simp [RI.zero]⟩,⟨by simp [RI.zero],by simp [RI.zero]⟩,by simp [IL,RI.zero]⟩
theorem Iu.zero:Iu .zero:=⟨KO,KO,KO,⟨by simp [TW.zero],by simp [TW.zero]⟩,⟨by simp [TW.zero],by simp [TW.zero]⟩,by simp [IL,TW.zero]⟩
structure Ia (k:OE):Prop where
 len:k.Wd.length≤10000
 term:J6 k.term
 Uc:J6 k.Uc
 Wu:Iy k.Wu
 one:k.Wu= .zero∨1≤k.Wu.Tp
 Wd: ∀ e∈k.Wd,Iu e
 row: ∀ (i:Nat) (e:TW),k.Wd[i]?=some e→e.Tp=k.Wu.Tp+1+i
end Go.Proofs.YtnhmoibjlakhjaaGreat
