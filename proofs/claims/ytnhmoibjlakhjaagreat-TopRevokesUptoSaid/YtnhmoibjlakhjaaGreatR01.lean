/- Lemmas of the proof. No condition but each theorem's own. -/
set_option linter.unusedVariables false
set_option linter.unusedSimpArgs false
namespace Go.Proofs.YtnhmoibjlakhjaaGreat
set_option maxRecDepth 100000
set_option maxHeartbeats 16000000
namespace Le
set_option maxRecDepth 100000
set_option maxHeartbeats 16000000
def low:Nat→Nat→List UInt8
 | _,0=> []
 | v,n+1=>UInt8.ofNat v ::low (v / 256) n
def num:List UInt8→Nat
 | []=>0
 | c ::l=>c.toNat+256*num l
@[simp] theorem JU (v n:Nat):(low v n).length=n:=by
 induction n generalizing v with
 | zero=>rfl
 | succ n ih=>simp [low,ih]
theorem J6 (l:List UInt8):num l<256 ^ l.length:=by
 induction l with
 | nil=>simp [num]
 | cons c l ih=>have:=c.toNat_lt;simp only [num,List.length_cons,Nat.pow_succ];omega
theorem Pv (v n:Nat):num (low v n)=v % 256 ^ n:=by
 induction n generalizing v with
 | zero=>simp [low,num,Nat.mod_one]
 | succ n ih=>
  simp only [low,num,ih];rw [Nat.pow_succ,Nat.mul_comm (256 ^ n) 256,Nat.mod_mul];simp
theorem KP (l:List UInt8):low (num l) l.length=l:=by
 induction l with
 | nil=>rfl
 | cons c l ih=>
  have hc:=c.toNat_lt;simp only [List.length_cons,low,num];rw [show (c.toNat+256*num l) / 256=num l by omega,ih];congr 1
  apply UInt8.toNat_inj.1;simp
end Le
end Go.Proofs.YtnhmoibjlakhjaaGreat
namespace Go.Proofs.YtnhmoibjlakhjaaGreat
set_option maxRecDepth 100000
set_option maxHeartbeats 16000000
open Le
inductive Sh where
 | num | YF | Z9 | YY
 | rows (l:List Sh)
inductive Da where
 | int (n:Int)
 | Z9 (b:List UInt8)
 | YY (b:Bool)
 | rows (l:List (List Da))
abbrev St:=List UInt8×Nat
def SD (n:Int):Nat:=(n % 18446744073709551616).toNat
def NT (v:Nat):Int:=if v<9223372036854775808 then(v:Int) else(v:Int) - 18446744073709551616
def St.put (s:St)(b:List UInt8):St:=(s.1 ++b,s.2)
def St.fail (s:St)(e:Nat):St:=(s.1,if s.2=0 then e else s.2)
def XD (n:Int)(s:St):St:=if 0≤n∧n≤1000000000 then s.put (low n.toNat 4) else s.fail 1
def Wp (b:List UInt8)(s:St):St:=if b.length≤65536 then s.put (low b.length 4 ++b) else s.fail 2
def Rr (n:Int)(s:St):St:=s.put (low (SD n) 8)
def Nf (b:Bool)(s:St):St:=s.put [if b then 1 else 0]
def Jj (n:Nat)(s:St):St:=if n≤4096 then XD n s else s.fail 2
mutual
def lay:Sh→Da→St→St
 | .num,.int n,s=>XD n s
 | .YF,.int n,s=>Rr n s
 | .Z9,.Z9 b,s=>Wp b s
 | .YY,.YY b,s=>Nf b s
 | .rows l,.rows ds,s=>if s.2=0 then(if ds.length≤4096 then ds.foldl (fun s d=>XO l d s) (XD ds.length s) else s.fail 2) else s
 | _,_,s=>s
def XO:List Sh→List Da→St→St
 | a ::l,d ::ds,s=>XO l ds (lay a d s)
 | _,_,s=>s
end
def iter {α:Type}(f:List UInt8→Option (α×List UInt8)):Nat→List UInt8→Option (List α×List UInt8)
 | 0,l=>some ([],l)
 | n+1,l=>(f l).bind fun x=>(iter f n x.2).bind fun y=>some (x.1 ::y.1,y.2)
def rdNum (l:List UInt8):Option (Nat×List UInt8):=if l.length<4 then none else if 1000000000<num (l.take 4) then none else some (num (l.take 4),l.drop 4)
def Tu (l:List UInt8):Option (Int×List UInt8):=if l.length<8 then none else some (NT (num (l.take 8)),l.drop 8)
def LT (l:List UInt8):Option (List UInt8×List UInt8):=
 if l.length<4 then none else if 65536<num (l.take 4) then none else if l.length<4+num (l.take 4) then none
 else some ((l.drop 4).take (num (l.take 4)),l.drop (4+num (l.take 4)))
def Og:List UInt8→Option (Bool×List UInt8)
 | []=>none
 | c ::l=>if c.toNat≤1 then some (c.toNat == 1,l) else none
mutual
def rd:Sh→List UInt8→Option (Da×List UInt8)
 | .num,l=>(rdNum l).bind fun x=>some (.int x.1,x.2)
 | .YF,l=>(Tu l).bind fun x=>some (.int x.1,x.2)
 | .Z9,l=>(LT l).bind fun x=>some (.Z9 x.1,x.2)
 | .YY,l=>(Og l).bind fun x=>some (.YY x.1,x.2)
 | .rows sh,l=>(rdNum l).bind fun x=>if x.1≤4096 then(iter (L4 sh) x.1 x.2).bind fun y=>some (.rows y.1,y.2) else none
def L4:List Sh→List UInt8→Option (List Da×List UInt8)
 | [],l=>some ([],l)
 | a ::sh,l=>(rd a l).bind fun x=>(L4 sh x.2).bind fun y=>some (x.1 ::y.1,y.2)
end
theorem St.MQ {s:St}(h:s.2≠0)(e:Nat):(s.fail e).2=s.2:=by simp [St.fail,h]
theorem NO {s:St}(h:s.2≠0)(n:Int):(XD n s).2=s.2:=by
 unfold XD;split
 ·rfl
 ·exact St.MQ h _
theorem OI {s:St}(h:s.2≠0)(b:List UInt8):(Wp b s).2=s.2:=by
 unfold Wp;split
 ·rfl
 ·exact St.MQ h _
mutual
theorem KG: ∀ (a:Sh)(d:Da)(s:St),s.2≠0→(lay a d s).2=s.2
 | .num,.int n,s,h=>NO h n
 | .YF,.int n,s,h=>rfl
 | .Z9,.Z9 b,s,h=>OI h b
 | .YY,.YY b,s,h=>rfl
 | .rows l,.rows ds,s,h=>by simp [lay,h]
 | .num,.Z9 _,s,h=>rfl
 | .num,.YY _,s,h=>rfl
 | .num,.rows _,s,h=>rfl
 | .YF,.Z9 _,s,h=>rfl
 | .YF,.YY _,s,h=>rfl
 | .YF,.rows _,s,h=>rfl
 | .Z9,.int _,s,h=>rfl
 | .Z9,.YY _,s,h=>rfl
 | .Z9,.rows _,s,h=>rfl
 | .YY,.int _,s,h=>rfl
 | .YY,.Z9 _,s,h=>rfl
 | .YY,.rows _,s,h=>rfl
 | .rows _,.int _,s,h=>rfl
 | .rows _,.Z9 _,s,h=>rfl
 | .rows _,.YY _,s,h=>rfl
theorem Rs: ∀ (l:List Sh)(ds:List Da)(s:St),s.2≠0→(XO l ds s).2=s.2
 | [],_,s,h=>by simp [XO]
 | _ ::_,[],s,h=>by simp [XO]
 | a ::l,d ::ds,s,h=>by
  have h1:=KG a d s h;have h2:=Rs l ds (lay a d s) (by rw [h1];exact h);simp only [XO];rw [h2,h1]
end
theorem LP (l:List Sh)(ds:List (List Da))(s:St)(h:s.2≠0):(ds.foldl (fun s d=>XO l d s) s).2=s.2:=by
 induction ds generalizing s with
 | nil=>rfl
 | cons d ds ih=>
  have h1:=Rs l d s h;simp only [List.foldl_cons];rw [ih _ (by rw [h1];exact h),h1]
def Yg (s s':St):Prop:= ∃ p,s'.1=s.1 ++p
theorem Yg.refl (s:St):Yg s s:=⟨[],by simp⟩
theorem Yg.trans {a b c:St}(h:Yg a b)(g:Yg b c):Yg a c:=by
 obtain⟨p,hp⟩:=h;obtain⟨q,hq⟩:=g;exact⟨p ++q,by rw [hq,hp,List.append_assoc]⟩
theorem Uy (s:St)(b:List UInt8):Yg s (s.put b):=⟨b,rfl⟩
theorem Ua (s:St)(e:Nat):Yg s (s.fail e):=⟨[],by simp [St.fail]⟩
theorem Qg (n:Int)(s:St):Yg s (XD n s):=by
 unfold XD;split
 ·exact Uy _ _
 ·exact Ua _ _
theorem Ng (b:List UInt8)(s:St):Yg s (Wp b s):=by
 unfold Wp;split
 ·exact Uy _ _
 ·exact Ua _ _
theorem NN (l:List Sh)(hl: ∀ ds s,Yg s (XO l ds s))(ds:List (List Da))(s:St):Yg s (ds.foldl (fun s d=>XO l d s) s):=by
 induction ds generalizing s with
 | nil=>exact Yg.refl s
 | cons d ds ih=>exact(hl d s).trans (ih _)
mutual
theorem Mi: ∀ (a:Sh)(d:Da)(s:St),Yg s (lay a d s)
 | .num,.int n,s=>Qg n s
 | .YF,.int n,s=>Uy _ _
 | .Z9,.Z9 b,s=>Ng b s
 | .YY,.YY b,s=>Uy _ _
 | .rows l,.rows ds,s=>by
  simp only [lay];split
  ·split
   ·exact(Qg _ s).trans (NN l (fun ds s=>RC l ds s) ds _)
   ·exact Ua _ _
  ·exact Yg.refl s
 | .num,.Z9 _,s=>Yg.refl s
 | .num,.YY _,s=>Yg.refl s
 | .num,.rows _,s=>Yg.refl s
 | .YF,.Z9 _,s=>Yg.refl s
 | .YF,.YY _,s=>Yg.refl s
 | .YF,.rows _,s=>Yg.refl s
 | .Z9,.int _,s=>Yg.refl s
 | .Z9,.YY _,s=>Yg.refl s
 | .Z9,.rows _,s=>Yg.refl s
 | .YY,.int _,s=>Yg.refl s
 | .YY,.Z9 _,s=>Yg.refl s
 | .YY,.rows _,s=>Yg.refl s
 | .rows _,.int _,s=>Yg.refl s
 | .rows _,.Z9 _,s=>Yg.refl s
 | .rows _,.YY _,s=>Yg.refl s
theorem RC: ∀ (l:List Sh)(ds:List Da)(s:St),Yg s (XO l ds s)
 | [],_,s=>by simp only [XO];exact Yg.refl s
 | _ ::_,[],s=>by simp only [XO];exact Yg.refl s
 | a ::l,d ::ds,s=>by
  simp only [XO];exact(Mi a d s).trans (RC l ds _)
end
theorem Rq {l:List UInt8}{k:Nat}(h:k≤l.length):low (num (l.take k)) k=l.take k:=by
 have:=KP (l.take k);rwa [List.length_take,Nat.min_eq_left h] at this
theorem SN (l:List UInt8)(h:4≤l.length)(hv:num (l.take 4)≤1000000000)(B:List UInt8):XD (num (l.take 4)) (B,0)=(B ++l.take 4,0):=by
 unfold XD;rw [if_pos ⟨by omega,by omega⟩,Int.toNat_natCast,Rq h];rfl
theorem RS {l r:List UInt8}{n:Nat}(h:rdNum l=some (n,r)):l=l.take 4 ++r∧n=num (l.take 4)∧n≤1000000000∧4≤l.length:=by
 unfold rdNum at h;split at h
 ·cases h
 ·split at h
  ·cases h
  ·cases h
   exact⟨by simp,rfl,by omega,by omega⟩
theorem P8 {l r:List UInt8}{n:Int}(h:Tu l=some (n,r)):l=l.take 8 ++r∧n=NT (num (l.take 8))∧8≤l.length:=by
 unfold Tu at h;split at h
 ·cases h
 ·cases h
  exact⟨by simp,rfl,by omega⟩
theorem Mp (v:Nat)(h:v<18446744073709551616):SD (NT v)=v:=by
 unfold SD NT;split <;> omega
theorem Me {l r b:List UInt8}(h:LT l=some (b,r)):l=l.take 4 ++ (b ++r)∧b.length=num (l.take 4)∧b.length≤65536∧4≤l.length:=by
 unfold LT at h;split at h
 ·cases h
 ·split at h
  ·cases h
  ·split at h
   ·cases h
   ·cases h
    have hb:((l.drop 4).take (num (l.take 4))).length=num (l.take 4):=by rw [List.length_take,List.length_drop];omega
    have e:l=l.take 4 ++l.drop 4:=(List.take_append_drop 4 l).symm;have e2:l.drop 4=(l.drop 4).take (num (l.take 4)) ++l.drop (4+num (l.take 4)):=by
     rw [←List.drop_drop,List.take_append_drop]
    exact⟨e.trans (congrArg (l.take 4 ++ ·) e2),hb,by omega,by omega⟩
theorem O2 {l r:List UInt8}{b:Bool}(h:Og l=some (b,r)):l= [if b then 1 else 0] ++r:=by
 cases l with
 | nil=>cases h
 | cons c l=>
  by_cases hc:c.toNat≤1
  ·have h':(if c.toNat≤1 then some (c.toNat == 1,l) else none)=some (b,r):=h;rw [if_pos hc] at h'
   cases h'
   have h01:c.toNat=0∨c.toNat=1:=by omega
   rcases h01 with h0 | h1
   ·have:c=0:=UInt8.toNat_inj.1 h0;subst this;rfl
   ·have:c=1:=UInt8.toNat_inj.1 h1;subst this;rfl
  ·have h':(if c.toNat≤1 then some (c.toNat == 1,l) else none)=some (b,r):=h;rw [if_neg hc] at h'
   cases h'
theorem K9 (sh:List Sh)(h: ∀ l ds r,L4 sh l=some (ds,r)→ ∃ p,l=p ++r∧ ∀ B,XO sh ds (B,0)=(B ++p,0)):
  ∀ (n:Nat) (l:List UInt8) (ys:List (List Da)) (r:List UInt8),iter (L4 sh) n l=some (ys,r)→ys.length=n∧ ∃ p,l=p ++r∧ ∀ B,ys.foldl (fun s d=>XO sh d s) (B,0)=(B ++p,0):=by
 intro n;induction n with
 | zero=>
  intro l ys r he;simp only [iter] at he
  cases he
  exact⟨rfl,[],rfl,fun B=>by simp⟩
 | succ n ih=>
  intro l ys r he;simp only [iter] at he;obtain⟨⟨d,l1⟩,h1,he⟩:=Option.bind_eq_some_iff.1 he;obtain⟨⟨ds,l2⟩,h2,he⟩:=Option.bind_eq_some_iff.1 he
  cases he
  obtain⟨p,hp,hB⟩:=h l d l1 h1;obtain⟨hn,q,hq,hB2⟩:=ih l1 ds l2 h2;refine⟨by simp [hn],p ++q,by rw [hp,hq,List.append_assoc],fun B=> ?_⟩
  simp only [List.foldl_cons];rw [hB,hB2,List.append_assoc]
mutual
theorem J5: ∀ (sh:Sh)(l:List UInt8)(d:Da)(r:List UInt8),rd sh l=some (d,r)→ ∃ p,l=p ++r∧ ∀ B,lay sh d (B,0)=(B ++p,0)
 | .num,l,d,r,h=>by
  simp only [rd] at h;obtain⟨⟨n,r1⟩,h1,h2⟩:=Option.bind_eq_some_iff.1 h
  cases h2
  obtain⟨e1,e2,e3,e4⟩:=RS h1;subst e2;exact⟨_,e1,fun B=>SN l e4 e3 B⟩
 | .YF,l,d,r,h=>by
  simp only [rd] at h;obtain⟨⟨n,r1⟩,h1,h2⟩:=Option.bind_eq_some_iff.1 h
  cases h2
  obtain⟨e1,e2,e3⟩:=P8 h1;subst e2;refine⟨_,e1,fun B=> ?_⟩
  simp only [lay,Rr,St.put];have hlt:num (l.take 8)<18446744073709551616:=by
   have:=J6 (l.take 8);rwa [List.length_take,Nat.min_eq_left e3] at this
  rw [Mp _ hlt,Rq e3]
 | .Z9,l,d,r,h=>by
  simp only [rd] at h;obtain⟨⟨b,r1⟩,h1,h2⟩:=Option.bind_eq_some_iff.1 h
  cases h2
  obtain⟨e1,e2,e3,e4⟩:=Me h1;refine⟨l.take 4 ++b,by rw [List.append_assoc];exact e1,fun B=> ?_⟩;simp only [lay,Wp,St.put];rw [if_pos e3,e2,Rq e4]
 | .YY,l,d,r,h=>by
  simp only [rd] at h;obtain⟨⟨b,r1⟩,h1,h2⟩:=Option.bind_eq_some_iff.1 h
  cases h2
  exact⟨_,O2 h1,fun B=>rfl⟩
 | .rows sh,l,d,r,h=>by
  simp only [rd] at h;obtain⟨⟨n,r1⟩,h1,h2⟩:=Option.bind_eq_some_iff.1 h;dsimp only at h2;split at h2
  ·rename_i hn;obtain⟨⟨ys,r2⟩,h3,h4⟩:=Option.bind_eq_some_iff.1 h2
   cases h4
   obtain⟨e1,e2,e3,e4⟩:=RS h1;obtain⟨hy,p,hp,hB⟩:=K9 sh (fun l ds r=>M6 sh l ds r) n r1 ys r2 h3;refine⟨l.take 4 ++p,by rw [List.append_assoc,←hp];exact e1,fun B=> ?_⟩;simp only [lay,if_true];rw [if_pos (by omega),hy,e2,SN l e4 (by omega),hB,List.append_assoc]
  ·cases h2
theorem M6: ∀ (sh:List Sh)(l:List UInt8)(ds:List Da)(r:List UInt8),L4 sh l=some (ds,r)→ ∃ p,l=p ++r∧ ∀ B,XO sh ds (B,0)=(B ++p,0)
 | [],l,ds,r,h=>by
  simp only [L4] at h
  cases h
  exact⟨[],rfl,fun B=>by simp [XO]⟩
 | a ::sh,l,ds,r,h=>by
  simp only [L4] at h;obtain⟨⟨d,l1⟩,h1,h⟩:=Option.bind_eq_some_iff.1 h;obtain⟨⟨ds1,l2⟩,h2,h⟩:=Option.bind_eq_some_iff.1 h
  cases h
  obtain⟨p,hp,hB⟩:=J5 a l d l1 h1;obtain⟨q,hq,hB2⟩:=M6 sh l1 ds1 l2 h2;refine⟨p ++q,by rw [hp,hq,List.append_assoc],fun B=> ?_⟩
  simp only [XO];rw [hB,hB2,List.append_assoc]
end
mutual
def Fits:Sh→Da→Prop
 | .num,.int _=>True
 | .YF,.int n=> -9223372036854775808≤n∧n≤9223372036854775807
 | .Z9,.Z9 _=>True
 | .YY,.YY _=>True
 | .rows l,.rows ds=> ∀ d∈ds,SI l d
 | _,_=>False
def SI:List Sh→List Da→Prop
 | [],[]=>True
 | a ::l,d ::ds=>Fits a d∧SI l ds
 | _,_=>False
end
theorem SK {n:Int}{B:List UInt8}(h:(XD n (B,0)).2=0):0≤n∧n≤1000000000∧ ∀ B':List UInt8,XD n (B',0)=(B' ++low n.toNat 4,0):=by
 by_cases hn:0≤n∧n≤1000000000
 ·refine⟨hn.1,hn.2,fun B'=> ?_⟩
  unfold XD;rw [if_pos hn];rfl
 ·unfold XD at h;rw [if_neg hn] at h;simp [St.fail] at h
theorem Qz (n:Nat)(h:n≤1000000000)(r:List UInt8):rdNum (low n 4 ++r)=some (n,r):=by
 unfold rdNum;have e:(low n 4 ++r).take 4=low n 4:=List.take_left' (by simp);rw [e,Pv,Nat.mod_eq_of_lt (by omega),if_neg (by simp),if_neg (by omega),List.drop_left' (by simp)]
theorem Pc (n:Int)(h: -9223372036854775808≤n∧n≤9223372036854775807)(r:List UInt8):Tu (low (SD n) 8 ++r)=some (n,r):=by
 unfold Tu;have e:(low (SD n) 8 ++r).take 8=low (SD n) 8:=List.take_left' (by simp);have hu:SD n<18446744073709551616:=by unfold SD;omega
 have hi:NT (SD n)=n:=by unfold NT SD;split <;> omega
 rw [e,Pv,Nat.mod_eq_of_lt (by simpa using hu),if_neg (by simp),List.drop_left' (by simp),hi]
theorem LB (b:List UInt8)(h:b.length≤65536)(r:List UInt8):LT (low b.length 4 ++b ++r)=some (b,r):=by
 unfold LT;have e:(low b.length 4 ++b ++r).take 4=low b.length 4:=by rw [List.append_assoc,List.take_left' (by simp)]
 have e2:(low b.length 4 ++b ++r).drop 4=b ++r:=by rw [List.append_assoc,List.drop_left' (by simp)]
 have e3:num (low b.length 4)=b.length:=by rw [Pv,Nat.mod_eq_of_lt (by omega)]
 rw [e,e3,if_neg (by simp),if_neg (by omega),if_neg (by simp),e2,←List.drop_drop,e2,List.take_left' rfl,List.drop_left' rfl]
theorem NC (b:Bool)(r:List UInt8):Og ([if b then 1 else 0] ++r)=some (b,r):=by cases b <;> rfl
theorem KI (sh:List Sh)(h: ∀ ds B C,SI sh ds→XO sh ds (B,0)=(C,0)→ ∃ p,(∀ B',XO sh ds (B',0)=(B' ++p,0))∧ ∀ r,L4 sh (p ++r)=some (ds,r)):
  ∀ (ys:List (List Da)) (B C:List UInt8),(∀ d∈ys,SI sh d)→ys.foldl (fun s d=>XO sh d s) (B,0)=(C,0)→
   ∃ p,(∀ B':List UInt8,ys.foldl (fun s d=>XO sh d s) (B',0)=(B' ++p,0))∧ ∀ r,iter (L4 sh) ys.length (p ++r)=some (ys,r):=by
 intro ys;induction ys with
 | nil=>
  intro B C _ he;exact⟨[],fun B'=>by simp,fun r=>by simp [iter]⟩
 | cons d ds ih=>
  intro B C hf he;simp only [List.foldl_cons] at he;have hz:(XO sh d (B,0)).2=0:=by
   rcases Nat.eq_zero_or_pos (XO sh d (B,0)).2 with h0 | h0
   ·exact h0
   ·have h1:=LP sh ds (XO sh d (B,0)) (by omega);rw [he] at h1;simp only at h1;omega
  have e1:XO sh d (B,0)=((XO sh d (B,0)).1,0):=Prod.ext rfl hz;obtain⟨p,hp,hr⟩:=h d B _ (hf d (by simp)) e1;rw [hp] at he;obtain⟨q,hq,hr2⟩:=ih _ _ (fun x hx=>hf x (by simp [hx])) he;refine⟨p ++q,fun B'=> ?_,fun r=> ?_⟩
  ·simp only [List.foldl_cons];rw [hp,hq,List.append_assoc]
  ·simp only [List.length_cons,iter];rw [List.append_assoc,hr];simp only [Option.bind_some];rw [hr2];rfl
mutual
theorem JM: ∀ (sh:Sh)(d:Da)(B C:List UInt8),Fits sh d→lay sh d (B,0)=(C,0)→ ∃ p,(∀ B',lay sh d (B',0)=(B' ++p,0))∧ ∀ r,rd sh (p ++r)=some (d,r)
 | .num,.int n,B,C,_,h=>by
  simp only [lay] at h;obtain⟨h0,h1,h2⟩:=SK (B:=B) (by rw [h]);refine⟨low n.toNat 4,fun B'=>by simp only [lay];exact h2 B',fun r=> ?_⟩;simp only [rd];rw [Qz _ (by omega)];simp only [Option.bind_some];rw [Int.toNat_of_nonneg h0]
 | .YF,.int n,B,C,hf,h=>by
  simp only [Fits] at hf;refine⟨low (SD n) 8,fun B'=>rfl,fun r=> ?_⟩
  simp only [rd];rw [Pc n hf];rfl
 | .Z9,.Z9 b,B,C,_,h=>by
  have hb:b.length≤65536:=by
   rcases Nat.lt_or_ge 65536 b.length with h1 | h1
   ·simp only [lay,Wp] at h;rw [if_neg (by omega)] at h;simp [St.fail] at h
   ·exact h1
  refine⟨low b.length 4 ++b,fun B'=>by simp only [lay,Wp];rw [if_pos hb];rfl,fun r=> ?_⟩
  simp only [rd];rw [LB b hb];rfl
 | .YY,.YY b,B,C,_,h=>by
  refine⟨[if b then 1 else 0],fun B'=>rfl,fun r=> ?_⟩
  simp only [rd];rw [NC];rfl
 | .rows l,.rows ds,B,C,hf,h=>by
  simp only [Fits] at hf;simp only [lay,if_true] at h;have hl:ds.length≤4096:=by
   rcases Nat.lt_or_ge 4096 ds.length with h1 | h1
   ·rw [if_neg (by omega)] at h;simp [St.fail] at h
   ·exact h1
  rw [if_pos hl] at h;have hz:(XD ds.length (B,0)).2=0:=by unfold XD;rw [if_pos ⟨by omega,by omega⟩];rfl
  obtain⟨_,_,h2⟩:=SK hz;rw [h2] at h;obtain⟨p,hp,hr⟩:=KI l (fun ds B C=>MV l ds B C) ds _ _ hf h;refine⟨low ds.length 4 ++p,fun B'=> ?_,fun r=> ?_⟩
  ·simp only [lay,if_true];rw [if_pos hl,h2,hp,List.append_assoc];rfl
  ·simp only [rd];rw [List.append_assoc,Qz _ (by omega)];simp only [Option.bind_some];rw [if_pos hl,hr];rfl
 | .num,.Z9 _,B,C,hf,h=>absurd hf (by simp [Fits])
 | .num,.YY _,B,C,hf,h=>absurd hf (by simp [Fits])
 | .num,.rows _,B,C,hf,h=>absurd hf (by simp [Fits])
 | .YF,.Z9 _,B,C,hf,h=>absurd hf (by simp [Fits])
 | .YF,.YY _,B,C,hf,h=>absurd hf (by simp [Fits])
 | .YF,.rows _,B,C,hf,h=>absurd hf (by simp [Fits])
 | .Z9,.int _,B,C,hf,h=>absurd hf (by simp [Fits])
 | .Z9,.YY _,B,C,hf,h=>absurd hf (by simp [Fits])
 | .Z9,.rows _,B,C,hf,h=>absurd hf (by simp [Fits])
 | .YY,.int _,B,C,hf,h=>absurd hf (by simp [Fits])
 | .YY,.Z9 _,B,C,hf,h=>absurd hf (by simp [Fits])
 | .YY,.rows _,B,C,hf,h=>absurd hf (by simp [Fits])
 | .rows _,.int _,B,C,hf,h=>absurd hf (by simp [Fits])
 | .rows _,.Z9 _,B,C,hf,h=>absurd hf (by simp [Fits])
 | .rows _,.YY _,B,C,hf,h=>absurd hf (by simp [Fits])
theorem MV: ∀ (sh:List Sh)(ds:List Da)(B C:List UInt8),SI sh ds→XO sh ds (B,0)=(C,0)→ ∃ p,(∀ B',XO sh ds (B',0)=(B' ++p,0))∧ ∀ r,L4 sh (p ++r)=some (ds,r)
 | [],[],B,C,_,h=>⟨[],fun B'=>by simp [XO],fun r=>by simp [L4]⟩
 | [],_ ::_,B,C,hf,h=>absurd hf (by simp [SI])
 | _ ::_,[],B,C,hf,h=>absurd hf (by simp [SI])
 | a ::sh,d ::ds,B,C,hf,h=>by
  simp only [SI] at hf;simp only [XO] at h;have hz:(lay a d (B,0)).2=0:=by
   rcases Nat.eq_zero_or_pos (lay a d (B,0)).2 with h0 | h0
   ·exact h0
   ·have h1:=Rs sh ds (lay a d (B,0)) (by omega);rw [h] at h1;simp only at h1;omega
  have e1:lay a d (B,0)=((lay a d (B,0)).1,0):=Prod.ext rfl hz;obtain⟨p,hp,hr⟩:=JM a d B _ hf.1 e1;rw [hp] at h;obtain⟨q,hq,hr2⟩:=MV sh ds _ _ hf.2 h;refine⟨p ++q,fun B'=> ?_,fun r=> ?_⟩
  ·simp only [XO];rw [hp,hq,List.append_assoc]
  ·simp only [L4];rw [List.append_assoc,hr];simp only [Option.bind_some];rw [hr2];rfl
end
def IC (l:List Sh)(ds:List (List Da))(j:Nat)(s:St):St:=(ds.take j).foldl (fun s d=>XO l d s) s
end Go.Proofs.YtnhmoibjlakhjaaGreat
namespace Go.Proofs.YtnhmoibjlakhjaaGreat
set_option maxRecDepth 100000
set_option maxHeartbeats 16000000
def Zm:List Sh:= [.Z9,.num,.YY]
def Yx:List Sh:= [.Z9,.num,.rows [.Z9],.YF,.YF,.Z9,.Z9,.Z9]
def Zt:List Sh:= [.Z9,.Z9,.Z9,.rows Zm,.rows Yx]
def Zi:List Sh:= [.Z9,.Z9]
def Y5:List Sh:= [.Z9,.Z9]
def Ys:List Sh:= [.Z9,.Z9,.num,.Z9,.Z9,.YY]
def JF:List Sh:= [.rows Zi,.rows Zt]
def JK:List Sh:= [.num,.num,.rows Zi,.rows Zt,.rows [.Z9],.rows Y5,.rows Ys]
def Xx:List Sh:= [.num,.Z9,.Z9,.Z9,.Z9,.Z9,.rows Zm,.Z9,.num,.rows [.Z9],.YF,.YF,.Z9,.Z9,.Z9,.num,.YY]
def Jz:List Sh:= [.rows [.num],.rows [.num]]
def Sr:List Sh:= [.num,.num,.num,.num,.num,.num,.rows [.num],.rows [.num],.Z9,.num,.num,.num,.rows [.num],.rows [.num],.Z9]
def Iz:List Sh:= [.num,.num,.num,.num,.Z9,.Z9,.Z9,.Z9,.Z9,.rows Zm,.Z9,.num,.rows [.Z9],.YF,.YF,.Z9,.Z9,.Z9,.num,.YY,.num,.num,.num]
def Kp:List Sh:= [.num,.num,.num,.num]
def JN:List Sh:= [.num,.num,.num,.num,.num]
def JJ:List Sh:= [.num,.num,.rows Zi,.rows Zt,.rows [.Z9],.rows Y5,.rows Ys,.rows JN,.rows Kp,.num]
structure Sp where
 Tj:Int
 term:Int
 v:List Int
 l:List Int
 b:List UInt8
 deriving DecidableEq
structure TW where
 Tj:Int
 term:Int
 ZQ:Int
 v:List Int
 l:List Int
 b:List UInt8
 deriving DecidableEq
structure Rf where
 ZQ:Int
 term:Int
 Ug:Int
 Ps:TW
 at_:Int
 Wt:Sp
 deriving DecidableEq
structure Oo where
 term:Int
 Ug:Int
 Wt:Sp
 VZ:List TW
 deriving DecidableEq
def WJ:List Sh:= [.num,.num,.num,.rows [.num],.rows [.num],.Z9]
def Ti:List Sh:= [.num,.num,.rows [.num],.rows [.num],.Z9]
def Lp:List Sh:= [.num,.num,.num,.num,.rows [.num],.rows [.num],.Z9,.rows WJ]
def XN (l:List Int):List (List Da):=l.map fun n=> [.int n]
def Sp.da (s:Sp):List Da:= [.int s.Tj,.int s.term,.rows (XN s.v),.rows (XN s.l),.Z9 s.b]
def TW.da (e:TW):List Da:= [.int e.Tj,.int e.term,.int e.ZQ,.rows (XN e.v),.rows (XN e.l),.Z9 e.b]
def Rf.da (r:Rf):List Da:= [.int r.ZQ,.int r.term,.int r.Ug,.int r.Ps.Tj,.int r.Ps.term,.int r.Ps.ZQ,.rows (XN r.Ps.v),.rows (XN r.Ps.l),.Z9 r.Ps.b,.int r.at_,.int r.Wt.Tj,.int r.Wt.term,.rows (XN r.Wt.v),.rows (XN r.Wt.l),.Z9 r.Wt.b]
def Oo.da (k:Oo):List Da:= [.int k.term,.int k.Ug,.int k.Wt.Tj,.int k.Wt.term,.rows (XN k.Wt.v),.rows (XN k.Wt.l),.Z9 k.Wt.b,.rows (k.VZ.map TW.da)]
def Sp.zero:Sp:=⟨0,0,[],[],[]⟩
def TW.zero:TW:=⟨0,0,0,[],[],[]⟩
def Oo.zero:Oo:=⟨0,0,.zero,[]⟩
def Rf.JY (t v:Int):Rf:=⟨1,t,v,.zero,0,.zero⟩
def Rf.Jw (e:TW):Rf:=⟨2,0,0,e,0,.zero⟩
def Rf.IK (n:Int):Rf:=⟨3,0,0,.zero,n,.zero⟩
def Rf.Ju (s:Sp):Rf:=⟨4,0,0,.zero,0,s⟩
def Jv (r:Rf):Nat:=(XO Sr r.da ([],0)).2
def IP (k:Oo):List Rf:=Rf.JY k.term k.Ug ::((if k.Wt= .zero then [] else [Rf.Ju k.Wt]) ++k.VZ.map Rf.Jw)
def wr (n:Int):Int:=NT (SD n)
def Kc (s:Int):Nat→List TW→Bool
 | _,[]=>true
 | i,e ::l=>e.Tj == wr (wr (s+1)+i) && Kc s (i+1) l
def J4 (k:Oo):Bool:=k.VZ.length≤10000 && !(k.Wt.Tj<1 && k.Wt≠ .zero) && Kc k.Wt.Tj 0 k.VZ && (IP k).all fun r=>Jv r == 0
def I6 (r:Rf):Bool:=Jv r == 0 &&
 ((r.ZQ == 1 && r.Ps= .zero && r.at_ == 0 && r.Wt= .zero) ||(r.ZQ == 2 && r.term == 0 && r.Ug == 0 && r.at_ == 0 && r.Wt= .zero)
 ||(r.ZQ == 3 && r.term == 0 && r.Ug == 0 && r.Ps= .zero && r.Wt= .zero) ||(r.ZQ == 4 && r.term == 0 && r.Ug == 0 && r.Ps= .zero && r.at_ == 0))
def Oo.last (k:Oo):Int:=k.Wt.Tj+k.VZ.length
def Kk (k:Oo)(r:Rf):Oo×Nat:=
 if r.ZQ=1 then(if r.term<k.term then(.zero,140) else({ k with term:=r.term,Ug:=r.Ug},0))
 else if r.ZQ=2 then(if r.Ps.Tj≠k.last+1 then(.zero,140) else if 10000≤k.VZ.length then(.zero,2) else({ k with VZ:=k.VZ ++ [r.Ps]},0))
 else if r.ZQ=3 then(if r.at_≤k.Wt.Tj∨k.last<r.at_ then(.zero,140) else({ k with VZ:=k.VZ.take (r.at_ - k.Wt.Tj - 1).toNat},0))
 else if r.Wt.Tj≤k.Wt.Tj then(.zero,140)
 else({ k with Wt:=r.Wt,VZ:=if(k.VZ[(r.Wt.Tj - k.Wt.Tj - 1).toNat]?).map (·.term)=some r.Wt.term then k.VZ.drop ((r.Wt.Tj - k.Wt.Tj - 1).toNat+1) else []},0)
def IJ (k:Oo)(r:Rf):Oo×Nat:=if J4 k then(if I6 r then Kk k r else(.zero,140)) else(.zero,1)
def Ki (n:Int):Prop:=0≤n∧n≤1000000000
def Ji (l:List Int):Prop:=l.length≤4096∧ ∀ n∈l,Ki n
def Jf (b:List UInt8):Prop:=b.length≤65536
structure IZ (s:Sp):Prop where
 Tj:Ki s.Tj
 term:Ki s.term
 v:Ji s.v
 l:Ji s.l
 b:Jf s.b
structure I2 (e:TW):Prop where
 Tj:Ki e.Tj
 term:Ki e.term
 ZQ:Ki e.ZQ
 v:Ji e.v
 l:Ji e.l
 b:Jf e.b
theorem LN:Ki 0:=⟨by omega,by omega⟩
theorem IZ.zero:IZ .zero:=⟨LN,LN,⟨by simp [Sp.zero],by simp [Sp.zero]⟩,⟨by simp [Sp.zero],by simp [Sp.zero]⟩,by simp [Jf,Sp.zero]⟩
theorem I2.zero:I2 .zero:=⟨LN,LN,LN,⟨by simp [TW.zero],by simp [TW.zero]⟩,⟨by simp [TW.zero],by simp [TW.zero]⟩,by simp [Jf,TW.zero]⟩
structure IG (k:Oo):Prop where
 len:k.VZ.length≤10000
 term:Ki k.term
 Ug:Ki k.Ug
 Wt:IZ k.Wt
 one:k.Wt= .zero∨1≤k.Wt.Tj
 VZ: ∀ e∈k.VZ,I2 e
 row: ∀ (i:Nat) (e:TW),k.VZ[i]?=some e→e.Tj=k.Wt.Tj+1+i
end Go.Proofs.YtnhmoibjlakhjaaGreat
