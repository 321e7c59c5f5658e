/- Lemmas, each under its own conditions. -/
set_option linter.all false
namespace Go.Proofs.YtnhmoibjlakhjaaGreat
set_option maxRecDepth 100000
set_option maxHeartbeats 16000000
namespace Le
set_option maxRecDepth 100000
set_option maxHeartbeats 16000000
def low:Nat->Nat->List UInt8
 | _,0=> []
 | v,n+1=>UInt8.ofNat v ::low (v / 256) n
def num:List UInt8->Nat
 | []=>0
 | c ::l=>c.toNat+256*num l
@[simp] theorem EV (v n:Nat):(low v n).length=n:=by
 induction n generalizing v with
 | zero=>rfl
 | succ n ih=>simp [low,ih]
theorem EU (l:List UInt8):num l<256 ^ l.length:=by
 induction l with
 | nil=>simp [num]
 | cons c l ih=>have:=c.toNat_lt;simp only [num,List.length_cons,Nat.pow_succ];omega
theorem MW (v n:Nat):num (low v n)=v % 256 ^ n:=by
 induction n generalizing v with
 | zero=>simp [low,num,Nat.mod_one]
 | succ n ih=>
  simp only [low,num,ih];rw [Nat.pow_succ,Nat.mul_comm (256 ^ n) 256,Nat.mod_mul];simp
theorem FT (l:List UInt8):low (num l) l.length=l:=by
 induction l with
 | nil=>rfl
 | cons c l ih=>
  have d:=c.toNat_lt;simp only [List.length_cons,low,num];rw [show (c.toNat+256*num l) / 256=num l by omega,ih];congr 1
  apply UInt8.toNat_inj.1;simp
end Le
open Le
inductive Sh where
 | num | Yo | Z2 | YD
 | rows (l:List Sh)
inductive Da where
 | int (n:Int)
 | Z2 (b:List UInt8)
 | YD (b:Bool)
 | rows (l:List (List Da))
abbrev St:=List UInt8×Nat
def Qx (n:Int):Nat:=(n % 18446744073709551616).toNat
def Kq (v:Nat):Int:=if v<9223372036854775808 then(v:Int) else(v:Int) - 18446744073709551616
def St.put (s:St)(b:List UInt8):St:=(s.1 ++b,s.2)
def St.fail (s:St)(e:Nat):St:=(s.1,if s.2=0 then e else s.2)
def Xh (n:Int)(s:St):St:=if 0<=n/\n<=1000000000 then s.put (low n.toNat 4) else s.fail 1
def Vu (b:List UInt8)(s:St):St:=if b.length<=65536 then s.put (low b.length 4 ++b) else s.fail 2
def Po (n:Int)(s:St):St:=s.put (low (Qx n) 8)
def Jr (b:Bool)(s:St):St:=s.put [if b then 1 else 0]
def D9 (n:Nat)(s:St):St:=if n<=4096 then Xh n s else s.fail 2
mutual
def lay:Sh->Da->St->St
 | .num,.int n,s=>Xh n s
 | .Yo,.int n,s=>Po n s
 | .Z2,.Z2 b,s=>Vu b s
 | .YD,.YD b,s=>Jr b s
 | .rows l,.rows ds,s=>if s.2=0 then(if ds.length<=4096 then ds.foldl (fun s d=>Xw l d s) (Xh ds.length s) else s.fail 2) else s
 | _,_,s=>s
def Xw:List Sh->List Da->St->St
 | a ::l,d ::ds,s=>Xw l ds (lay a d s)
 | _,_,s=>s
end
def iter {α:Type}(f:List UInt8->Option (α×List UInt8)):Nat->List UInt8->Option (List α×List UInt8)
 | 0,l=>some ([],l)
 | n+1,l=>(f l).bind fun x=>(iter f n x.2).bind fun y=>some (x.1 ::y.1,y.2)
def rdNum (l:List UInt8):Option (Nat×List UInt8):=if l.length<4 then none else if 1000000000<num (l.take 4) then none else some (num (l.take 4),l.drop 4)
def RH (l:List UInt8):Option (Int×List UInt8):=if l.length<8 then none else some (Kq (num (l.take 8)),l.drop 8)
def GJ (l:List UInt8):Option (List UInt8×List UInt8):=
 if l.length<4 then none else if 65536<num (l.take 4) then none else if l.length<4+num (l.take 4) then none
 else some ((l.drop 4).take (num (l.take 4)),l.drop (4+num (l.take 4)))
def J9:List UInt8->Option (Bool×List UInt8)
 | []=>none
 | c ::l=>if c.toNat<=1 then some (c.toNat == 1,l) else none
mutual
def rd:Sh->List UInt8->Option (Da×List UInt8)
 | .num,l=>(rdNum l).bind fun x=>some (.int x.1,x.2)
 | .Yo,l=>(RH l).bind fun x=>some (.int x.1,x.2)
 | .Z2,l=>(GJ l).bind fun x=>some (.Z2 x.1,x.2)
 | .YD,l=>(J9 l).bind fun x=>some (.YD x.1,x.2)
 | .rows sh,l=>(rdNum l).bind fun x=>if x.1<=4096 then(iter (Ip sh) x.1 x.2).bind fun y=>some (.rows y.1,y.2) else none
def Ip:List Sh->List UInt8->Option (List Da×List UInt8)
 | [],l=>some ([],l)
 | a ::sh,l=>(rd a l).bind fun x=>(Ip sh x.2).bind fun y=>some (x.1 ::y.1,y.2)
end
theorem St.JB {s:St}(h:s.2≠0)(e:Nat):(s.fail e).2=s.2:=by simp [St.fail,h]
theorem Kk {s:St}(h:s.2≠0)(n:Int):(Xh n s).2=s.2:=by
 unfold Xh;split
 ·rfl
 ·exact St.JB h _
theorem LL {s:St}(h:s.2≠0)(b:List UInt8):(Vu b s).2=s.2:=by
 unfold Vu;split
 ·rfl
 ·exact St.JB h _
mutual
theorem FU: ∀ (a:Sh)(d:Da)(s:St),s.2≠0->(lay a d s).2=s.2
 | .num,.int n,s,h=>Kk h n
 | .Yo,.int n,s,h=>rfl
 | .Z2,.Z2 b,s,h=>LL h b
 | .YD,.YD b,s,h=>rfl
 | .rows l,.rows ds,s,h=>by simp [lay,h]
 | .num,.Z2 _,s,h=>rfl
 | .num,.YD _,s,h=>rfl
 | .num,.rows _,s,h=>rfl
 | .Yo,.Z2 _,s,h=>rfl
 | .Yo,.YD _,s,h=>rfl
 | .Yo,.rows _,s,h=>rfl
 | .Z2,.int _,s,h=>rfl
 | .Z2,.YD _,s,h=>rfl
 | .Z2,.rows _,s,h=>rfl
 | .YD,.int _,s,h=>rfl
 | .YD,.Z2 _,s,h=>rfl
 | .YD,.rows _,s,h=>rfl
 | .rows _,.int _,s,h=>rfl
 | .rows _,.Z2 _,s,h=>rfl
 | .rows _,.YD _,s,h=>rfl
theorem Pn: ∀ (l:List Sh)(ds:List Da)(s:St),s.2≠0->(Xw l ds s).2=s.2
 | [],_,s,h=>by simp [Xw]
 | _ ::_,[],s,h=>by simp [Xw]
 | a ::l,d ::ds,s,h=>by
  have j:=FU a d s h;have m:=Pn l ds (lay a d s) (by rw [j];exact h);simp only [Xw];rw [m,j]
end
theorem Hw (l:List Sh)(ds:List (List Da))(s:St)(h:s.2≠0):(ds.foldl (fun s d=>Xw l d s) s).2=s.2:=by
 induction ds generalizing s with
 | nil=>rfl
 | cons d ds ih=>
  have j:=Pn l d s h;simp only [List.foldl_cons];rw [ih _ (by rw [j];exact h),j]
def XY (s s':St):Prop:= ∃ p,s'.1=s.1 ++p
theorem XY.refl (s:St):XY s s:=⟨[],by simp⟩
theorem XY.trans {a b c:St}(h:XY a b)(g:XY b c):XY a c:=by
 obtain⟨p,d⟩:=h;obtain⟨q,j⟩:=g;exact⟨p ++q,by rw [j,d,List.append_assoc]⟩
theorem Tm (s:St)(b:List UInt8):XY s (s.put b):=⟨b,rfl⟩
theorem SI (s:St)(e:Nat):XY s (s.fail e):=⟨[],by simp [St.fail]⟩
theorem Oa (n:Int)(s:St):XY s (Xh n s):=by
 unfold Xh;split
 ·exact Tm _ _
 ·exact SI _ _
theorem Kw (b:List UInt8)(s:St):XY s (Vu b s):=by
 unfold Vu;split
 ·exact Tm _ _
 ·exact SI _ _
theorem KA (l:List Sh)(h: ∀ ds s,XY s (Xw l ds s))(ds:List (List Da))(s:St):XY s (ds.foldl (fun s d=>Xw l d s) s):=by
 induction ds generalizing s with
 | nil=>exact XY.refl s
 | cons d ds ih=>exact(h d s).trans (ih _)
mutual
theorem IU: ∀ (a:Sh)(d:Da)(s:St),XY s (lay a d s)
 | .num,.int n,s=>Oa n s
 | .Yo,.int n,s=>Tm _ _
 | .Z2,.Z2 b,s=>Kw b s
 | .YD,.YD b,s=>Tm _ _
 | .rows l,.rows ds,s=>by
  simp only [lay];split
  ·split
   ·exact(Oa _ s).trans (KA l (fun ds s=>Pm l ds s) ds _)
   ·exact SI _ _
  ·exact XY.refl s
 | .num,.Z2 _,s=>XY.refl s
 | .num,.YD _,s=>XY.refl s
 | .num,.rows _,s=>XY.refl s
 | .Yo,.Z2 _,s=>XY.refl s
 | .Yo,.YD _,s=>XY.refl s
 | .Yo,.rows _,s=>XY.refl s
 | .Z2,.int _,s=>XY.refl s
 | .Z2,.YD _,s=>XY.refl s
 | .Z2,.rows _,s=>XY.refl s
 | .YD,.int _,s=>XY.refl s
 | .YD,.Z2 _,s=>XY.refl s
 | .YD,.rows _,s=>XY.refl s
 | .rows _,.int _,s=>XY.refl s
 | .rows _,.Z2 _,s=>XY.refl s
 | .rows _,.YD _,s=>XY.refl s
theorem Pm: ∀ (l:List Sh)(ds:List Da)(s:St),XY s (Xw l ds s)
 | [],_,s=>by simp only [Xw];exact XY.refl s
 | _ ::_,[],s=>by simp only [Xw];exact XY.refl s
 | a ::l,d ::ds,s=>by
  simp only [Xw];exact(IU a d s).trans (Pm l ds _)
end
theorem Pl {l:List UInt8}{k:Nat}(h:k<=l.length):low (num (l.take k)) k=l.take k:=by
 have:=FT (l.take k);rwa [List.length_take,Nat.min_eq_left h] at this
theorem QP (l:List UInt8)(h:4<=l.length)(d:num (l.take 4)<=1000000000)(B:List UInt8):Xh (num (l.take 4)) (B,0)=(B ++l.take 4,0):=by
 unfold Xh;rw [if_pos ⟨by omega,by omega⟩,Int.toNat_natCast,Pl h];rfl
theorem O0 {l r:List UInt8}{n:Nat}(h:rdNum l=some (n,r)):l=l.take 4 ++r/\n=num (l.take 4)/\n<=1000000000/\4<=l.length:=by
 unfold rdNum at h;split at h
 ·cases h
 ·split at h
  ·cases h
  ·cases h
   exact⟨by simp,rfl,by omega,by omega⟩
theorem MT {l r:List UInt8}{n:Int}(h:RH l=some (n,r)):l=l.take 8 ++r/\n=Kq (num (l.take 8))/\8<=l.length:=by
 unfold RH at h;split at h
 ·cases h
 ·cases h
  exact⟨by simp,rfl,by omega⟩
theorem Iu (v:Nat)(h:v<18446744073709551616):Qx (Kq v)=v:=by
 unfold Qx Kq;split <;> omega
theorem IM {l r b:List UInt8}(h:GJ l=some (b,r)):l=l.take 4 ++ (b ++r)/\b.length=num (l.take 4)/\b.length<=65536/\4<=l.length:=by
 unfold GJ at h;split at h
 ·cases h
 ·split at h
  ·cases h
  ·split at h
   ·cases h
   ·cases h
    have hb:((l.drop 4).take (num (l.take 4))).length=num (l.take 4):=by rw [List.length_take,List.length_drop];omega
    have e:l=l.take 4 ++l.drop 4:=(List.take_append_drop 4 l).symm;have d:l.drop 4=(l.drop 4).take (num (l.take 4)) ++l.drop (4+num (l.take 4)):=by
     rw [<-List.drop_drop,List.take_append_drop]
    exact⟨e.trans (congrArg (l.take 4 ++ ·) d),hb,by omega,by omega⟩
theorem LA {l r:List UInt8}{b:Bool}(h:J9 l=some (b,r)):l= [if b then 1 else 0] ++r:=by
 cases l with
 | nil=>cases h
 | cons c l=>
  by_cases hc:c.toNat<=1
  ·have d:(if c.toNat<=1 then some (c.toNat == 1,l) else none)=some (b,r):=h;rw [if_pos hc] at d
   cases d
   have j:c.toNat=0∨c.toNat=1:=by omega
   rcases j with m | s
   ·have:c=0:=UInt8.toNat_inj.1 m;subst this;rfl
   ·have:c=1:=UInt8.toNat_inj.1 s;subst this;rfl
  ·have d:(if c.toNat<=1 then some (c.toNat == 1,l) else none)=some (b,r):=h;rw [if_neg hc] at d
   cases d
theorem Hg (sh:List Sh)(h: ∀ l ds r,Ip sh l=some (ds,r)-> ∃ p,l=p ++r/\ ∀ B,Xw sh ds (B,0)=(B ++p,0)):
  ∀ (n:Nat) (l:List UInt8) (m:List (List Da)) (r:List UInt8),iter (Ip sh) n l=some (m,r)->m.length=n/\ ∃ p,l=p ++r/\ ∀ B,m.foldl (fun s d=>Xw sh d s) (B,0)=(B ++p,0):=by
 intro n;induction n with
 | zero=>
  intro l m r j;simp only [iter] at j
  cases j
  exact⟨rfl,[],rfl,fun B=>by simp⟩
 | succ n ih=>
  intro l m r j;simp only [iter] at j;obtain⟨⟨d,l1⟩,C,j⟩:=Option.bind_eq_some_iff.1 j;obtain⟨⟨ds,J⟩,D,j⟩:=Option.bind_eq_some_iff.1 j
  cases j
  obtain⟨p,G,E⟩:=h l d l1 C;obtain⟨F,q,I,u⟩:=ih l1 ds J D;refine⟨by simp [F],p ++q,by rw [G,I,List.append_assoc],fun B=> ?_⟩
  simp only [List.foldl_cons];rw [E,u,List.append_assoc]
mutual
theorem EP: ∀ (sh:Sh)(l:List UInt8)(d:Da)(r:List UInt8),rd sh l=some (d,r)-> ∃ p,l=p ++r/\ ∀ B,lay sh d (B,0)=(B ++p,0)
 | .num,l,d,r,h=>by
  simp only [rd] at h;obtain⟨⟨n,E⟩,m,j⟩:=Option.bind_eq_some_iff.1 h
  cases j
  obtain⟨s,u,C,D⟩:=O0 m;subst u;exact⟨_,s,fun B=>QP l D C B⟩
 | .Yo,l,d,r,h=>by
  simp only [rd] at h;obtain⟨⟨n,E⟩,m,j⟩:=Option.bind_eq_some_iff.1 h
  cases j
  obtain⟨s,u,C⟩:=MT m;subst u;refine⟨_,s,fun B=> ?_⟩
  simp only [lay,Po,St.put];have F:num (l.take 8)<18446744073709551616:=by
   have:=EU (l.take 8);rwa [List.length_take,Nat.min_eq_left C] at this
  rw [Iu _ F,Pl C]
 | .Z2,l,d,r,h=>by
  simp only [rd] at h;obtain⟨⟨b,E⟩,m,j⟩:=Option.bind_eq_some_iff.1 h
  cases j
  obtain⟨s,u,C,D⟩:=IM m;refine⟨l.take 4 ++b,by rw [List.append_assoc];exact s,fun B=> ?_⟩;simp only [lay,Vu,St.put];rw [if_pos C,u,Pl D]
 | .YD,l,d,r,h=>by
  simp only [rd] at h;obtain⟨⟨b,E⟩,m,j⟩:=Option.bind_eq_some_iff.1 h
  cases j
  exact⟨_,LA m,fun B=>rfl⟩
 | .rows sh,l,d,r,h=>by
  simp only [rd] at h;obtain⟨⟨n,E⟩,m,j⟩:=Option.bind_eq_some_iff.1 h;dsimp only at j;split at j
  ·rename_i O;obtain⟨⟨N,M⟩,G,I⟩:=Option.bind_eq_some_iff.1 j
   cases I
   obtain⟨s,u,C,D⟩:=O0 m;obtain⟨L,p,K,J⟩:=Hg sh (fun l ds r=>Jl sh l ds r) n E N M G;refine⟨l.take 4 ++p,by rw [List.append_assoc,<-K];exact s,fun B=> ?_⟩;simp only [lay,if_true];rw [if_pos (by omega),L,u,QP l D (by omega),J,List.append_assoc]
  ·cases j
theorem Jl: ∀ (sh:List Sh)(l:List UInt8)(ds:List Da)(r:List UInt8),Ip sh l=some (ds,r)-> ∃ p,l=p ++r/\ ∀ B,Xw sh ds (B,0)=(B ++p,0)
 | [],l,ds,r,h=>by
  simp only [Ip] at h
  cases h
  exact⟨[],rfl,fun B=>by simp [Xw]⟩
 | a ::sh,l,ds,r,h=>by
  simp only [Ip] at h;obtain⟨⟨d,l1⟩,s,h⟩:=Option.bind_eq_some_iff.1 h;obtain⟨⟨j,F⟩,u,h⟩:=Option.bind_eq_some_iff.1 h
  cases h
  obtain⟨p,D,C⟩:=EP a l d l1 s;obtain⟨q,E,m⟩:=Jl sh l1 j F u;refine⟨p ++q,by rw [D,E,List.append_assoc],fun B=> ?_⟩
  simp only [Xw];rw [C,m,List.append_assoc]
end
mutual
def Fits:Sh->Da->Prop
 | .num,.int _=>True
 | .Yo,.int n=> -9223372036854775808<=n/\n<=9223372036854775807
 | .Z2,.Z2 _=>True
 | .YD,.YD _=>True
 | .rows l,.rows ds=> ∀ d∈ds,QZ l d
 | _,_=>False
def QZ:List Sh->List Da->Prop
 | [],[]=>True
 | a ::l,d ::ds=>Fits a d/\QZ l ds
 | _,_=>False
end
theorem QO {n:Int}{B:List UInt8}(h:(Xh n (B,0)).2=0):0<=n/\n<=1000000000/\ ∀ B':List UInt8,Xh n (B',0)=(B' ++low n.toNat 4,0):=by
 by_cases hn:0<=n/\n<=1000000000
 ·refine⟨hn.1,hn.2,fun B'=> ?_⟩
  unfold Xh;rw [if_pos hn];rfl
 ·unfold Xh at h;rw [if_neg hn] at h;simp [St.fail] at h
theorem NJ (n:Nat)(h:n<=1000000000)(r:List UInt8):rdNum (low n 4 ++r)=some (n,r):=by
 unfold rdNum;have e:(low n 4 ++r).take 4=low n 4:=List.take_left' (by simp);rw [e,MW,Nat.mod_eq_of_lt (by omega),if_neg (by simp),if_neg (by omega),List.drop_left' (by simp)]
theorem Lw (n:Int)(h: -9223372036854775808<=n/\n<=9223372036854775807)(r:List UInt8):RH (low (Qx n) 8 ++r)=some (n,r):=by
 unfold RH;have e:(low (Qx n) 8 ++r).take 8=low (Qx n) 8:=List.take_left' (by simp);have j:Qx n<18446744073709551616:=by unfold Qx;omega
 have d:Kq (Qx n)=n:=by unfold Kq Qx;split <;> omega
 rw [e,MW,Nat.mod_eq_of_lt (by simpa using j),if_neg (by simp),List.drop_left' (by simp),d]
theorem GI (b:List UInt8)(h:b.length<=65536)(r:List UInt8):GJ (low b.length 4 ++b ++r)=some (b,r):=by
 unfold GJ;have e:(low b.length 4 ++b ++r).take 4=low b.length 4:=by rw [List.append_assoc,List.take_left' (by simp)]
 have d:(low b.length 4 ++b ++r).drop 4=b ++r:=by rw [List.append_assoc,List.drop_left' (by simp)]
 have j:num (low b.length 4)=b.length:=by rw [MW,Nat.mod_eq_of_lt (by omega)]
 rw [e,j,if_neg (by simp),if_neg (by omega),if_neg (by simp),d,<-List.drop_drop,d,List.take_left' rfl,List.drop_left' rfl]
theorem J8 (b:Bool)(r:List UInt8):J9 ([if b then 1 else 0] ++r)=some (b,r):=by cases b <;> rfl
theorem F0 (sh:List Sh)(h: ∀ ds B C,QZ sh ds->Xw sh ds (B,0)=(C,0)-> ∃ p,(∀ B',Xw sh ds (B',0)=(B' ++p,0))/\ ∀ r,Ip sh (p ++r)=some (ds,r)):
  ∀ (j:List (List Da)) (B C:List UInt8),(∀ d∈j,QZ sh d)->j.foldl (fun s d=>Xw sh d s) (B,0)=(C,0)->
   ∃ p,(∀ B':List UInt8,j.foldl (fun s d=>Xw sh d s) (B',0)=(B' ++p,0))/\ ∀ r,iter (Ip sh) j.length (p ++r)=some (j,r):=by
 intro j;induction j with
 | nil=>
  intro B C _ m;exact⟨[],fun B'=>by simp,fun r=>by simp [iter]⟩
 | cons d ds ih=>
  intro B C E m;simp only [List.foldl_cons] at m;have M:(Xw sh d (B,0)).2=0:=by
   rcases Nat.eq_zero_or_pos (Xw sh d (B,0)).2 with u | u
   ·exact u
   ·have D:=Hw sh ds (Xw sh d (B,0)) (by omega);rw [m] at D;simp only at D;omega
  have I:Xw sh d (B,0)=((Xw sh d (B,0)).1,0):=Prod.ext rfl M;obtain⟨p,F,K⟩:=h d B _ (E d (by simp)) I;rw [F] at m;obtain⟨q,J,G⟩:=ih _ _ (fun x L=>E x (by simp [L])) m;refine⟨p ++q,fun B'=> ?_,fun r=> ?_⟩
  ·simp only [List.foldl_cons];rw [F,J,List.append_assoc]
  ·simp only [List.length_cons,iter];rw [List.append_assoc,K];simp only [Option.bind_some];rw [G];rfl
mutual
theorem EZ: ∀ (sh:Sh)(d:Da)(B C:List UInt8),Fits sh d->lay sh d (B,0)=(C,0)-> ∃ p,(∀ B',lay sh d (B',0)=(B' ++p,0))/\ ∀ r,rd sh (p ++r)=some (d,r)
 | .num,.int n,B,C,_,h=>by
  simp only [lay] at h;obtain⟨u,j,m⟩:=QO (B:=B) (by rw [h]);refine⟨low n.toNat 4,fun B'=>by simp only [lay];exact m B',fun r=> ?_⟩;simp only [rd];rw [NJ _ (by omega)];simp only [Option.bind_some];rw [Int.toNat_of_nonneg u]
 | .Yo,.int n,B,C,hf,h=>by
  simp only [Fits] at hf;refine⟨low (Qx n) 8,fun B'=>rfl,fun r=> ?_⟩
  simp only [rd];rw [Lw n hf];rfl
 | .Z2,.Z2 b,B,C,_,h=>by
  have hb:b.length<=65536:=by
   rcases Nat.lt_or_ge 65536 b.length with j | j
   ·simp only [lay,Vu] at h;rw [if_neg (by omega)] at h;simp [St.fail] at h
   ·exact j
  refine⟨low b.length 4 ++b,fun B'=>by simp only [lay,Vu];rw [if_pos hb];rfl,fun r=> ?_⟩
  simp only [rd];rw [GI b hb];rfl
 | .YD,.YD b,B,C,_,h=>by
  refine⟨[if b then 1 else 0],fun B'=>rfl,fun r=> ?_⟩
  simp only [rd];rw [J8];rfl
 | .rows l,.rows ds,B,C,hf,h=>by
  simp only [Fits] at hf;simp only [lay,if_true] at h;have s:ds.length<=4096:=by
   rcases Nat.lt_or_ge 4096 ds.length with j | j
   ·rw [if_neg (by omega)] at h;simp [St.fail] at h
   ·exact j
  rw [if_pos s] at h;have F:(Xh ds.length (B,0)).2=0:=by unfold Xh;rw [if_pos ⟨by omega,by omega⟩];rfl
  obtain⟨_,_,m⟩:=QO F;rw [m] at h;obtain⟨p,D,E⟩:=F0 l (fun ds B C=>Jq l ds B C) ds _ _ hf h;refine⟨low ds.length 4 ++p,fun B'=> ?_,fun r=> ?_⟩
  ·simp only [lay,if_true];rw [if_pos s,m,D,List.append_assoc];rfl
  ·simp only [rd];rw [List.append_assoc,NJ _ (by omega)];simp only [Option.bind_some];rw [if_pos s,E];rfl
 | .num,.Z2 _,B,C,hf,h=>absurd hf (by simp [Fits])
 | .num,.YD _,B,C,hf,h=>absurd hf (by simp [Fits])
 | .num,.rows _,B,C,hf,h=>absurd hf (by simp [Fits])
 | .Yo,.Z2 _,B,C,hf,h=>absurd hf (by simp [Fits])
 | .Yo,.YD _,B,C,hf,h=>absurd hf (by simp [Fits])
 | .Yo,.rows _,B,C,hf,h=>absurd hf (by simp [Fits])
 | .Z2,.int _,B,C,hf,h=>absurd hf (by simp [Fits])
 | .Z2,.YD _,B,C,hf,h=>absurd hf (by simp [Fits])
 | .Z2,.rows _,B,C,hf,h=>absurd hf (by simp [Fits])
 | .YD,.int _,B,C,hf,h=>absurd hf (by simp [Fits])
 | .YD,.Z2 _,B,C,hf,h=>absurd hf (by simp [Fits])
 | .YD,.rows _,B,C,hf,h=>absurd hf (by simp [Fits])
 | .rows _,.int _,B,C,hf,h=>absurd hf (by simp [Fits])
 | .rows _,.Z2 _,B,C,hf,h=>absurd hf (by simp [Fits])
 | .rows _,.YD _,B,C,hf,h=>absurd hf (by simp [Fits])
theorem Jq: ∀ (sh:List Sh)(ds:List Da)(B C:List UInt8),QZ sh ds->Xw sh ds (B,0)=(C,0)-> ∃ p,(∀ B',Xw sh ds (B',0)=(B' ++p,0))/\ ∀ r,Ip sh (p ++r)=some (ds,r)
 | [],[],B,C,_,h=>⟨[],fun B'=>by simp [Xw],fun r=>by simp [Ip]⟩
 | [],_ ::_,B,C,hf,h=>absurd hf (by simp [QZ])
 | _ ::_,[],B,C,hf,h=>absurd hf (by simp [QZ])
 | a ::sh,d ::ds,B,C,hf,h=>by
  simp only [QZ] at hf;simp only [Xw] at h;have G:(lay a d (B,0)).2=0:=by
   rcases Nat.eq_zero_or_pos (lay a d (B,0)).2 with j | j
   ·exact j
   ·have m:=Pn sh ds (lay a d (B,0)) (by omega);rw [h] at m;simp only at m;omega
  have D:lay a d (B,0)=((lay a d (B,0)).1,0):=Prod.ext rfl G;obtain⟨p,s,F⟩:=EZ a d B _ hf.1 D;rw [s] at h;obtain⟨q,E,u⟩:=Jq sh ds _ _ hf.2 h;refine⟨p ++q,fun B'=> ?_,fun r=> ?_⟩
  ·simp only [Xw];rw [s,E,List.append_assoc]
  ·simp only [Ip];rw [List.append_assoc,F];simp only [Option.bind_some];rw [u];rfl
end
def Dl (l:List Sh)(ds:List (List Da))(j:Nat)(s:St):St:=(ds.take j).foldl (fun s d=>Xw l d s) s
def Zz:List Sh:= [.Z2,.num,.YD]
def YF:List Sh:= [.Z2,.num,.rows [.Z2],.Yo,.Yo,.Z2,.Z2,.Z2]
def Zn:List Sh:= [.Z2,.Z2,.Z2,.rows Zz,.rows YF]
def Ze:List Sh:= [.Z2,.Z2]
def YM:List Sh:= [.Z2,.Z2]
def Ya:List Sh:= [.Z2,.Z2,.num,.Z2,.Z2,.YD]
def EB:List Sh:= [.rows Ze,.rows Zn]
def ED:List Sh:= [.num,.num,.rows Ze,.rows Zn,.rows [.Z2],.rows YM,.rows Ya]
def WU:List Sh:= [.num,.Z2,.Z2,.Z2,.Z2,.Z2,.rows Zz,.Z2,.num,.rows [.Z2],.Yo,.Yo,.Z2,.Z2,.Z2,.num,.YD]
def Ei:List Sh:= [.rows [.num],.rows [.num]]
def OP:List Sh:= [.num,.num,.num,.num,.num,.num,.rows [.num],.rows [.num],.Z2,.num,.num,.num,.rows [.num],.rows [.num],.Z2]
def Db:List Sh:= [.num,.num,.num,.num,.Z2,.Z2,.Z2,.Z2,.Z2,.rows Zz,.Z2,.num,.rows [.Z2],.Yo,.Yo,.Z2,.Z2,.Z2,.num,.YD,.num,.num,.num]
def FC:List Sh:= [.num,.num,.num,.num]
def EN:List Sh:= [.num,.num,.num,.num,.num]
def EC:List Sh:= [.num,.num,.rows Ze,.rows Zn,.rows [.Z2],.rows YM,.rows Ya,.rows EN,.rows FC,.num]
structure Qj where
 Ry:Int
 term:Int
 v:List Int
 l:List Int
 b:List UInt8
 deriving DecidableEq
structure Sz where
 Ry:Int
 term:Int
 ZV:Int
 v:List Int
 l:List Int
 b:List UInt8
 deriving DecidableEq
structure OI where
 ZV:Int
 term:Int
 SC:Int
 ML:Sz
 at_:Int
 VB:Qj
 deriving DecidableEq
structure MH where
 term:Int
 SC:Int
 VB:Qj
 Ve:List Sz
 deriving DecidableEq
def VN:List Sh:= [.num,.num,.num,.rows [.num],.rows [.num],.Z2]
def Re:List Sh:= [.num,.num,.rows [.num],.rows [.num],.Z2]
def GA:List Sh:= [.num,.num,.num,.num,.rows [.num],.rows [.num],.Z2,.rows VN]
def Xq (l:List Int):List (List Da):=l.map fun n=> [.int n]
def Qj.da (s:Qj):List Da:= [.int s.Ry,.int s.term,.rows (Xq s.v),.rows (Xq s.l),.Z2 s.b]
def Sz.da (e:Sz):List Da:= [.int e.Ry,.int e.term,.int e.ZV,.rows (Xq e.v),.rows (Xq e.l),.Z2 e.b]
def OI.da (r:OI):List Da:= [.int r.ZV,.int r.term,.int r.SC,.int r.ML.Ry,.int r.ML.term,.int r.ML.ZV,.rows (Xq r.ML.v),.rows (Xq r.ML.l),.Z2 r.ML.b,.int r.at_,.int r.VB.Ry,.int r.VB.term,.rows (Xq r.VB.v),.rows (Xq r.VB.l),.Z2 r.VB.b]
def MH.da (k:MH):List Da:= [.int k.term,.int k.SC,.int k.VB.Ry,.int k.VB.term,.rows (Xq k.VB.v),.rows (Xq k.VB.l),.Z2 k.VB.b,.rows (k.Ve.map Sz.da)]
def Qj.zero:Qj:=⟨0,0,[],[],[]⟩
def Sz.zero:Sz:=⟨0,0,0,[],[],[]⟩
def MH.zero:MH:=⟨0,0,.zero,[]⟩
def OI.ET (t v:Int):OI:=⟨1,t,v,.zero,0,.zero⟩
def OI.Es (e:Sz):OI:=⟨2,0,0,e,0,.zero⟩
def OI.Dh (n:Int):OI:=⟨3,0,0,.zero,n,.zero⟩
def OI.Er (s:Qj):OI:=⟨4,0,0,.zero,0,s⟩
def Ek (r:OI):Nat:=(Xw OP r.da ([],0)).2
def Dw (k:MH):List OI:=OI.ET k.term k.SC ::((if k.VB= .zero then [] else [OI.Er k.VB]) ++k.Ve.map OI.Es)
def wr (n:Int):Int:=Kq (Qx n)
def Fo (s:Int):Nat->List Sz->Bool
 | _,[]=>true
 | i,e ::l=>e.Ry == wr (wr (s+1)+i) && Fo s (i+1) l
def EO (k:MH):Bool:=k.Ve.length<=10000 && !(k.VB.Ry<1 && k.VB≠ .zero) && Fo k.VB.Ry 0 k.Ve && (Dw k).all fun r=>Ek r == 0
def DD (r:OI):Bool:=Ek r == 0 &&
 ((r.ZV == 1 && r.ML= .zero && r.at_ == 0 && r.VB= .zero) ||(r.ZV == 2 && r.term == 0 && r.SC == 0 && r.at_ == 0 && r.VB= .zero)
 ||(r.ZV == 3 && r.term == 0 && r.SC == 0 && r.ML= .zero && r.VB= .zero) ||(r.ZV == 4 && r.term == 0 && r.SC == 0 && r.ML= .zero && r.at_ == 0))
def MH.last (k:MH):Int:=k.VB.Ry+k.Ve.length
def FZ (k:MH)(r:OI):MH×Nat:=
 if r.ZV=1 then(if r.term<k.term then(.zero,140) else({ k with term:=r.term,SC:=r.SC},0))
 else if r.ZV=2 then(if r.ML.Ry≠k.last+1 then(.zero,140) else if 10000<=k.Ve.length then(.zero,2) else({ k with Ve:=k.Ve ++ [r.ML]},0))
 else if r.ZV=3 then(if r.at_<=k.VB.Ry∨k.last<r.at_ then(.zero,140) else({ k with Ve:=k.Ve.take (r.at_ - k.VB.Ry - 1).toNat},0))
 else if r.VB.Ry<=k.VB.Ry then(.zero,140)
 else({ k with VB:=r.VB,Ve:=if(k.Ve[(r.VB.Ry - k.VB.Ry - 1).toNat]?).map (·.term)=some r.VB.term then k.Ve.drop ((r.VB.Ry - k.VB.Ry - 1).toNat+1) else []},0)
def Dm (k:MH)(r:OI):MH×Nat:=if EO k then(if DD r then FZ k r else(.zero,140)) else(.zero,1)
def FI (n:Int):Prop:=0<=n/\n<=1000000000
def D8 (l:List Int):Prop:=l.length<=4096/\ ∀ n∈l,FI n
def D7 (b:List UInt8):Prop:=b.length<=65536
structure DU (s:Qj):Prop where
 Ry:FI s.Ry
 term:FI s.term
 v:D8 s.v
 l:D8 s.l
 b:D7 s.b
structure DV (e:Sz):Prop where
 Ry:FI e.Ry
 term:FI e.term
 ZV:FI e.ZV
 v:D8 e.v
 l:D8 e.l
 b:D7 e.b
theorem GQ:FI 0:=⟨by omega,by omega⟩
theorem DU.zero:DU .zero:=⟨GQ,GQ,⟨by simp [Qj.zero],by simp [Qj.zero]⟩,⟨by simp [Qj.zero],by simp [Qj.zero]⟩,by simp [D7,Qj.zero]⟩
theorem DV.zero:DV .zero:=⟨GQ,GQ,GQ,⟨by simp [Sz.zero],by simp [Sz.zero]⟩,⟨by simp [Sz.zero],by simp [Sz.zero]⟩,by simp [D7,Sz.zero]⟩
structure Dp (k:MH):Prop where
 len:k.Ve.length<=10000
 term:FI k.term
 SC:FI k.SC
 VB:DU k.VB
 one:k.VB= .zero∨1<=k.VB.Ry
 Ve: ∀ e∈k.Ve,DV e
 row: ∀ (i:Nat) (e:Sz),k.Ve[i]?=some e->e.Ry=k.VB.Ry+1+i
end Go.Proofs.YtnhmoibjlakhjaaGreat
