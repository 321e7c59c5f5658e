/- Lemmas of the proof. No condition but each theorem's own. -/
import Derived.Test.YtnhmoibjlakhjaaGreatM01
import Derived.Test.YtnhmoibjlakhjaaGreatM03
set_option linter.unusedVariables false
set_option linter.unusedSimpArgs false
namespace Go.Proofs.YtnhmoibjlakhjaaGreat
set_option maxRecDepth 100000
set_option maxHeartbeats 16000000
open Go.RowKit
section
variable {w w' : World} {S S' : Nat → Prop}
theorem RC (l:List Int):(XN l).length=l.length:=by simp [XN]
theorem PG {α β:Type}(f:α→β): ∀ (l:List β),(∀ y∈l,∃ x,y=f x)→ ∃ m:List α,l=m.map f
 | [],_=>⟨[],rfl⟩
 | y ::l,h=>by
  obtain⟨x,rfl⟩:=h y (by simp);obtain⟨l',rfl⟩:=PG f l fun z hz=>h z (by simp [hz])
  exact⟨x ::l',rfl⟩
theorem ZV.all {l:List Sh}{ds:List (List Da)}{A:Option Addr}(h:ZV w S l ds A): ∀ d∈ds,∃ vs,ZG w S l d vs:=fun d hd=>by
 obtain⟨j,hj⟩:=List.getElem?_of_mem hd
 obtain⟨ad,_,_,h⟩:=h (by have:=(List.getElem?_eq_some_iff.1 hj).1;omega);obtain⟨vs,hc,_⟩:=h j d hj;exact⟨vs,hc⟩
theorem ZV.ints {ds:List (List Da)}{A:Option Addr}(h:ZV w S [.num] ds A): ∃ l:List Int,ds=XN l:=
 PG (fun n:Int=> [Da.int n]) ds fun d hd=>by
  obtain⟨vs,hc⟩:=h.all d hd;obtain⟨d0,ds',v,vs',rfl,rfl,h1,h2⟩:=hc.cons;obtain⟨n,rfl,rfl⟩:=h1.num;obtain⟨rfl,rfl⟩:=h2.nil;exact⟨n,rfl⟩
theorem YJ.ints {d:Da}{v:Value}(h:YJ w S (.rows [.num]) d v): ∃ (l:List Int)(A:Option Addr)(c:Nat),d= .rows (XN l)∧v= .slice A l.length c∧ZV w S [.num] (XN l) A:=by
 obtain⟨ds,A,c,rfl,rfl,g⟩:=YJ.rows h;obtain⟨l,rfl⟩:=ZV.ints g;exact⟨l,A,c,rfl,by rw [RC],g⟩
theorem YJ.Sy {l:List Int}{A:Option Addr}(c:Nat)(h:ZV w S [.num] (XN l) A):YJ w S (.rows [.num]) (.rows (XN l)) (.slice A l.length c):=by
 have h:=YJ.WH c h;rwa [RC] at h
def TW.cs (e:TW)(A:Option Addr)(c:Nat)(B:Option Addr)(d:Nat):List Value:= [.int .i64 e.Tq,.int .i64 e.term,.int .i64 e.ZQ,.slice A e.v.length c,.slice B e.l.length d,.string (Z9 e.b)]
def Sq.cs (s:Sq)(A:Option Addr)(c:Nat)(B:Option Addr)(d:Nat):List Value:= [.int .i64 s.Tq,.int .i64 s.term,.slice A s.v.length c,.slice B s.l.length d,.string (Z9 s.b)]
theorem TW.YM {ds:List Da}{vs:List Value}(h:ZG w S WF ds vs): ∃ (e:TW)(A:Option Addr)(c:Nat)(B:Option Addr)(d:Nat),ds=e.da∧vs=e.cs A c B d∧ZV w S [.num] (XN e.v) A∧ZV w S [.num] (XN e.l) B:=by
 unfold WF at h;obtain⟨_,_,_,_,rfl,rfl,h0,h⟩:=h.cons;obtain⟨_,_,_,_,rfl,rfl,h1,h⟩:=h.cons;obtain⟨_,_,_,_,rfl,rfl,h2,h⟩:=h.cons;obtain⟨_,_,_,_,rfl,rfl,h3,h⟩:=h.cons;obtain⟨_,_,_,_,rfl,rfl,h4,h⟩:=h.cons;obtain⟨_,_,_,_,rfl,rfl,h5,h⟩:=h.cons;obtain⟨rfl,rfl⟩:=h.nil;obtain⟨n0,rfl,rfl⟩:=h0.num;obtain⟨n1,rfl,rfl⟩:=h1.num;obtain⟨n2,rfl,rfl⟩:=h2.num;obtain⟨l3,A,c,rfl,rfl,r3⟩:=h3.ints;obtain⟨l4,B,d,rfl,rfl,r4⟩:=h4.ints;obtain⟨b,rfl,rfl⟩:=h5.T0;exact⟨⟨n0,n1,n2,l3,l4,b⟩,A,c,B,d,rfl,rfl,r3,r4⟩
theorem TW.Ja (e:TW){A:Option Addr}(c:Nat){B:Option Addr}(d:Nat)(h:ZV w S [.num] (XN e.v) A)(g:ZV w S [.num] (XN e.l) B):ZG w S WF e.da (e.cs A c B d):=
 .mk (.Xp _) <| .mk (.Xp _) <| .mk (.Xp _) <| .mk (.Sy c h) <| .mk (.Sy d g) <| .mk (.YW _) .Jb
theorem Sq.YM {ds:List Da}{vs:List Value}(h:ZG w S S9 ds vs): ∃ (e:Sq)(A:Option Addr)(c:Nat)(B:Option Addr)(d:Nat),ds=e.da∧vs=e.cs A c B d∧ZV w S [.num] (XN e.v) A∧ZV w S [.num] (XN e.l) B:=by
 unfold S9 at h;obtain⟨_,_,_,_,rfl,rfl,h0,h⟩:=h.cons;obtain⟨_,_,_,_,rfl,rfl,h1,h⟩:=h.cons;obtain⟨_,_,_,_,rfl,rfl,h3,h⟩:=h.cons;obtain⟨_,_,_,_,rfl,rfl,h4,h⟩:=h.cons;obtain⟨_,_,_,_,rfl,rfl,h5,h⟩:=h.cons;obtain⟨rfl,rfl⟩:=h.nil;obtain⟨n0,rfl,rfl⟩:=h0.num;obtain⟨n1,rfl,rfl⟩:=h1.num;obtain⟨l3,A,c,rfl,rfl,r3⟩:=h3.ints;obtain⟨l4,B,d,rfl,rfl,r4⟩:=h4.ints;obtain⟨b,rfl,rfl⟩:=h5.T0;exact⟨⟨n0,n1,l3,l4,b⟩,A,c,B,d,rfl,rfl,r3,r4⟩
theorem Sq.Ja (e:Sq){A:Option Addr}(c:Nat){B:Option Addr}(d:Nat)(h:ZV w S [.num] (XN e.v) A)(g:ZV w S [.num] (XN e.l) B):ZG w S S9 e.da (e.cs A c B d):=
 .mk (.Xp _) <| .mk (.Xp _) <| .mk (.Sy c h) <| .mk (.Sy d g) <| .mk (.YW _) .Jb
theorem ZV.VZ {ds:List (List Da)}{A:Option Addr}(h:ZV w S WF ds A): ∃ l:List TW,ds=l.map TW.da:=
 PG TW.da ds fun d hd=>by
  obtain⟨vs,hc⟩:=h.all d hd;obtain⟨e,_,_,_,_,rfl,_⟩:=TW.YM hc;exact⟨e,rfl⟩
theorem Re.YM {ds:List Da}{vs:List Value}(h:ZG w S Rn ds vs): ∃ (r:Re)(A:Option Addr)(c:Nat)(B:Option Addr)(d:Nat)(A':Option Addr)(c':Nat)(B':Option Addr)(d':Nat),ds=r.da∧
  vs= .int .i64 r.ZQ :: .int .i64 r.term :: .int .i64 r.TZ ::(r.Pg.cs A c B d ++ .int .i64 r.at_ ::r.Ws.cs A' c' B' d')∧ZV w S [.num] (XN r.Pg.v) A∧ZV w S [.num] (XN r.Pg.l) B∧ZV w S [.num] (XN r.Ws.v) A'∧ZV w S [.num] (XN r.Ws.l) B':=by
 replace h:ZG w S (.num :: .num :: .num ::(WF ++ .num ::S9)) ds vs:=h;obtain⟨_,_,_,_,rfl,rfl,h0,g1⟩:=h.cons;obtain⟨_,_,_,_,rfl,rfl,h1,g2⟩:=g1.cons;obtain⟨_,_,_,_,rfl,rfl,h2,g3⟩:=g2.cons;obtain⟨_,_,_,_,rfl,rfl,he,g4⟩:=g3.split;obtain⟨_,_,_,_,rfl,rfl,h3,g5⟩:=g4.cons;obtain⟨n0,rfl,rfl⟩:=h0.num;obtain⟨n1,rfl,rfl⟩:=h1.num;obtain⟨n2,rfl,rfl⟩:=h2.num;obtain⟨n3,rfl,rfl⟩:=h3.num;obtain⟨e,A,c,B,d,rfl,rfl,r1,r2⟩:=TW.YM he;obtain⟨s,A',c',B',d',rfl,rfl,r3,r4⟩:=Sq.YM g5;exact⟨⟨n0,n1,n2,e,n3,s⟩,A,c,B,d,A',c',B',d',rfl,rfl,r1,r2,r3,r4⟩
theorem Re.Ja (r:Re){A:Option Addr}(c:Nat){B:Option Addr}(d:Nat){A':Option Addr}(c':Nat){B':Option Addr}(d':Nat)(h1:ZV w S [.num] (XN r.Pg.v) A)(h2:ZV w S [.num] (XN r.Pg.l) B)(h3:ZV w S [.num] (XN r.Ws.v) A')(h4:ZV w S [.num] (XN r.Ws.l) B'):
  ZG w S Rn r.da (.int .i64 r.ZQ :: .int .i64 r.term :: .int .i64 r.TZ ::(r.Pg.cs A c B d ++ .int .i64 r.at_ ::r.Ws.cs A' c' B' d')):=
 .mk (.Xp _) <| .mk (.Xp _) <| .mk (.Xp _) <| ZG.join (l:=WF) (TW.Ja r.Pg c d h1 h2) <| .mk (.Xp _) (Sq.Ja r.Ws c' d' h3 h4)
theorem Pc.YM {ds:List Da}{vs:List Value}(h:ZG w S KH ds vs): ∃ (k:Pc)(A:Option Addr)(c:Nat)(B:Option Addr)(d:Nat)(E:Option Addr)(n:Nat),ds=k.da∧
  vs= .int .i64 k.term :: .int .i64 k.TZ ::(k.Ws.cs A c B d ++ [.slice E k.VZ.length n])∧ZV w S [.num] (XN k.Ws.v) A∧ZV w S [.num] (XN k.Ws.l) B∧ZV w S WF (k.VZ.map TW.da) E:=by
 replace h:ZG w S (.num :: .num ::(S9 ++ [.rows WF])) ds vs:=h;obtain⟨_,_,_,_,rfl,rfl,h0,g1⟩:=h.cons;obtain⟨_,_,_,_,rfl,rfl,h1,g2⟩:=g1.cons;obtain⟨_,_,_,_,rfl,rfl,he,g3⟩:=g2.split;obtain⟨_,_,_,_,rfl,rfl,h3,g4⟩:=g3.cons;obtain⟨rfl,rfl⟩:=g4.nil;obtain⟨n0,rfl,rfl⟩:=h0.num;obtain⟨n1,rfl,rfl⟩:=h1.num;obtain⟨s,A,c,B,d,rfl,rfl,r1,r2⟩:=Sq.YM he;obtain⟨es,E,n,rfl,rfl,r3⟩:=h3.rows;obtain⟨l,rfl⟩:=r3.VZ;exact⟨⟨n0,n1,s,l⟩,A,c,B,d,E,n,rfl,by simp,r1,r2,r3⟩
theorem Pc.Ja (k:Pc){A:Option Addr}(c:Nat){B:Option Addr}(d:Nat){E:Option Addr}(n:Nat)(h1:ZV w S [.num] (XN k.Ws.v) A)(h2:ZV w S [.num] (XN k.Ws.l) B)(h3:ZV w S WF (k.VZ.map TW.da) E):
  ZG w S KH k.da (.int .i64 k.term :: .int .i64 k.TZ ::(k.Ws.cs A c B d ++ [.slice E k.VZ.length n])):=by
 have h4:=YJ.WH n h3;rw [List.length_map] at h4;exact .mk (.Xp _) <| .mk (.Xp _) <| ZG.join (l:=S9) (Sq.Ja k.Ws c d h1 h2) <| .mk h4 .Jb
end
end Go.Proofs.YtnhmoibjlakhjaaGreat
