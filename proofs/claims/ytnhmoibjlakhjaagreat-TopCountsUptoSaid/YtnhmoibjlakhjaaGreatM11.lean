/- Lemmas of the proof. No condition but each theorem's own. -/
import Derived.Test.YtnhmoibjlakhjaaGreatM01
import Derived.Test.YtnhmoibjlakhjaaGreatM03
set_option linter.unusedVariables false
set_option linter.unusedSimpArgs false
namespace Go.Proofs.YtnhmoibjlakhjaaGreat
set_option maxRecDepth 100000
set_option maxHeartbeats 16000000
open Go.RowKit
section
variable {w w' : World} {S S' : Nat → Prop}
theorem RG (l:List Int):(XM l).length=l.length:=by simp [XM]
theorem Pz {α β:Type}(f:α→β): ∀ (l:List β),(∀ y∈l,∃ x,y=f x)→ ∃ m:List α,l=m.map f
 | [],_=>⟨[],rfl⟩
 | y ::l,h=>by
  obtain⟨x,rfl⟩:=h y (by simp);obtain⟨l',rfl⟩:=Pz f l fun z hz=>h z (by simp [hz])
  exact⟨x ::l',rfl⟩
theorem ZV.all {l:List Sh}{ds:List (List Da)}{A:Option Addr}(h:ZV w S l ds A): ∀ d∈ds,∃ vs,ZG w S l d vs:=fun d hd=>by
 obtain⟨j,hj⟩:=List.getElem?_of_mem hd
 obtain⟨ad,_,_,h⟩:=h (by have:=(List.getElem?_eq_some_iff.1 hj).1;omega);obtain⟨vs,hc,_⟩:=h j d hj;exact⟨vs,hc⟩
theorem ZV.ints {ds:List (List Da)}{A:Option Addr}(h:ZV w S [.num] ds A): ∃ l:List Int,ds=XM l:=
 Pz (fun n:Int=> [Da.int n]) ds fun d hd=>by
  obtain⟨vs,hc⟩:=h.all d hd;obtain⟨d0,ds',v,vs',rfl,rfl,h1,h2⟩:=hc.cons;obtain⟨n,rfl,rfl⟩:=h1.num;obtain⟨rfl,rfl⟩:=h2.nil;exact⟨n,rfl⟩
theorem YJ.ints {d:Da}{v:Value}(h:YJ w S (.rows [.num]) d v): ∃ (l:List Int)(A:Option Addr)(c:Nat),d= .rows (XM l)∧v= .slice A l.length c∧ZV w S [.num] (XM l) A:=by
 obtain⟨ds,A,c,rfl,rfl,g⟩:=YJ.rows h;obtain⟨l,rfl⟩:=ZV.ints g;exact⟨l,A,c,rfl,by rw [RG],g⟩
theorem YJ.Sz {l:List Int}{A:Option Addr}(c:Nat)(h:ZV w S [.num] (XM l) A):YJ w S (.rows [.num]) (.rows (XM l)) (.slice A l.length c):=by
 have h:=YJ.WF c h;rwa [RG] at h
def TW.cs (e:TW)(A:Option Addr)(c:Nat)(B:Option Addr)(d:Nat):List Value:= [.int .i64 e.Tp,.int .i64 e.term,.int .i64 e.ZQ,.slice A e.v.length c,.slice B e.l.length d,.string (Z9 e.b)]
def RI.cs (s:RI)(A:Option Addr)(c:Nat)(B:Option Addr)(d:Nat):List Value:= [.int .i64 s.Tp,.int .i64 s.term,.slice A s.v.length c,.slice B s.l.length d,.string (Z9 s.b)]
theorem TW.YL {ds:List Da}{vs:List Value}(h:ZG w S WG ds vs): ∃ (e:TW)(A:Option Addr)(c:Nat)(B:Option Addr)(d:Nat),ds=e.da∧vs=e.cs A c B d∧ZV w S [.num] (XM e.v) A∧ZV w S [.num] (XM e.l) B:=by
 unfold WG at h;obtain⟨_,_,_,_,rfl,rfl,h0,h⟩:=h.cons;obtain⟨_,_,_,_,rfl,rfl,h1,h⟩:=h.cons;obtain⟨_,_,_,_,rfl,rfl,h2,h⟩:=h.cons;obtain⟨_,_,_,_,rfl,rfl,h3,h⟩:=h.cons;obtain⟨_,_,_,_,rfl,rfl,h4,h⟩:=h.cons;obtain⟨_,_,_,_,rfl,rfl,h5,h⟩:=h.cons;obtain⟨rfl,rfl⟩:=h.nil;obtain⟨n0,rfl,rfl⟩:=h0.num;obtain⟨n1,rfl,rfl⟩:=h1.num;obtain⟨n2,rfl,rfl⟩:=h2.num;obtain⟨l3,A,c,rfl,rfl,r3⟩:=h3.ints;obtain⟨l4,B,d,rfl,rfl,r4⟩:=h4.ints;obtain⟨b,rfl,rfl⟩:=h5.Ug;exact⟨⟨n0,n1,n2,l3,l4,b⟩,A,c,B,d,rfl,rfl,r3,r4⟩
theorem TW.Je (e:TW){A:Option Addr}(c:Nat){B:Option Addr}(d:Nat)(h:ZV w S [.num] (XM e.v) A)(g:ZV w S [.num] (XM e.l) B):ZG w S WG e.da (e.cs A c B d):=
 .mk (.Xp _) <| .mk (.Xp _) <| .mk (.Xp _) <| .mk (.Sz c h) <| .mk (.Sz d g) <| .mk (.YW _) .Jf
theorem RI.YL {ds:List Da}{vs:List Value}(h:ZG w S Tf ds vs): ∃ (e:RI)(A:Option Addr)(c:Nat)(B:Option Addr)(d:Nat),ds=e.da∧vs=e.cs A c B d∧ZV w S [.num] (XM e.v) A∧ZV w S [.num] (XM e.l) B:=by
 unfold Tf at h;obtain⟨_,_,_,_,rfl,rfl,h0,h⟩:=h.cons;obtain⟨_,_,_,_,rfl,rfl,h1,h⟩:=h.cons;obtain⟨_,_,_,_,rfl,rfl,h3,h⟩:=h.cons;obtain⟨_,_,_,_,rfl,rfl,h4,h⟩:=h.cons;obtain⟨_,_,_,_,rfl,rfl,h5,h⟩:=h.cons;obtain⟨rfl,rfl⟩:=h.nil;obtain⟨n0,rfl,rfl⟩:=h0.num;obtain⟨n1,rfl,rfl⟩:=h1.num;obtain⟨l3,A,c,rfl,rfl,r3⟩:=h3.ints;obtain⟨l4,B,d,rfl,rfl,r4⟩:=h4.ints;obtain⟨b,rfl,rfl⟩:=h5.Ug;exact⟨⟨n0,n1,l3,l4,b⟩,A,c,B,d,rfl,rfl,r3,r4⟩
theorem RI.Je (e:RI){A:Option Addr}(c:Nat){B:Option Addr}(d:Nat)(h:ZV w S [.num] (XM e.v) A)(g:ZV w S [.num] (XM e.l) B):ZG w S Tf e.da (e.cs A c B d):=
 .mk (.Xp _) <| .mk (.Xp _) <| .mk (.Sz c h) <| .mk (.Sz d g) <| .mk (.YW _) .Jf
theorem ZV.Wd {ds:List (List Da)}{A:Option Addr}(h:ZV w S WG ds A): ∃ l:List TW,ds=l.map TW.da:=
 Pz TW.da ds fun d hd=>by
  obtain⟨vs,hc⟩:=h.all d hd;obtain⟨e,_,_,_,_,rfl,_⟩:=TW.YL hc;exact⟨e,rfl⟩
theorem Rf.YL {ds:List Da}{vs:List Value}(h:ZG w S Ry ds vs): ∃ (r:Rf)(A:Option Addr)(c:Nat)(B:Option Addr)(d:Nat)(A':Option Addr)(c':Nat)(B':Option Addr)(d':Nat),ds=r.da∧
  vs= .int .i64 r.ZQ :: .int .i64 r.term :: .int .i64 r.Uc ::(r.Pk.cs A c B d ++ .int .i64 r.at_ ::r.Wu.cs A' c' B' d')∧ZV w S [.num] (XM r.Pk.v) A∧ZV w S [.num] (XM r.Pk.l) B∧ZV w S [.num] (XM r.Wu.v) A'∧ZV w S [.num] (XM r.Wu.l) B':=by
 replace h:ZG w S (.num :: .num :: .num ::(WG ++ .num ::Tf)) ds vs:=h;obtain⟨_,_,_,_,rfl,rfl,h0,g1⟩:=h.cons;obtain⟨_,_,_,_,rfl,rfl,h1,g2⟩:=g1.cons;obtain⟨_,_,_,_,rfl,rfl,h2,g3⟩:=g2.cons;obtain⟨_,_,_,_,rfl,rfl,he,g4⟩:=g3.split;obtain⟨_,_,_,_,rfl,rfl,h3,g5⟩:=g4.cons;obtain⟨n0,rfl,rfl⟩:=h0.num;obtain⟨n1,rfl,rfl⟩:=h1.num;obtain⟨n2,rfl,rfl⟩:=h2.num;obtain⟨n3,rfl,rfl⟩:=h3.num;obtain⟨e,A,c,B,d,rfl,rfl,r1,r2⟩:=TW.YL he;obtain⟨s,A',c',B',d',rfl,rfl,r3,r4⟩:=RI.YL g5;exact⟨⟨n0,n1,n2,e,n3,s⟩,A,c,B,d,A',c',B',d',rfl,rfl,r1,r2,r3,r4⟩
theorem Rf.Je (r:Rf){A:Option Addr}(c:Nat){B:Option Addr}(d:Nat){A':Option Addr}(c':Nat){B':Option Addr}(d':Nat)(h1:ZV w S [.num] (XM r.Pk.v) A)(h2:ZV w S [.num] (XM r.Pk.l) B)(h3:ZV w S [.num] (XM r.Wu.v) A')(h4:ZV w S [.num] (XM r.Wu.l) B'):
  ZG w S Ry r.da (.int .i64 r.ZQ :: .int .i64 r.term :: .int .i64 r.Uc ::(r.Pk.cs A c B d ++ .int .i64 r.at_ ::r.Wu.cs A' c' B' d')):=
 .mk (.Xp _) <| .mk (.Xp _) <| .mk (.Xp _) <| ZG.join (l:=WG) (TW.Je r.Pk c d h1 h2) <| .mk (.Xp _) (RI.Je r.Wu c' d' h3 h4)
theorem OE.YL {ds:List Da}{vs:List Value}(h:ZG w S Lc ds vs): ∃ (k:OE)(A:Option Addr)(c:Nat)(B:Option Addr)(d:Nat)(E:Option Addr)(n:Nat),ds=k.da∧
  vs= .int .i64 k.term :: .int .i64 k.Uc ::(k.Wu.cs A c B d ++ [.slice E k.Wd.length n])∧ZV w S [.num] (XM k.Wu.v) A∧ZV w S [.num] (XM k.Wu.l) B∧ZV w S WG (k.Wd.map TW.da) E:=by
 replace h:ZG w S (.num :: .num ::(Tf ++ [.rows WG])) ds vs:=h;obtain⟨_,_,_,_,rfl,rfl,h0,g1⟩:=h.cons;obtain⟨_,_,_,_,rfl,rfl,h1,g2⟩:=g1.cons;obtain⟨_,_,_,_,rfl,rfl,he,g3⟩:=g2.split;obtain⟨_,_,_,_,rfl,rfl,h3,g4⟩:=g3.cons;obtain⟨rfl,rfl⟩:=g4.nil;obtain⟨n0,rfl,rfl⟩:=h0.num;obtain⟨n1,rfl,rfl⟩:=h1.num;obtain⟨s,A,c,B,d,rfl,rfl,r1,r2⟩:=RI.YL he;obtain⟨es,E,n,rfl,rfl,r3⟩:=h3.rows;obtain⟨l,rfl⟩:=r3.Wd;exact⟨⟨n0,n1,s,l⟩,A,c,B,d,E,n,rfl,by simp,r1,r2,r3⟩
theorem OE.Je (k:OE){A:Option Addr}(c:Nat){B:Option Addr}(d:Nat){E:Option Addr}(n:Nat)(h1:ZV w S [.num] (XM k.Wu.v) A)(h2:ZV w S [.num] (XM k.Wu.l) B)(h3:ZV w S WG (k.Wd.map TW.da) E):
  ZG w S Lc k.da (.int .i64 k.term :: .int .i64 k.Uc ::(k.Wu.cs A c B d ++ [.slice E k.Wd.length n])):=by
 have h4:=YJ.WF n h3;rw [List.length_map] at h4;exact .mk (.Xp _) <| .mk (.Xp _) <| ZG.join (l:=Tf) (RI.Je k.Wu c d h1 h2) <| .mk h4 .Jf
end
end Go.Proofs.YtnhmoibjlakhjaaGreat
