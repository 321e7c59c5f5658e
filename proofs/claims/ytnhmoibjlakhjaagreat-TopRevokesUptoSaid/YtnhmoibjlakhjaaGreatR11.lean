/- Lemmas of the proof. No condition but each theorem's own. -/
import Derived.Test.YtnhmoibjlakhjaaGreatR01
import Derived.Test.YtnhmoibjlakhjaaGreatR03
set_option linter.unusedVariables false
set_option linter.unusedSimpArgs false
namespace Go.Proofs.YtnhmoibjlakhjaaGreat
set_option maxRecDepth 100000
set_option maxHeartbeats 16000000
open Go.RowKit
section
variable {w w' : World} {S S' : Nat → Prop}
theorem RD (l:List Int):(XN l).length=l.length:=by simp [XN]
theorem PN {α β:Type}(f:α→β): ∀ (l:List β),(∀ y∈l,∃ x,y=f x)→ ∃ m:List α,l=m.map f
 | [],_=>⟨[],rfl⟩
 | y ::l,h=>by
  obtain⟨x,rfl⟩:=h y (by simp);obtain⟨l',rfl⟩:=PN f l fun z hz=>h z (by simp [hz])
  exact⟨x ::l',rfl⟩
theorem ZV.all {l:List Sh}{ds:List (List Da)}{A:Option Addr}(h:ZV w S l ds A): ∀ d∈ds,∃ vs,ZH w S l d vs:=fun d hd=>by
 obtain⟨j,hj⟩:=List.getElem?_of_mem hd
 obtain⟨ad,_,_,h⟩:=h (by have:=(List.getElem?_eq_some_iff.1 hj).1;omega);obtain⟨vs,hc,_⟩:=h j d hj;exact⟨vs,hc⟩
theorem ZV.ints {ds:List (List Da)}{A:Option Addr}(h:ZV w S [.num] ds A): ∃ l:List Int,ds=XN l:=
 PN (fun n:Int=> [Da.int n]) ds fun d hd=>by
  obtain⟨vs,hc⟩:=h.all d hd;obtain⟨d0,ds',v,vs',rfl,rfl,h1,h2⟩:=hc.cons;obtain⟨n,rfl,rfl⟩:=h1.num;obtain⟨rfl,rfl⟩:=h2.nil;exact⟨n,rfl⟩
theorem YK.ints {d:Da}{v:Value}(h:YK w S (.rows [.num]) d v): ∃ (l:List Int)(A:Option Addr)(c:Nat),d= .rows (XN l)∧v= .slice A l.length c∧ZV w S [.num] (XN l) A:=by
 obtain⟨ds,A,c,rfl,rfl,g⟩:=YK.rows h;obtain⟨l,rfl⟩:=ZV.ints g;exact⟨l,A,c,rfl,by rw [RD],g⟩
theorem YK.Sx {l:List Int}{A:Option Addr}(c:Nat)(h:ZV w S [.num] (XN l) A):YK w S (.rows [.num]) (.rows (XN l)) (.slice A l.length c):=by
 have h:=YK.WJ c h;rwa [RD] at h
def TW.cs (e:TW)(A:Option Addr)(c:Nat)(B:Option Addr)(d:Nat):List Value:= [.int .i64 e.Tk,.int .i64 e.term,.int .i64 e.ZQ,.slice A e.v.length c,.slice B e.l.length d,.string (Z9 e.b)]
def Sp.cs (s:Sp)(A:Option Addr)(c:Nat)(B:Option Addr)(d:Nat):List Value:= [.int .i64 s.Tk,.int .i64 s.term,.slice A s.v.length c,.slice B s.l.length d,.string (Z9 s.b)]
theorem TW.YN {ds:List Da}{vs:List Value}(h:ZH w S WI ds vs): ∃ (e:TW)(A:Option Addr)(c:Nat)(B:Option Addr)(d:Nat),ds=e.da∧vs=e.cs A c B d∧ZV w S [.num] (XN e.v) A∧ZV w S [.num] (XN e.l) B:=by
 unfold WI at h;obtain⟨_,_,_,_,rfl,rfl,h0,h⟩:=h.cons;obtain⟨_,_,_,_,rfl,rfl,h1,h⟩:=h.cons;obtain⟨_,_,_,_,rfl,rfl,h2,h⟩:=h.cons;obtain⟨_,_,_,_,rfl,rfl,h3,h⟩:=h.cons;obtain⟨_,_,_,_,rfl,rfl,h4,h⟩:=h.cons;obtain⟨_,_,_,_,rfl,rfl,h5,h⟩:=h.cons;obtain⟨rfl,rfl⟩:=h.nil;obtain⟨n0,rfl,rfl⟩:=h0.num;obtain⟨n1,rfl,rfl⟩:=h1.num;obtain⟨n2,rfl,rfl⟩:=h2.num;obtain⟨l3,A,c,rfl,rfl,r3⟩:=h3.ints;obtain⟨l4,B,d,rfl,rfl,r4⟩:=h4.ints;obtain⟨b,rfl,rfl⟩:=h5.T0;exact⟨⟨n0,n1,n2,l3,l4,b⟩,A,c,B,d,rfl,rfl,r3,r4⟩
theorem TW.JA (e:TW){A:Option Addr}(c:Nat){B:Option Addr}(d:Nat)(h:ZV w S [.num] (XN e.v) A)(g:ZV w S [.num] (XN e.l) B):ZH w S WI e.da (e.cs A c B d):=
 .mk (.Xq _) <| .mk (.Xq _) <| .mk (.Xq _) <| .mk (.Sx c h) <| .mk (.Sx d g) <| .mk (.YZ _) .JB
theorem Sp.YN {ds:List Da}{vs:List Value}(h:ZH w S SY ds vs): ∃ (e:Sp)(A:Option Addr)(c:Nat)(B:Option Addr)(d:Nat),ds=e.da∧vs=e.cs A c B d∧ZV w S [.num] (XN e.v) A∧ZV w S [.num] (XN e.l) B:=by
 unfold SY at h;obtain⟨_,_,_,_,rfl,rfl,h0,h⟩:=h.cons;obtain⟨_,_,_,_,rfl,rfl,h1,h⟩:=h.cons;obtain⟨_,_,_,_,rfl,rfl,h3,h⟩:=h.cons;obtain⟨_,_,_,_,rfl,rfl,h4,h⟩:=h.cons;obtain⟨_,_,_,_,rfl,rfl,h5,h⟩:=h.cons;obtain⟨rfl,rfl⟩:=h.nil;obtain⟨n0,rfl,rfl⟩:=h0.num;obtain⟨n1,rfl,rfl⟩:=h1.num;obtain⟨l3,A,c,rfl,rfl,r3⟩:=h3.ints;obtain⟨l4,B,d,rfl,rfl,r4⟩:=h4.ints;obtain⟨b,rfl,rfl⟩:=h5.T0;exact⟨⟨n0,n1,l3,l4,b⟩,A,c,B,d,rfl,rfl,r3,r4⟩
theorem Sp.JA (e:Sp){A:Option Addr}(c:Nat){B:Option Addr}(d:Nat)(h:ZV w S [.num] (XN e.v) A)(g:ZV w S [.num] (XN e.l) B):ZH w S SY e.da (e.cs A c B d):=
 .mk (.Xq _) <| .mk (.Xq _) <| .mk (.Sx c h) <| .mk (.Sx d g) <| .mk (.YZ _) .JB
theorem ZV.VZ {ds:List (List Da)}{A:Option Addr}(h:ZV w S WI ds A): ∃ l:List TW,ds=l.map TW.da:=
 PN TW.da ds fun d hd=>by
  obtain⟨vs,hc⟩:=h.all d hd;obtain⟨e,_,_,_,_,rfl,_⟩:=TW.YN hc;exact⟨e,rfl⟩
theorem Rf.YN {ds:List Da}{vs:List Value}(h:ZH w S Rp ds vs): ∃ (r:Rf)(A:Option Addr)(c:Nat)(B:Option Addr)(d:Nat)(A':Option Addr)(c':Nat)(B':Option Addr)(d':Nat),ds=r.da∧
  vs= .int .i64 r.ZQ :: .int .i64 r.term :: .int .i64 r.TZ ::(r.Pn.cs A c B d ++ .int .i64 r.at_ ::r.Wt.cs A' c' B' d')∧ZV w S [.num] (XN r.Pn.v) A∧ZV w S [.num] (XN r.Pn.l) B∧ZV w S [.num] (XN r.Wt.v) A'∧ZV w S [.num] (XN r.Wt.l) B':=by
 replace h:ZH w S (.num :: .num :: .num ::(WI ++ .num ::SY)) ds vs:=h;obtain⟨_,_,_,_,rfl,rfl,h0,g1⟩:=h.cons;obtain⟨_,_,_,_,rfl,rfl,h1,g2⟩:=g1.cons;obtain⟨_,_,_,_,rfl,rfl,h2,g3⟩:=g2.cons;obtain⟨_,_,_,_,rfl,rfl,he,g4⟩:=g3.split;obtain⟨_,_,_,_,rfl,rfl,h3,g5⟩:=g4.cons;obtain⟨n0,rfl,rfl⟩:=h0.num;obtain⟨n1,rfl,rfl⟩:=h1.num;obtain⟨n2,rfl,rfl⟩:=h2.num;obtain⟨n3,rfl,rfl⟩:=h3.num;obtain⟨e,A,c,B,d,rfl,rfl,r1,r2⟩:=TW.YN he;obtain⟨s,A',c',B',d',rfl,rfl,r3,r4⟩:=Sp.YN g5;exact⟨⟨n0,n1,n2,e,n3,s⟩,A,c,B,d,A',c',B',d',rfl,rfl,r1,r2,r3,r4⟩
theorem Rf.JA (r:Rf){A:Option Addr}(c:Nat){B:Option Addr}(d:Nat){A':Option Addr}(c':Nat){B':Option Addr}(d':Nat)(h1:ZV w S [.num] (XN r.Pn.v) A)(h2:ZV w S [.num] (XN r.Pn.l) B)(h3:ZV w S [.num] (XN r.Wt.v) A')(h4:ZV w S [.num] (XN r.Wt.l) B'):
  ZH w S Rp r.da (.int .i64 r.ZQ :: .int .i64 r.term :: .int .i64 r.TZ ::(r.Pn.cs A c B d ++ .int .i64 r.at_ ::r.Wt.cs A' c' B' d')):=
 .mk (.Xq _) <| .mk (.Xq _) <| .mk (.Xq _) <| ZH.join (l:=WI) (TW.JA r.Pn c d h1 h2) <| .mk (.Xq _) (Sp.JA r.Wt c' d' h3 h4)
theorem Pj.YN {ds:List Da}{vs:List Value}(h:ZH w S KZ ds vs): ∃ (k:Pj)(A:Option Addr)(c:Nat)(B:Option Addr)(d:Nat)(E:Option Addr)(n:Nat),ds=k.da∧
  vs= .int .i64 k.term :: .int .i64 k.TZ ::(k.Wt.cs A c B d ++ [.slice E k.VZ.length n])∧ZV w S [.num] (XN k.Wt.v) A∧ZV w S [.num] (XN k.Wt.l) B∧ZV w S WI (k.VZ.map TW.da) E:=by
 replace h:ZH w S (.num :: .num ::(SY ++ [.rows WI])) ds vs:=h;obtain⟨_,_,_,_,rfl,rfl,h0,g1⟩:=h.cons;obtain⟨_,_,_,_,rfl,rfl,h1,g2⟩:=g1.cons;obtain⟨_,_,_,_,rfl,rfl,he,g3⟩:=g2.split;obtain⟨_,_,_,_,rfl,rfl,h3,g4⟩:=g3.cons;obtain⟨rfl,rfl⟩:=g4.nil;obtain⟨n0,rfl,rfl⟩:=h0.num;obtain⟨n1,rfl,rfl⟩:=h1.num;obtain⟨s,A,c,B,d,rfl,rfl,r1,r2⟩:=Sp.YN he;obtain⟨es,E,n,rfl,rfl,r3⟩:=h3.rows;obtain⟨l,rfl⟩:=r3.VZ;exact⟨⟨n0,n1,s,l⟩,A,c,B,d,E,n,rfl,by simp,r1,r2,r3⟩
theorem Pj.JA (k:Pj){A:Option Addr}(c:Nat){B:Option Addr}(d:Nat){E:Option Addr}(n:Nat)(h1:ZV w S [.num] (XN k.Wt.v) A)(h2:ZV w S [.num] (XN k.Wt.l) B)(h3:ZV w S WI (k.VZ.map TW.da) E):
  ZH w S KZ k.da (.int .i64 k.term :: .int .i64 k.TZ ::(k.Wt.cs A c B d ++ [.slice E k.VZ.length n])):=by
 have h4:=YK.WJ n h3;rw [List.length_map] at h4;exact .mk (.Xq _) <| .mk (.Xq _) <| ZH.join (l:=SY) (Sp.JA k.Wt c d h1 h2) <| .mk h4 .JB
end
end Go.Proofs.YtnhmoibjlakhjaaGreat
