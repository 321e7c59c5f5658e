/- Lemmas, each under its own conditions. -/
import Derived.Test.YtnhmoibjlakhjaaGreatW03
set_option linter.all false
namespace Go.Proofs.YtnhmoibjlakhjaaGreat
set_option maxRecDepth 100000
set_option maxHeartbeats 16000000
open Go.RowKit
section
variable {w w' : World} {S S' : Nat -> Prop}
theorem Pi (l:List Int):(Xq l).length=l.length:=by simp [Xq]
theorem No {α β:Type}(f:α->β): ∀ (l:List β),(∀ y∈l,∃ x,y=f x)-> ∃ m:List α,l=m.map f
 | [],_=>⟨[],rfl⟩
 | y ::l,h=>by
  obtain⟨x,rfl⟩:=h y (by simp);obtain⟨j,rfl⟩:=No f l fun z d=>h z (by simp [d])
  exact⟨x ::j,rfl⟩
theorem ZT.all {l:List Sh}{ds:List (List Da)}{A:Option Addr}(h:ZT w S l ds A): ∀ d∈ds,∃ m,ZE w S l d m:=fun d hd=>by
 obtain⟨j,s⟩:=List.getElem?_of_mem hd
 obtain⟨C,_,_,h⟩:=h (by have:=(List.getElem?_eq_some_iff.1 s).1;omega);obtain⟨m,u,_⟩:=h j d s;exact⟨m,u⟩
theorem ZT.ints {ds:List (List Da)}{A:Option Addr}(h:ZT w S [.num] ds A): ∃ l:List Int,ds=Xq l:=
 No (fun n:Int=> [Da.int n]) ds fun d hd=>by
  obtain⟨E,s⟩:=h.all d hd;obtain⟨D,u,v,C,rfl,rfl,j,m⟩:=s.cons;obtain⟨n,rfl,rfl⟩:=j.num;obtain⟨rfl,rfl⟩:=m.nil;exact⟨n,rfl⟩
theorem Yv.ints {d:Da}{v:Value}(h:Yv w S (.rows [.num]) d v): ∃ (l:List Int)(A:Option Addr)(c:Nat),d= .rows (Xq l)/\v= .slice A l.length c/\ZT w S [.num] (Xq l) A:=by
 obtain⟨ds,A,c,rfl,rfl,g⟩:=Yv.rows h;obtain⟨l,rfl⟩:=ZT.ints g;exact⟨l,A,c,rfl,by rw [Pi],g⟩
theorem Yv.Qt {l:List Int}{A:Option Addr}(c:Nat)(h:ZT w S [.num] (Xq l) A):Yv w S (.rows [.num]) (.rows (Xq l)) (.slice A l.length c):=by
 have h:=Yv.Wn c h;rwa [Pi] at h
def Sz.cs (e:Sz)(A:Option Addr)(c:Nat)(B:Option Addr)(d:Nat):List Value:= [.int .i64 e.Ry,.int .i64 e.term,.int .i64 e.ZV,.slice A e.v.length c,.slice B e.l.length d,.string (Z2 e.b)]
def Qj.cs (s:Qj)(A:Option Addr)(c:Nat)(B:Option Addr)(d:Nat):List Value:= [.int .i64 s.Ry,.int .i64 s.term,.slice A s.v.length c,.slice B s.l.length d,.string (Z2 s.b)]
theorem Sz.YG {ds:List Da}{j:List Value}(h:ZE w S VN ds j): ∃ (e:Sz)(A:Option Addr)(c:Nat)(B:Option Addr)(d:Nat),ds=e.da/\j=e.cs A c B d/\ZT w S [.num] (Xq e.v) A/\ZT w S [.num] (Xq e.l) B:=by
 unfold VN at h;obtain⟨_,_,_,_,rfl,rfl,m,h⟩:=h.cons;obtain⟨_,_,_,_,rfl,rfl,s,h⟩:=h.cons;obtain⟨_,_,_,_,rfl,rfl,u,h⟩:=h.cons;obtain⟨_,_,_,_,rfl,rfl,C,h⟩:=h.cons;obtain⟨_,_,_,_,rfl,rfl,D,h⟩:=h.cons;obtain⟨_,_,_,_,rfl,rfl,E,h⟩:=h.cons;obtain⟨rfl,rfl⟩:=h.nil;obtain⟨I,rfl,rfl⟩:=m.num;obtain⟨n1,rfl,rfl⟩:=s.num;obtain⟨n2,rfl,rfl⟩:=u.num;obtain⟨F,A,c,rfl,rfl,J⟩:=C.ints;obtain⟨G,B,d,rfl,rfl,K⟩:=D.ints;obtain⟨b,rfl,rfl⟩:=E.T0;exact⟨⟨I,n1,n2,F,G,b⟩,A,c,B,d,rfl,rfl,J,K⟩
theorem Sz.EF (e:Sz){A:Option Addr}(c:Nat){B:Option Addr}(d:Nat)(h:ZT w S [.num] (Xq e.v) A)(g:ZT w S [.num] (Xq e.l) B):ZE w S VN e.da (e.cs A c B d):=
 .mk (.Xo _) <| .mk (.Xo _) <| .mk (.Xo _) <| .mk (.Qt c h) <| .mk (.Qt d g) <| .mk (.YO _) .EG
theorem Qj.YG {ds:List Da}{j:List Value}(h:ZE w S Re ds j): ∃ (e:Qj)(A:Option Addr)(c:Nat)(B:Option Addr)(d:Nat),ds=e.da/\j=e.cs A c B d/\ZT w S [.num] (Xq e.v) A/\ZT w S [.num] (Xq e.l) B:=by
 unfold Re at h;obtain⟨_,_,_,_,rfl,rfl,m,h⟩:=h.cons;obtain⟨_,_,_,_,rfl,rfl,s,h⟩:=h.cons;obtain⟨_,_,_,_,rfl,rfl,u,h⟩:=h.cons;obtain⟨_,_,_,_,rfl,rfl,C,h⟩:=h.cons;obtain⟨_,_,_,_,rfl,rfl,D,h⟩:=h.cons;obtain⟨rfl,rfl⟩:=h.nil;obtain⟨G,rfl,rfl⟩:=m.num;obtain⟨n1,rfl,rfl⟩:=s.num;obtain⟨E,A,c,rfl,rfl,I⟩:=u.ints;obtain⟨F,B,d,rfl,rfl,J⟩:=C.ints;obtain⟨b,rfl,rfl⟩:=D.T0;exact⟨⟨G,n1,E,F,b⟩,A,c,B,d,rfl,rfl,I,J⟩
theorem Qj.EF (e:Qj){A:Option Addr}(c:Nat){B:Option Addr}(d:Nat)(h:ZT w S [.num] (Xq e.v) A)(g:ZT w S [.num] (Xq e.l) B):ZE w S Re e.da (e.cs A c B d):=
 .mk (.Xo _) <| .mk (.Xo _) <| .mk (.Qt c h) <| .mk (.Qt d g) <| .mk (.YO _) .EG
theorem ZT.Ve {ds:List (List Da)}{A:Option Addr}(h:ZT w S VN ds A): ∃ l:List Sz,ds=l.map Sz.da:=
 No Sz.da ds fun d hd=>by
  obtain⟨m,j⟩:=h.all d hd;obtain⟨e,_,_,_,_,rfl,_⟩:=Sz.YG j;exact⟨e,rfl⟩
theorem OI.YG {ds:List Da}{C:List Value}(h:ZE w S OP ds C): ∃ (r:OI)(A:Option Addr)(c:Nat)(B:Option Addr)(d:Nat)(j:Option Addr)(m:Nat)(B':Option Addr)(u:Nat),ds=r.da/\
  C= .int .i64 r.ZV :: .int .i64 r.term :: .int .i64 r.SC ::(r.ML.cs A c B d ++ .int .i64 r.at_ ::r.VB.cs j m B' u)/\ZT w S [.num] (Xq r.ML.v) A/\ZT w S [.num] (Xq r.ML.l) B/\ZT w S [.num] (Xq r.VB.v) j/\ZT w S [.num] (Xq r.VB.l) B':=by
 replace h:ZE w S (.num :: .num :: .num ::(VN ++ .num ::Re)) ds C:=h;obtain⟨_,_,_,_,rfl,rfl,J,D⟩:=h.cons;obtain⟨_,_,_,_,rfl,rfl,K,E⟩:=D.cons;obtain⟨_,_,_,_,rfl,rfl,L,F⟩:=E.cons;obtain⟨_,_,_,_,rfl,rfl,N,G⟩:=F.split;obtain⟨_,_,_,_,rfl,rfl,M,I⟩:=G.cons;obtain⟨O,rfl,rfl⟩:=J.num;obtain⟨n1,rfl,rfl⟩:=K.num;obtain⟨n2,rfl,rfl⟩:=L.num;obtain⟨n3,rfl,rfl⟩:=M.num;obtain⟨e,A,c,B,d,rfl,rfl,T,U⟩:=Sz.YG N;obtain⟨s,j,m,B',u,rfl,rfl,V,Z⟩:=Qj.YG I;exact⟨⟨O,n1,n2,e,n3,s⟩,A,c,B,d,j,m,B',u,rfl,rfl,T,U,V,Z⟩
theorem OI.EF (r:OI){A:Option Addr}(c:Nat){B:Option Addr}(d:Nat){h:Option Addr}(j:Nat){B':Option Addr}(m:Nat)(s:ZT w S [.num] (Xq r.ML.v) A)(u:ZT w S [.num] (Xq r.ML.l) B)(C:ZT w S [.num] (Xq r.VB.v) h)(D:ZT w S [.num] (Xq r.VB.l) B'):
  ZE w S OP r.da (.int .i64 r.ZV :: .int .i64 r.term :: .int .i64 r.SC ::(r.ML.cs A c B d ++ .int .i64 r.at_ ::r.VB.cs h j B' m)):=
 .mk (.Xo _) <| .mk (.Xo _) <| .mk (.Xo _) <| ZE.join (l:=VN) (Sz.EF r.ML c d s u) <| .mk (.Xo _) (Qj.EF r.VB j m C D)
theorem MH.YG {ds:List Da}{j:List Value}(h:ZE w S GA ds j): ∃ (k:MH)(A:Option Addr)(c:Nat)(B:Option Addr)(d:Nat)(E:Option Addr)(n:Nat),ds=k.da/\
  j= .int .i64 k.term :: .int .i64 k.SC ::(k.VB.cs A c B d ++ [.slice E k.Ve.length n])/\ZT w S [.num] (Xq k.VB.v) A/\ZT w S [.num] (Xq k.VB.l) B/\ZT w S VN (k.Ve.map Sz.da) E:=by
 replace h:ZE w S (.num :: .num ::(Re ++ [.rows VN])) ds j:=h;obtain⟨_,_,_,_,rfl,rfl,G,u⟩:=h.cons;obtain⟨_,_,_,_,rfl,rfl,I,C⟩:=u.cons;obtain⟨_,_,_,_,rfl,rfl,K,D⟩:=C.split;obtain⟨_,_,_,_,rfl,rfl,J,F⟩:=D.cons;obtain⟨rfl,rfl⟩:=F.nil;obtain⟨L,rfl,rfl⟩:=G.num;obtain⟨n1,rfl,rfl⟩:=I.num;obtain⟨s,A,c,B,d,rfl,rfl,M,N⟩:=Qj.YG K;obtain⟨es,E,n,rfl,rfl,m⟩:=J.rows;obtain⟨l,rfl⟩:=m.Ve;exact⟨⟨L,n1,s,l⟩,A,c,B,d,E,n,rfl,by simp,M,N,m⟩
theorem MH.EF (k:MH){A:Option Addr}(c:Nat){B:Option Addr}(d:Nat){E:Option Addr}(n:Nat)(j:ZT w S [.num] (Xq k.VB.v) A)(m:ZT w S [.num] (Xq k.VB.l) B)(s:ZT w S VN (k.Ve.map Sz.da) E):
  ZE w S GA k.da (.int .i64 k.term :: .int .i64 k.SC ::(k.VB.cs A c B d ++ [.slice E k.Ve.length n])):=by
 have h:=Yv.Wn n s;rw [List.length_map] at h;exact .mk (.Xo _) <| .mk (.Xo _) <| ZE.join (l:=Re) (Qj.EF k.VB c d j m) <| .mk h .EG
end
end Go.Proofs.YtnhmoibjlakhjaaGreat
