/- Lemmas of the proof. No condition but each theorem's own. -/
import Derived.Test.YtnhmoibjlakhjaaGreatR44
import Derived.Test.YtnhmoibjlakhjaaGreatR46
set_option linter.unusedVariables false
set_option linter.unusedSimpArgs false
namespace Go.Proofs.YtnhmoibjlakhjaaGreat
set_option maxRecDepth 100000
set_option maxHeartbeats 16000000
open Go.RowKit
theorem Rn {α:Type}(f:α→List Da)(hf: ∀ x,1≤Tk (f x)): ∀ (l:List α),l.length≤Uc (l.map f)
 | []=>by simp [Uc]
 | a ::l=>by
  have h1:=hf a;have h2:=Rn f hf l;simp only [List.length_cons,List.map_cons,Uc];omega
theorem OU {α:Type}(f:α→List Da): ∀ {l:List α}{x:α},x∈l→Tk (f x)≤Uc (l.map f)
 | [],_,h=>by cases h
 | a ::l,x,h=>by
  simp only [List.map_cons,Uc];rcases List.mem_cons.1 h with rfl | h
  ·omega
  ·have:=OU f h;omega
theorem Ln (l:List (List UInt8)):l.length≤Uc (YU l):=Rn (fun b=> [Da.Z9 b]) (fun b=>by simp only [Tk,wt];omega) l
theorem Jl {a b c d e f g h i j k l:Nat}{p q M c' d':Nat}(hp:c'≤p)(hq:d'≤q)(H:1+ (a+1+ (b+1+ (c+1+ (d+1+ (e+1+ (p+1+ (f+1+ (1+ (q+1+ (1+ (1+ (g+1+ (h+1+ (i+1+ (1+ (1+0))))))))))))))))≤M):a≤M∧b≤M∧c≤M∧d≤M∧e≤M∧c'≤M∧d'≤M∧f≤M∧g≤M∧h≤M∧i≤M:=by omega
theorem Cm.K2 {x:Cm}{M:Nat}(h:Tk x.da≤M):x.Zv M:=by
 have h1:=Rn Cl.da (fun c=>by simp only [Cl.da,Tk,wt];omega) x.ZX;have h2:=Ln x.ZZ.ZX;simp only [Cm.da,Tk,wt] at h;obtain⟨a,b,c,d,e,g,i,j,k,l,m⟩:=Jl (k:=0) (l:=0) (j:=0) h1 h2 h;exact⟨a,b,c,d,e,g,⟨i,k,l,m⟩,j⟩
theorem KR {w:World}{S:Nat→Prop}{ds:List Da}{A:Option Addr}{n c M:Nat}(h:ZH w S [.rows Xx] ds [.slice A n c])(hw:Tk ds≤M): ∃ l:List Cm,n=l.length∧ZV w S Xx (l.map Cm.da) A∧ ∀ x∈l,x.Zv M:=by
 obtain⟨d0,ds0,v0,vs0,rfl,hv,h0,r0⟩:=h.cons;obtain⟨rfl,hvs⟩:=r0.nil;obtain⟨es,A',c',rfl,hs,hr⟩:=h0.rows;injection hv with hv1 hv2
 rw [hs] at hv1;injection hv1 with hA hn hc
 subst hA;obtain⟨l,rfl⟩:=Cm.rows hr;refine⟨l,by simpa using hn,hr,fun x hx=>Cm.K2 (Nat.le_trans (OU Cm.da hx) ?_)⟩
 simp only [Tk,wt] at hw;omega
end Go.Proofs.YtnhmoibjlakhjaaGreat
