/- Lemmas of the proof. No condition but each theorem's own. -/
import Derived.Test.YtnhmoibjlakhjaaGreatR44
import Derived.Test.YtnhmoibjlakhjaaGreatR46
set_option linter.unusedVariables false
set_option linter.unusedSimpArgs false
namespace Go.Proofs.YtnhmoibjlakhjaaGreat
set_option maxRecDepth 100000
set_option maxHeartbeats 16000000
open Go.RowKit
theorem Rg {α:Type}(f:α→List Da)(hf: ∀ x,1≤Tj (f x)): ∀ (l:List α),l.length≤TX (l.map f)
 | []=>by simp [TX]
 | a ::l=>by
  have h1:=hf a;have h2:=Rg f hf l;simp only [List.length_cons,List.map_cons,TX];omega
theorem Od {α:Type}(f:α→List Da): ∀ {l:List α}{x:α},x∈l→Tj (f x)≤TX (l.map f)
 | [],_,h=>by cases h
 | a ::l,x,h=>by
  simp only [List.map_cons,TX];rcases List.mem_cons.1 h with rfl | h
  ·omega
  ·have:=Od f h;omega
theorem KU (l:List (List UInt8)):l.length≤TX (YU l):=Rg (fun b=> [Da.Z9 b]) (fun b=>by simp only [Tj,wt];omega) l
theorem Jd {a b c d e f g h i j k l:Nat}{p q M c' d':Nat}(hp:c'≤p)(hq:d'≤q)(H:1+ (a+1+ (b+1+ (c+1+ (d+1+ (e+1+ (p+1+ (f+1+ (1+ (q+1+ (1+ (1+ (g+1+ (h+1+ (i+1+ (1+ (1+0))))))))))))))))≤M):a≤M∧b≤M∧c≤M∧d≤M∧e≤M∧c'≤M∧d'≤M∧f≤M∧g≤M∧h≤M∧i≤M:=by omega
theorem Cm.KW {x:Cm}{M:Nat}(h:Tj x.da≤M):x.Zv M:=by
 have h1:=Rg Cl.da (fun c=>by simp only [Cl.da,Tj,wt];omega) x.ZX;have h2:=KU x.ZZ.ZX;simp only [Cm.da,Tj,wt] at h;obtain⟨a,b,c,d,e,g,i,j,k,l,m⟩:=Jd (k:=0) (l:=0) (j:=0) h1 h2 h;exact⟨a,b,c,d,e,g,⟨i,k,l,m⟩,j⟩
theorem KF {w:World}{S:Nat→Prop}{ds:List Da}{A:Option Addr}{n c M:Nat}(h:ZH w S [.rows Xt] ds [.slice A n c])(hw:Tj ds≤M): ∃ l:List Cm,n=l.length∧ZV w S Xt (l.map Cm.da) A∧ ∀ x∈l,x.Zv M:=by
 obtain⟨d0,ds0,v0,vs0,rfl,hv,h0,r0⟩:=h.cons;obtain⟨rfl,hvs⟩:=r0.nil;obtain⟨es,A',c',rfl,hs,hr⟩:=h0.rows;injection hv with hv1 hv2
 rw [hs] at hv1;injection hv1 with hA hn hc
 subst hA;obtain⟨l,rfl⟩:=Cm.rows hr;refine⟨l,by simpa using hn,hr,fun x hx=>Cm.KW (Nat.le_trans (Od Cm.da hx) ?_)⟩
 simp only [Tj,wt] at hw;omega
end Go.Proofs.YtnhmoibjlakhjaaGreat
