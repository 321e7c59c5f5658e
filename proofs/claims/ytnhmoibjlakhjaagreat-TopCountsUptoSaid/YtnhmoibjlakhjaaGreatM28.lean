/- Lemmas of the proof. No condition but each theorem's own. -/
import Derived.Test.YtnhmoibjlakhjaaGreatM27
import Derived.WideKeyEntry
set_option linter.unusedVariables false
set_option linter.unusedSimpArgs false
namespace Go.Proofs.YtnhmoibjlakhjaaGreat
set_option maxRecDepth 100000
set_option maxHeartbeats 16000000
open Go.RowKit Go.Maps Go.ChangeMaps Go.MapKept
section
variable {P : Program} {k t e : TypeId} {κ : Type} {kv : κ → Value} {kl : κ → Lit} {dom : κ → Prop} {w w' : World} {z : Value} {b n : Nat} {f : κ → Value}
theorem Y5.entry [DecidableEq κ](h:Y5 P k kl w z b n f)(KL:Go.WideMaps.KeyLaw P k)(K:Mw P k kv kl dom)(ht:P.underlying t=some (.map k e))(hz: ∀ u,(zeroValue e).run P u= .ok z u)(hn:n<maxLen){x:κ}(hx:dom x):
  ∃ (v0:Value) (st:Nat) (w1:World),(Instr.mapEntry t (.map (some b)) (kv x)).run P w= .ok (.tuple #[v0,goInt st]) w1∧w.grownBy w1 (some b)∧
   ∀ (w2:World) (v:Value),w2.heap[b]?=w1.heap[b]?→ ∃ w3,(Instr.entryStore t (.map (some b)) (goInt st) v).run P w2= .ok () w3∧Y5 P k kl w3 z b (n+1) (fun y=>if y=x then v else f y)∧w2.grownBy w3 (some b):=by
 have h0:=h;obtain⟨D,⟨es,clock,hb,F,hs,hD⟩,hf⟩:=h;obtain⟨v0,st,es1,clock1,hrun,_,hstore⟩:=Go.WideElems.entry_then_store (R:=MI) KL ht hz hb F (K.key x hx);refine⟨v0,st,_,hrun,⟨rfl,rfl,rfl,by simp [setBlock],fun i _ hi=>heap_setBlock_other hb _ (fun e=>hi (by rw [e]))⟩,fun w2 v hw2=> ?_⟩
 have hw2':w2.heap[b]?=some (.map es1 clock1):=hw2.trans (heap_setBlock_same hb _);obtain⟨es',clock',hr1,hr2⟩:=hstore w2 v hw2';obtain⟨w3,hp1,hp2,hp3⟩:=h0.put K ht hn hx v;rw [hr2] at hp1;injection hp1 with _ hp1
 subst hp1;refine⟨_,hr1,hp2.same ?_,⟨rfl,rfl,rfl,by simp [setBlock],fun i _ hi=>heap_setBlock_other hw2' _ (fun e=>hi (by rw [e]))⟩⟩
 rw [heap_setBlock_same hw2',heap_setBlock_same hb]
end
end Go.Proofs.YtnhmoibjlakhjaaGreat
