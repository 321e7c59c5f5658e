/- The walks of the law's size, large, vote, entry. Printed by mkfold25.py. -/
import Derived.Test.YtkdmfjpfanmgmaaFold14
import Derived.IntWalk
import Derived.Test.YtkdmfjpfanmgmaaMany
import Derived.Deep.RegionLaw
namespace Go.Proofs.Ytkdmfjpfanmgmaa
open Go.RowKit Le
set_option maxRecDepth 100000
set_option linter.unusedSimpArgs false
set_option linter.unusedVariables false

/-- Lists and texts that a machine can hold. -/
structure Snp.Tame (s : Snp) : Prop where
  v : s.v.length ≤ 140737488355328
  l : s.l.length ≤ 140737488355328
  b : s.b.length ≤ 140737488355328
structure Ent.Tame (e : Ent) : Prop where
  v : e.v.length ≤ 140737488355328
  l : e.l.length ≤ 140737488355328
  b : e.b.length ≤ 140737488355328
structure Rcd.Tame (r : Rcd) : Prop where
  e : r.ent.Tame
  s : r.snp.Tame
structure Kep.Tame (k : Kep) : Prop where
  s : k.snp.Tame
  n : k.ents.length ≤ 140737488355328
  e : ∀ x ∈ k.ents, x.Tame
def Snp.size (s : Snp) : Nat := s.b.length + s.v.length + s.l.length
def Ent.size (e : Ent) : Nat := e.b.length + e.v.length + e.l.length
def Rcd.size (r : Rcd) : Nat := 8 + (r.ent.b.length + r.snp.b.length + r.ent.v.length + r.ent.l.length + r.snp.v.length + r.snp.l.length)
theorem text_len (b : List UInt8) : (text b).size = b.length := by simp [text, ByteArray.size]

set_option maxHeartbeats 3200000 in
theorem size_any (r : Rcd) (A1 : Option Addr) (c1 : Nat) (B1 : Option Addr) (d1 : Nat) (A2 : Option Addr) (c2 : Nat) (B2 : Option Addr) (d2 : Nat) (w : World) (ht : r.Tame) :
    Calls Try.prog 11 #[.agg #[.int .i64 r.kind, .int .i64 r.term, .int .i64 r.vote, .int .i64 r.ent.idx, .int .i64 r.ent.term, .int .i64 r.ent.kind, .slice A1 r.ent.v.length c1, .slice B1 r.ent.l.length d1, .string (text r.ent.b), .int .i64 r.at_, .int .i64 r.snp.idx, .int .i64 r.snp.term, .slice A2 r.snp.v.length c2, .slice B2 r.snp.l.length d2, .string (text r.snp.b)]] w fun e w' => e = .returned (.int .i64 r.size) ∧ Below w.heap.size w w' := by
  have H1 := ht.e.b
  have H2 := ht.s.b
  have H3 := ht.e.v
  have H4 := ht.e.l
  have H5 := ht.s.v
  have H6 := ht.s.l
  have x1 : IntKind.i64.wrap (8 + (r.ent.b.length : Int)) = 8 + (r.ent.b.length : Int) := IntWalk.i64_in _ (by omega)
  have x2 : IntKind.i64.wrap (8 + (r.ent.b.length : Int) + (r.snp.b.length : Int)) = 8 + (r.ent.b.length : Int) + (r.snp.b.length : Int) := IntWalk.i64_in _ (by omega)
  have x3 : IntKind.i64.wrap (8 + (r.ent.b.length : Int) + (r.snp.b.length : Int) + (r.ent.v.length : Int)) = 8 + (r.ent.b.length : Int) + (r.snp.b.length : Int) + (r.ent.v.length : Int) := IntWalk.i64_in _ (by omega)
  have x4 : IntKind.i64.wrap (8 + (r.ent.b.length : Int) + (r.snp.b.length : Int) + (r.ent.v.length : Int) + (r.ent.l.length : Int)) = 8 + (r.ent.b.length : Int) + (r.snp.b.length : Int) + (r.ent.v.length : Int) + (r.ent.l.length : Int) := IntWalk.i64_in _ (by omega)
  have x5 : IntKind.i64.wrap (8 + (r.ent.b.length : Int) + (r.snp.b.length : Int) + (r.ent.v.length : Int) + (r.ent.l.length : Int) + (r.snp.v.length : Int)) = 8 + (r.ent.b.length : Int) + (r.snp.b.length : Int) + (r.ent.v.length : Int) + (r.ent.l.length : Int) + (r.snp.v.length : Int) := IntWalk.i64_in _ (by omega)
  have x6 : IntKind.i64.wrap (8 + (r.ent.b.length : Int) + (r.snp.b.length : Int) + (r.ent.v.length : Int) + (r.ent.l.length : Int) + (r.snp.v.length : Int) + (r.snp.l.length : Int)) = 8 + (r.ent.b.length : Int) + (r.snp.b.length : Int) + (r.ent.v.length : Int) + (r.ent.l.length : Int) + (r.snp.v.length : Int) + (r.snp.l.length : Int) := IntWalk.i64_in _ (by omega)
  have y1 := text_len r.ent.b
  have y2 := text_len r.snp.b
  have HZ : Hid (r.size = 8 + (r.ent.b.length + r.snp.b.length + r.ent.v.length + r.ent.l.length + r.snp.v.length + r.snp.l.length)) := Lib.hid rfl
  have P0 := Lib.hid (Blk.new w 36 [.int .i64 r.kind, .int .i64 r.term, .int .i64 r.vote, .int .i64 r.ent.idx, .int .i64 r.ent.term, .int .i64 r.ent.kind, .slice A1 r.ent.v.length c1, .slice B1 r.ent.l.length d1, .string (text r.ent.b), .int .i64 r.at_, .int .i64 r.snp.idx, .int .i64 r.snp.term, .slice A2 r.snp.v.length c2, .slice B2 r.snp.l.length d2, .string (text r.snp.b)])
  have e6 : (w.alloc (.cells #[.int .i64 r.kind, .int .i64 r.term, .int .i64 r.vote, .int .i64 r.ent.idx, .int .i64 r.ent.term, .int .i64 r.ent.kind, .slice A1 r.ent.v.length c1, .slice B1 r.ent.l.length d1, .string (text r.ent.b), .int .i64 r.at_, .int .i64 r.snp.idx, .int .i64 r.snp.term, .slice A2 r.snp.v.length c2, .slice B2 r.snp.l.length d2, .string (text r.snp.b)] 36)).cell? ⟨w.heap.size, 6, none⟩ = some (.slice A1 r.ent.v.length c1) := P0.out.cell 6
  have e7 : (w.alloc (.cells #[.int .i64 r.kind, .int .i64 r.term, .int .i64 r.vote, .int .i64 r.ent.idx, .int .i64 r.ent.term, .int .i64 r.ent.kind, .slice A1 r.ent.v.length c1, .slice B1 r.ent.l.length d1, .string (text r.ent.b), .int .i64 r.at_, .int .i64 r.snp.idx, .int .i64 r.snp.term, .slice A2 r.snp.v.length c2, .slice B2 r.snp.l.length d2, .string (text r.snp.b)] 36)).cell? ⟨w.heap.size, 7, none⟩ = some (.slice B1 r.ent.l.length d1) := P0.out.cell 7
  have e8 : (w.alloc (.cells #[.int .i64 r.kind, .int .i64 r.term, .int .i64 r.vote, .int .i64 r.ent.idx, .int .i64 r.ent.term, .int .i64 r.ent.kind, .slice A1 r.ent.v.length c1, .slice B1 r.ent.l.length d1, .string (text r.ent.b), .int .i64 r.at_, .int .i64 r.snp.idx, .int .i64 r.snp.term, .slice A2 r.snp.v.length c2, .slice B2 r.snp.l.length d2, .string (text r.snp.b)] 36)).cell? ⟨w.heap.size, 8, none⟩ = some (.string (text r.ent.b)) := P0.out.cell 8
  have e12 : (w.alloc (.cells #[.int .i64 r.kind, .int .i64 r.term, .int .i64 r.vote, .int .i64 r.ent.idx, .int .i64 r.ent.term, .int .i64 r.ent.kind, .slice A1 r.ent.v.length c1, .slice B1 r.ent.l.length d1, .string (text r.ent.b), .int .i64 r.at_, .int .i64 r.snp.idx, .int .i64 r.snp.term, .slice A2 r.snp.v.length c2, .slice B2 r.snp.l.length d2, .string (text r.snp.b)] 36)).cell? ⟨w.heap.size, 12, none⟩ = some (.slice A2 r.snp.v.length c2) := P0.out.cell 12
  have e13 : (w.alloc (.cells #[.int .i64 r.kind, .int .i64 r.term, .int .i64 r.vote, .int .i64 r.ent.idx, .int .i64 r.ent.term, .int .i64 r.ent.kind, .slice A1 r.ent.v.length c1, .slice B1 r.ent.l.length d1, .string (text r.ent.b), .int .i64 r.at_, .int .i64 r.snp.idx, .int .i64 r.snp.term, .slice A2 r.snp.v.length c2, .slice B2 r.snp.l.length d2, .string (text r.snp.b)] 36)).cell? ⟨w.heap.size, 13, none⟩ = some (.slice B2 r.snp.l.length d2) := P0.out.cell 13
  have e14 : (w.alloc (.cells #[.int .i64 r.kind, .int .i64 r.term, .int .i64 r.vote, .int .i64 r.ent.idx, .int .i64 r.ent.term, .int .i64 r.ent.kind, .slice A1 r.ent.v.length c1, .slice B1 r.ent.l.length d1, .string (text r.ent.b), .int .i64 r.at_, .int .i64 r.snp.idx, .int .i64 r.snp.term, .slice A2 r.snp.v.length c2, .slice B2 r.snp.l.length d2, .string (text r.snp.b)] 36)).cell? ⟨w.heap.size, 14, none⟩ = some (.string (text r.snp.b)) := P0.out.cell 14
  go_enter Try.func11, Try.ntmps11
  go_wp2_with fail
  go_ret
  exact ⟨by rw [HZ.out]; simp; omega, (by repeat (first | with_reducible exact Below.refl _ _ | with_reducible assumption | (with_reducible refine Below.setCell ?_ (by dsimp only; (first | omega | (simp; done) | (simp; omega))) _) | (with_reducible refine Below.alloc ?_ (by (first | omega | (simp; done) | (simp; omega))) _) | with_reducible refine Below.drew ?_))⟩

theorem at_worldC {P : Program} {c : Code} {Q : Exit → Act → World → Prop} {a : Act} (wX : World) (k : ∀ W, W = wX → c.wp P Q a W) : c.wp P Q a wX := k _ rfl
theorem blk2x (w : World) (t0 t1 : TypeId) (c0 c1 : List Value) (W : World) (hW : W = (w.alloc (.cells c0.toArray t0)).alloc (.cells c1.toArray t1)) :
    Blk W w.heap.size t0 c0 ∧ Blk W (w.heap.size + 1) t1 c1 ∧ Below w.heap.size w W ∧ W.heap.size = w.heap.size + 1 + 1 := by
  subst hW
  refine ⟨(Blk.new w t0 c0).alloc _, ?_, ?_, by simp⟩
  · have h := Blk.new (w.alloc (.cells c0.toArray t0)) t1 c1
    simpa using h
  · exact (by repeat (first | with_reducible exact (Below.refl w.heap.size w) | (with_reducible refine Below.setCell ?_ (by dsimp only; (first | omega | (simp; done) | (simp; omega))) _) | (with_reducible refine Below.alloc ?_ (by (first | omega | (simp; done) | (simp; omega))) _) | with_reducible refine Below.drew ?_))
theorem size_snp (x : Snp) (A : Option Addr) (c : Nat) (B : Option Addr) (d : Nat) (w : World) (ht : x.Tame) :
    Calls Try.prog 11 #[.agg #[.int .i64 0, .int .i64 0, .int .i64 0, .int .i64 0, .int .i64 0, .int .i64 0, .slice none 0 0, .slice none 0 0, .string ⟨#[]⟩, .int .i64 0, .int .i64 x.idx, .int .i64 x.term, .slice A x.v.length c, .slice B x.l.length d, .string (text x.b)]] w fun e w' => e = .returned (.int .i64 (8 + (x.size : Int))) ∧ Below w.heap.size w w' := by
  have h := size_any ⟨0, 0, 0, .zero, 0, x⟩ none 0 none 0 A c B d w ⟨⟨by simp [Ent.zero], by simp [Ent.zero], by simp [Ent.zero]⟩, ht⟩
  refine Calls.mono (show Calls _ _ _ _ _ from h) fun e w' ⟨he, hb⟩ => ⟨?_, hb⟩
  rw [he]
  simp [Rcd.size, Snp.size, Ent.zero]
theorem size_ent (x : Ent) (A : Option Addr) (c : Nat) (B : Option Addr) (d : Nat) (w : World) (ht : x.Tame) :
    Calls Try.prog 11 #[.agg #[.int .i64 0, .int .i64 0, .int .i64 0, .int .i64 x.idx, .int .i64 x.term, .int .i64 x.kind, .slice A x.v.length c, .slice B x.l.length d, .string (text x.b), .int .i64 0, .int .i64 0, .int .i64 0, .slice none 0 0, .slice none 0 0, .string ⟨#[]⟩]] w fun e w' => e = .returned (.int .i64 (8 + (x.size : Int))) ∧ Below w.heap.size w w' := by
  have h := size_any ⟨0, 0, 0, x, 0, .zero⟩ A c B d none 0 none 0 w ⟨ht, ⟨by simp [Snp.zero], by simp [Snp.zero], by simp [Snp.zero]⟩⟩
  refine Calls.mono (show Calls _ _ _ _ _ from h) fun e w' ⟨he, hb⟩ => ⟨?_, hb⟩
  rw [he]
  simp [Rcd.size, Ent.size, Snp.zero]
/-- What large has met so far. -/
structure SmallTo (k : Kep) (r : Rcd) (j : Nat) (n : Int) : Prop where
  ge : 8 * (j : Int) ≤ n
  r : (r.size : Int) ≤ n
  s : (k.snp.size : Int) ≤ n
  e : ∀ i x, i < j → k.ents[i]? = some x → (x.size : Int) ≤ n
  le : n ≤ 8589934592 * 1099511627776
/-- The law's large: nothing large is passed. -/
def LargeEnd (w : World) (k : Kep) (r : Rcd) (e : Ending) (w' : World) : Prop := ∃ b, e = .returned (.bool b) ∧ (b = false → k.ents.length ≤ 100000 ∧ r.size ≤ 100000 ∧ k.snp.size ≤ 100000 ∧ ∀ x ∈ k.ents, x.size ≤ 100000) ∧ Below w.heap.size w w'

set_option maxHeartbeats 3200000 in
theorem large_any (k : Kep) (r : Rcd) (A : Option Addr) (c : Nat) (B : Option Addr) (d : Nat) (E : Option Addr) (n : Nat) (A1 : Option Addr) (c1 : Nat) (B1 : Option Addr) (d1 : Nat) (A2 : Option Addr) (c2 : Nat) (B2 : Option Addr) (d2 : Nat) (w : World) (hK : KepAt w (· < w.heap.size) k A B E) (htk : k.Tame) (htr : r.Tame) :
    Calls Try.prog 5 #[.agg #[.int .i64 k.term, .int .i64 k.vote, .int .i64 k.snp.idx, .int .i64 k.snp.term, .slice A k.snp.v.length c, .slice B k.snp.l.length d, .string (text k.snp.b), .slice E k.ents.length n], .agg #[.int .i64 r.kind, .int .i64 r.term, .int .i64 r.vote, .int .i64 r.ent.idx, .int .i64 r.ent.term, .int .i64 r.ent.kind, .slice A1 r.ent.v.length c1, .slice B1 r.ent.l.length d1, .string (text r.ent.b), .int .i64 r.at_, .int .i64 r.snp.idx, .int .i64 r.snp.term, .slice A2 r.snp.v.length c2, .slice B2 r.snp.l.length d2, .string (text r.snp.b)]] w (LargeEnd w k r) := by
  have HK := Lib.hid hK
  have HT := Lib.hid htk
  have HR := Lib.hid htr
  clear hK htk htr
  have HI2 : Hid ((Try.prog.info? 36).map (·.size) = some 15) := Lib.hid (by kernel_rfl)
  have HI3 : Hid ((Try.prog.info? 27).map (·.size) = some 5) := Lib.hid (by kernel_rfl)
  have hs1 : r.size ≤ 8589934592 * 131072 := by have h := HR.out.e; have h' := HR.out.s; have := h.v; have := h.l; have := h.b; have := h'.v; have := h'.l; have := h'.b; unfold Rcd.size; omega
  have hs2 : k.snp.size ≤ 8589934592 * 131072 := by have h := HT.out.s; have := h.v; have := h.l; have := h.b; unfold Snp.size; omega
  have hs3 : ∀ x ∈ k.ents, x.size ≤ 8589934592 * 131072 := fun x hx => by have h := HT.out.e x hx; have := h.v; have := h.l; have := h.b; unfold Ent.size; omega
  have HS3 := Lib.hid hs3
  have hn := HT.out.n
  clear hs3
  have x1 : IntKind.i64.wrap ((r.size : Int) + (8 + (k.snp.size : Int))) = (r.size : Int) + (8 + (k.snp.size : Int)) := IntWalk.i64_in _ (by omega)
  go_enter Try.func5, Try.ntmps5
  go_wp2_with fail
  refine at_worldC _ fun W hW => ?_
  obtain ⟨P0, P1, hbW, hsW⟩ := blk2x w 30 36 [.int .i64 k.term, .int .i64 k.vote, .int .i64 k.snp.idx, .int .i64 k.snp.term, .slice A k.snp.v.length c, .slice B k.snp.l.length d, .string (text k.snp.b), .slice E k.ents.length n] [.int .i64 r.kind, .int .i64 r.term, .int .i64 r.vote, .int .i64 r.ent.idx, .int .i64 r.ent.term, .int .i64 r.ent.kind, .slice A1 r.ent.v.length c1, .slice B1 r.ent.l.length d1, .string (text r.ent.b), .int .i64 r.at_, .int .i64 r.snp.idx, .int .i64 r.snp.term, .slice A2 r.snp.v.length c2, .slice B2 r.snp.l.length d2, .string (text r.snp.b)] W hW
  clear hW
  have Q0 := Lib.hid P0
  have Q1 := Lib.hid P1
  have HB := Lib.hid hbW
  have HZ := Lib.hid hsW
  clear P0 P1 hbW hsW
  refine wp_region_held_drew (S := fun w' => w'.rangeAt (w.heap.size + 1) 0 [.int .i64 r.kind, .int .i64 r.term, .int .i64 r.vote, .int .i64 r.ent.idx, .int .i64 r.ent.term, .int .i64 r.ent.kind, .slice A1 r.ent.v.length c1, .slice B1 r.ent.l.length d1, .string (text r.ent.b), .int .i64 r.at_, .int .i64 r.snp.idx, .int .i64 r.snp.term, .slice A2 r.snp.v.length c2, .slice B2 r.snp.l.length d2, .string (text r.snp.b)] ∧ w'.rangeAt w.heap.size 2 [.int .i64 k.snp.idx, .int .i64 k.snp.term, .slice A k.snp.v.length c, .slice B k.snp.l.length d, .string (text k.snp.b)]) (by kernel_rfl) ⟨by simpa using Q1.out.range0, by simpa using Q0.out.range 2 [.int .i64 k.snp.idx, .int .i64 k.snp.term, .slice A k.snp.v.length c, .slice B k.snp.l.length d, .string (text k.snp.b)] rfl⟩ (fun HD => ?_)
  refine wpAnyH_take (i := 0) (oi := ⟨some 7, _, _, _, _, _⟩) (v := _) rfl (by kernel_rfl) (by kernel_rfl) (by kernel_rfl) (fun _ _ _ h => h) (yieldsIf_load_mid (by rfl) _ _ rfl (w.heap.size + 1) 0 rfl [.int .i64 r.kind, .int .i64 r.term, .int .i64 r.vote, .int .i64 r.ent.idx, .int .i64 r.ent.term, .int .i64 r.ent.kind, .slice A1 r.ent.v.length c1, .slice B1 r.ent.l.length d1, .string (text r.ent.b), .int .i64 r.at_, .int .i64 r.snp.idx, .int .i64 r.snp.term, .slice A2 r.snp.v.length c2, .slice B2 r.snp.l.length d2, .string (text r.snp.b)] _ (fun _ h => h.1) Try.underlying36 rfl HI2.out) HD ?_
  (try simp only [Act.put, List.setIfInBounds_toArray, List.set_cons_zero, List.set_cons_succ])
  refine wpAnyH_take (i := 2) (oi := ⟨some 9, _, _, _, _, _⟩) (v := ?_) rfl (by kernel_rfl) (by kernel_rfl) (by kernel_rfl) (fun _ _ _ h => h) (Or.inl ⟨by rfl, ?_⟩) HD ?_
  rotate_left
  · intro w hSw
    (try dsimp only at hSw)
    go_simp <;> with_reducible rfl
  (try simp only [Act.put, List.setIfInBounds_toArray, List.set_cons_zero, List.set_cons_succ])
  refine wpAnyH_take (i := 3) (oi := ⟨some 10, _, _, _, _, _⟩) (v := _) rfl (by kernel_rfl) (by kernel_rfl) (by kernel_rfl) (fun _ _ _ h => h) (yieldsIf_load_mid (by rfl) _ _ rfl (w.heap.size) 2 rfl [.int .i64 k.snp.idx, .int .i64 k.snp.term, .slice A k.snp.v.length c, .slice B k.snp.l.length d, .string (text k.snp.b)] _ (fun _ h => h.2) Try.underlying27 rfl HI3.out) HD ?_
  (try simp only [Act.put, List.setIfInBounds_toArray, List.set_cons_zero, List.set_cons_succ])
  refine wpAnyH_take (i := 4) (oi := ⟨some 11, _, _, _, _, _⟩) (v := ?_) rfl (by kernel_rfl) (by kernel_rfl) (by kernel_rfl) (fun _ _ _ h => h) (Or.inl ⟨by rfl, ?_⟩) HD ?_
  rotate_left
  · intro w hSw
    (try dsimp only at hSw)
    go_simp <;> with_reducible rfl
  (try simp only [Act.put, List.setIfInBounds_toArray, List.set_cons_zero, List.set_cons_succ])
  refine wpAnyH_ready (rs := [1]) (by kernel_rfl) (by simp) ?_
  refine AllReadyH.cons (o := ⟨some 8, _, _, _, _, _⟩) rfl (fun K hK => ?_) AllReadyH.nil
  go_simp
  go_at_call 11
  refine (size_any r A1 c1 B1 d1 A2 c2 B2 d2 _ HR.out).mono ?_
  rintro e w1 ⟨rfl, hb⟩
  have R0 := Lib.hid (Q0.out.drew.below hb (by simpa using Q0.out.lt))
  have R1 := Lib.hid (Q1.out.drew.below hb (by simpa using Q1.out.lt))
  have HB1 : Hid (Below w.heap.size w w1) := Lib.hid (HB.out.drew.trans (hb.mono (by have := HZ.out; simp; omega)))
  clear hb Q0 Q1 HB HZ
  dsimp only
  refine hK.out _ _ ⟨R1.out.range0, R0.out.range 2 [.int .i64 k.snp.idx, .int .i64 k.snp.term, .slice A k.snp.v.length c, .slice B k.snp.l.length d, .string (text k.snp.b)] rfl⟩ (fun HD => ?_)
  clear hK K
  (try simp only [Act.put, List.setIfInBounds_toArray, List.set_cons_zero, List.set_cons_succ])
  refine wpAnyH_ready (rs := [5]) (by kernel_rfl) (by simp) ?_
  refine AllReadyH.cons (o := ⟨some 12, _, _, _, _, _⟩) rfl (fun K hK => ?_) AllReadyH.nil
  go_simp
  go_at_call 11
  refine (size_snp k.snp A c B d _ HT.out.s).mono ?_
  rintro e w2 ⟨rfl, hb⟩
  have S0 := Lib.hid (R0.out.below hb R0.out.lt)
  have S1 := Lib.hid (R1.out.below hb R1.out.lt)
  have HB2 : Hid (Below w.heap.size w w2) := Lib.hid (HB1.out.trans (hb.mono (by have := R0.out.lt; omega)))
  clear hb R0 R1 HB1
  dsimp only
  refine hK.out _ _ ⟨S1.out.range0, S0.out.range 2 [.int .i64 k.snp.idx, .int .i64 k.snp.term, .slice A k.snp.v.length c, .slice B k.snp.l.length d, .string (text k.snp.b)] rfl⟩ (fun HD => ?_)
  clear hK K
  (try simp only [Act.put, List.setIfInBounds_toArray, List.set_cons_zero, List.set_cons_succ])
  refine wpAnyH_take (i := 6) (oi := ⟨some 13, _, _, _, _, _⟩) (v := ?_) rfl (by kernel_rfl) (by kernel_rfl) (by kernel_rfl) (fun _ _ _ h => h) (Or.inl ⟨by rfl, ?_⟩) HD ?_
  rotate_left
  · intro w hSw
    (try dsimp only at hSw)
    go_simp <;> with_reducible rfl
  (try simp only [Act.put, List.setIfInBounds_toArray, List.set_cons_zero, List.set_cons_succ])
  refine wpAnyH_take (i := 7) (oi := ⟨some 5, _, _, _, _, _⟩) (v := ?_) rfl (by kernel_rfl) (by kernel_rfl) (by kernel_rfl) (fun _ _ _ h => h) (Or.inl ⟨by rfl, ?_⟩) HD ?_
  rotate_left
  · intro w hSw
    (try dsimp only at hSw)
    go_simp <;> with_reducible rfl
  (try simp only [Act.put, List.setIfInBounds_toArray, List.set_cons_zero, List.set_cons_succ])
  refine wpAnyH_done (by kernel_rfl) ?_ _
  clear HD
  have HE : Hid (SmallTo k r 0 ((r.size : Int) + (8 + (k.snp.size : Int)))) := Lib.hid ⟨by omega, by omega, by omega, fun i x hi => by omega, by omega⟩
  clear x1
  go_wp2
  go_loopw [5, 6] (fun a i wr => ∃ (j : Nat) (N : Int), j ≤ k.ents.length ∧ a = .int .i64 N ∧ i = .int .i64 j ∧ Hid (Blk wr w.heap.size 30 [.int .i64 k.term, .int .i64 k.vote, .int .i64 k.snp.idx, .int .i64 k.snp.term, .slice A k.snp.v.length c, .slice B k.snp.l.length d, .string (text k.snp.b), .slice E k.ents.length n]) ∧ Hid (Below w.heap.size w wr) ∧ Hid (SmallTo k r j N)) (fun _ i _ => k.ents.length - (intOf i).toNat)
  case atStart => exact ⟨0, _, Nat.zero_le _, rfl, rfl, S0, HB2, HE⟩
  case round =>
    clear S0 S1 HB2 HE
    obtain ⟨j, N, hj, rfl, rfl, Q0, HBw, HE⟩ := hrel
    have l0 := Q0.out.lt
    have p7 : wr.cell? ⟨w.heap.size, 7, none⟩ = some (.slice E k.ents.length n) := Q0.out.cell 7
    by_cases hlt : j < k.ents.length
    · by_cases hN : N ≤ 100000
      · have t1 : decide (N ≤ 100000) = true := decide_eq_true hN
        obtain ⟨ad, A3, c3, B3, d3, rfl, _, e1, e2, hcell⟩ := ents_at (HK.out.e.below HBw.out) hlt
        have hsz := HS3.out _ (List.getElem_mem hlt)
        have HTX := Lib.hid (HT.out.e _ (List.getElem_mem hlt))
        have HGX : Hid (k.ents[j]? = some k.ents[j]) := Lib.hid (List.getElem?_eq_getElem hlt)
        generalize k.ents[j] = x at *
        unfold Ent.cs at hcell
        have hc0 : wr.cell? (ad.add (j * 6)) = some (.int .i64 x.idx) := hcell 0 _ rfl
        have hc1 : wr.cell? ⟨(ad.add (j * 6)).block, (ad.add (j * 6)).off + 1, none⟩ = some (.int .i64 x.term) := by rw [← add_field ad (j * 6) 1 (by decide)]; exact hcell 1 _ rfl
        have hc2 : wr.cell? ⟨(ad.add (j * 6)).block, (ad.add (j * 6)).off + 2, none⟩ = some (.int .i64 x.kind) := by rw [← add_field ad (j * 6) 2 (by decide)]; exact hcell 2 _ rfl
        have hc3 : wr.cell? ⟨(ad.add (j * 6)).block, (ad.add (j * 6)).off + 3, none⟩ = some (.slice A3 x.v.length c3) := by rw [← add_field ad (j * 6) 3 (by decide)]; exact hcell 3 _ rfl
        have hc4 : wr.cell? ⟨(ad.add (j * 6)).block, (ad.add (j * 6)).off + 4, none⟩ = some (.slice B3 x.l.length d3) := by rw [← add_field ad (j * 6) 4 (by decide)]; exact hcell 4 _ rfl
        have hc5 : wr.cell? ⟨(ad.add (j * 6)).block, (ad.add (j * 6)).off + 5, none⟩ = some (.string (text x.b)) := by rw [← add_field ad (j * 6) 5 (by decide)]; exact hcell 5 _ rfl
        clear hcell e1 e2
        have hge := HE.out.ge
        have y1 : IntKind.i64.wrap (N + (8 + (x.size : Int))) = N + (8 + (x.size : Int)) := IntWalk.i64_in _ (by omega)
        go_wp2_with fail
        refine (size_ent x A3 c3 B3 d3 wr HTX.out).mono ?_
        rintro e w3 ⟨rfl, hb⟩
        have T0 := Lib.hid (Q0.out.below hb l0)
        have HB3 : Hid (Below w.heap.size w w3) := Lib.hid (HBw.out.trans (hb.mono (by omega)))
        have HE3 : Hid (SmallTo k r (j + 1) (N + (8 + (x.size : Int)))) := Lib.hid ⟨by omega, by have := HE.out.r; omega, by have := HE.out.s; omega, fun i y hi hy => by
          by_cases hij : i < j
          · have := HE.out.e i y hij hy; omega
          · obtain rfl : i = j := by omega
            rw [HGX.out] at hy; injection hy with hy; subst hy; omega, by omega⟩
        clear hb hc0 hc1 hc2 hc3 hc4 hc5 p7 t1
        go_wp2
        go_roundw
        case rel => exact ⟨j + 1, _, by omega, rfl, by go_num, T0, HB3, HE3⟩
        case measure => simp [intOf]; omega
      · have t1 : decide (N ≤ 100000) = false := decide_eq_false hN
        go_wp2_with fail
        go_ret
        exact ⟨true, rfl, fun h => (by cases h), HBw.out⟩
    · go_wp2_with fail
      go_ret
      refine ⟨_, rfl, fun h => ?_, HBw.out⟩
      have h1 := of_decide_eq_false h
      have hge := HE.out.ge
      refine ⟨by omega, by have := HE.out.r; omega, by have := HE.out.s; omega, fun x hx => ?_⟩
      obtain ⟨i, hi, hx⟩ := List.getElem_of_mem hx
      have := HE.out.e i x (by omega) (by rw [List.getElem?_eq_getElem hi, hx])
      omega
end Go.Proofs.Ytkdmfjpfanmgmaa
