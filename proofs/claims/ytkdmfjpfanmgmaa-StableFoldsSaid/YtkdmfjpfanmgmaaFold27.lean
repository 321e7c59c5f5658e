/- The walk of the law StableFolds. Printed by mkfold27.py. -/
import Derived.Test.YtkdmfjpfanmgmaaFold26
import Derived.Test.YtkdmfjpfanmgmaaFold9
import Derived.Deep.RegionLaw
namespace Go.Proofs.Ytkdmfjpfanmgmaa
open Go.RowKit Le
set_option maxRecDepth 100000
set_option linter.unusedSimpArgs false
set_option linter.unusedVariables false

/-! ### What is overwritten: cells of whatever numbers and texts. -/
def IntsAt (w : World) (S : Nat → Prop) (A : Option Addr) (n : Nat) : Prop := 0 < n → ∃ ad, A = some ad ∧ S ad.block ∧ ∀ i, i < n → ∃ z, w.cell? (ad.add i) = some (.int .i64 z)
def LooseEnt (w : World) (S : Nat → Prop) (ad : Addr) (j : Nat) : Prop := ∃ A n c s, n ≤ 1048576 ∧ w.cell? ⟨(ad.add (j * 6)).block, (ad.add (j * 6)).off + 3, none⟩ = some (.slice A n c) ∧ w.cell? ⟨(ad.add (j * 6)).block, (ad.add (j * 6)).off + 5, none⟩ = some (.string s) ∧ IntsAt w S A n
def LooseEnts (w : World) (S : Nat → Prop) (E : Option Addr) (m : Nat) : Prop := 0 < m → ∃ ad, E = some ad ∧ S ad.block ∧ ∀ j, j < m → LooseEnt w S ad j
/-- The same kind of cell. -/
def SameKind (u v : Value) : Prop := (∃ z z', u = .int .i64 z ∧ v = .int .i64 z') ∨ ∃ s s', u = .string s ∧ v = .string s'
section
variable {w w' : World} {S : Nat → Prop} {p : Addr} {u v : Value}
theorem SameKind.int {q : Addr} {z : Int} (hk : SameKind u v) (hp : w.cell? p = some u) (h : w.cell? q = some (.int .i64 z)) : ∃ z, (w.setCell p v).cell? q = some (.int .i64 z) := by
  by_cases e : p = q
  · subst e
    rw [hp] at h
    injection h with h
    rcases hk with ⟨a, b, rfl, rfl⟩ | ⟨a, b, rfl, rfl⟩
    · exact ⟨b, World.cell?_setCell_same _ _ _ hp⟩
    · cases h
  · exact ⟨z, by rw [World.cell?_setCell_other _ _ _ _ e]; exact h⟩
theorem SameKind.str {q : Addr} {z : ByteArray} (hk : SameKind u v) (hp : w.cell? p = some u) (h : w.cell? q = some (.string z)) : ∃ z, (w.setCell p v).cell? q = some (.string z) := by
  by_cases e : p = q
  · subst e
    rw [hp] at h
    injection h with h
    rcases hk with ⟨a, b, rfl, rfl⟩ | ⟨a, b, rfl, rfl⟩
    · cases h
    · exact ⟨b, World.cell?_setCell_same _ _ _ hp⟩
  · exact ⟨z, by rw [World.cell?_setCell_other _ _ _ _ e]; exact h⟩
theorem SameKind.sl {q : Addr} {A : Option Addr} {n c : Nat} (hk : SameKind u v) (hp : w.cell? p = some u) (h : w.cell? q = some (.slice A n c)) : (w.setCell p v).cell? q = some (.slice A n c) := by
  by_cases e : p = q
  · subst e
    rw [hp] at h
    injection h with h
    rcases hk with ⟨a, b, rfl, rfl⟩ | ⟨a, b, rfl, rfl⟩
    · cases h
    · cases h
  · rw [World.cell?_setCell_other _ _ _ _ e]; exact h
theorem IntsAt.set {A : Option Addr} {n : Nat} (h : IntsAt w S A n) (hk : SameKind u v) (hp : w.cell? p = some u) : IntsAt (w.setCell p v) S A n := fun hn => by
  obtain ⟨ad, e, hS, h⟩ := h hn
  exact ⟨ad, e, hS, fun i hi => by obtain ⟨z, h⟩ := h i hi; exact hk.int hp h⟩
theorem LooseEnt.set {ad : Addr} {j : Nat} (h : LooseEnt w S ad j) (hk : SameKind u v) (hp : w.cell? p = some u) : LooseEnt (w.setCell p v) S ad j := by
  obtain ⟨A, n, c, s, hn, h1, h2, h3⟩ := h
  obtain ⟨s', h2⟩ := hk.str hp h2
  exact ⟨A, n, c, s', hn, hk.sl hp h1, h2, h3.set hk hp⟩
theorem LooseEnts.set {E : Option Addr} {m : Nat} (h : LooseEnts w S E m) (hk : SameKind u v) (hp : w.cell? p = some u) : LooseEnts (w.setCell p v) S E m := fun hm => by
  obtain ⟨ad, e, hS, h⟩ := h hm
  exact ⟨ad, e, hS, fun j hj => (h j hj).set hk hp⟩
theorem IntsAt.of {A : Option Addr} {l : List Int} (h : RowsAt w S [.num] (nums l) A) : IntsAt w S A l.length := fun hn => by
  obtain ⟨ad, e, hS, h⟩ := h (by rw [nums_len]; exact hn)
  refine ⟨ad, e, hS, fun i hi => ?_⟩
  obtain ⟨vs, h1, h2⟩ := h i [.int l[i]] (by simp [nums, hi])
  obtain ⟨d0, ds', v, vs', e1, rfl, h3, h4⟩ := h1.cons
  obtain ⟨m, rfl, rfl⟩ := h3.num
  have := h2 0 _ rfl
  exact ⟨m, by simpa using this⟩
theorem LooseEnts.of {E : Option Addr} {l : List Ent} (h : RowsAt w S shEntry (l.map Ent.da) E) (hs : ∀ x ∈ l, x.Small) : LooseEnts w S E l.length := fun hn => by
  obtain ⟨ad, _, _, _, _, e, hS, _⟩ := ents_at h hn
  refine ⟨ad, e, hS, fun j hj => ?_⟩
  obtain ⟨ad', A, c, B, d, e', _, h1, h2, h3⟩ := ents_at h hj
  rw [e] at e'
  injection e' with e'
  subst e'
  have c3 := h3 3 _ rfl
  have c5 := h3 5 _ rfl
  rw [add_field ad (j * 6) 3 (by decide)] at c3
  rw [add_field ad (j * 6) 5 (by decide)] at c5
  exact ⟨A, _, c, _, (hs _ (List.getElem_mem hj)).v, c3, c5, IntsAt.of h1⟩
end
/-- What is overwritten, and what is not. -/
structure Loose (w w0 : World) (base gx : Nat) (S : Nat → Prop) (E : Option Addr) (m : Nat) (A : Option Addr) (n : Nat) (cells : List Value) : Prop where
  ents : LooseEnts w S E m
  snap : IntsAt w S A n
  fr : ∀ a : Addr, S a.block → w.frozen? a = false
  bel : Below base w0 w
  blk : Blk w gx 30 cells
  ge : ∀ k, S k → base ≤ k
  ne : ¬ S gx
theorem Loose.set {w w0 : World} {base gx : Nat} {S : Nat → Prop} {E : Option Addr} {m : Nat} {A : Option Addr} {n : Nat} {cells : List Value} {p : Addr} {u v : Value} (h : Loose w w0 base gx S E m A n cells) (hk : SameKind u v) (hp : w.cell? p = some u) (hS : S p.block) : Loose (w.setCell p v) w0 base gx S E m A n cells :=
  ⟨h.ents.set hk hp, h.snap.set hk hp, fun a ha => by rw [World.frozen?_setCell]; exact h.fr a ha, h.bel.setCell (h.ge _ hS) _, h.blk.far (fun e => h.ne (e ▸ hS)) _, h.ge, h.ne⟩
theorem Nw.free {w : World} {base : Nat} {ts : List TypeId} {a : Addr} (h : Nw w base ts a.block) : w.frozen? a = false := by
  obtain ⟨_, t, _, cs, h⟩ := h
  simp [World.frozen?, h]

theorem rFold_at (k : Kep) (r : Rcd) (k' : Kep) (x : Nat) (hf : foldP k r = (k', x)) (A : Option Addr) (c : Nat) (B : Option Addr) (d : Nat) (E : Option Addr) (n : Nat) (A1 : Option Addr) (c1 : Nat) (B1 : Option Addr) (d1 : Nat) (A2 : Option Addr) (c2 : Nat) (B2 : Option Addr) (d2 : Nat) (w : World) (hK : KepAt w (· < w.heap.size) k A B E) (hA : RcdAt' w (· < w.heap.size) r A1 B1 A2 B2) (hks : k.Small) (hs : r.Small) :
    Calls Try.prog 8 #[.agg #[.int .i64 k.term, .int .i64 k.vote, .int .i64 k.snp.idx, .int .i64 k.snp.term, .slice A k.snp.v.length c, .slice B k.snp.l.length d, .string (text k.snp.b), .slice E k.ents.length n], .agg #[.int .i64 r.kind, .int .i64 r.term, .int .i64 r.vote, .int .i64 r.ent.idx, .int .i64 r.ent.term, .int .i64 r.ent.kind, .slice A1 r.ent.v.length c1, .slice B1 r.ent.l.length d1, .string (text r.ent.b), .int .i64 r.at_, .int .i64 r.snp.idx, .int .i64 r.snp.term, .slice A2 r.snp.v.length c2, .slice B2 r.snp.l.length d2, .string (text r.snp.b)]] w fun e w' => ∃ A c B d E n, e = .returned (.tuple #[.agg #[.int .i64 k'.term, .int .i64 k'.vote, .int .i64 k'.snp.idx, .int .i64 k'.snp.term, .slice A k'.snp.v.length c, .slice B k'.snp.l.length d, .string (text k'.snp.b), .slice E k'.ents.length n], .int .i64 (x : Int)]) ∧ KepAt w' (Nw w' w.heap.size [34, 3]) k' A B E ∧ Below w.heap.size w w' := by
  have h := rFold_any k r A c B d E n A1 c1 B1 d1 A2 c2 B2 d2 w hK hA hks hs
  rw [hf] at h
  exact h

theorem Same_lit (a b : Kep) (A : Option Addr) (c : Nat) (B : Option Addr) (d : Nat) (E : Option Addr) (n : Nat) (A' : Option Addr) (c' : Nat) (B' : Option Addr) (d' : Nat) (E' : Option Addr) (n' : Nat) (w : World)
    (ha : KepAt w (· < w.heap.size) a A B E) (hb : KepAt w (· < w.heap.size) b A' B' E') (hs : a.Small) (hs' : b.Small) :
    Calls Try.prog 9 #[.agg #[.int .i64 a.term, .int .i64 a.vote, .int .i64 a.snp.idx, .int .i64 a.snp.term, .slice A a.snp.v.length c, .slice B a.snp.l.length d, .string (text a.snp.b), .slice E a.ents.length n], .agg #[.int .i64 b.term, .int .i64 b.vote, .int .i64 b.snp.idx, .int .i64 b.snp.term, .slice A' b.snp.v.length c', .slice B' b.snp.l.length d', .string (text b.snp.b), .slice E' b.ents.length n']] w (TestEnd w (decide (a = b))) := Same_any a b A c B d E n A' c' B' d' E' n' w ha hb hs hs'
theorem foldP_small {k k' : Kep} {r : Rcd} {x : Nat} (hk : k.Small) (hr : r.Small) (h : foldP k r = (k', x)) : k'.Small := by
  have hz : Kep.zero.Small := ⟨⟨by simp [Kep.zero, Snp.zero], by simp [Kep.zero, Snp.zero]⟩, by simp [Kep.zero], by simp [Kep.zero]⟩
  have he : k' = (foldP k r).1 := by rw [h]
  rw [he]
  unfold foldP
  split
  · rename_i hR
    have hl := ((rightP_iff k).1 hR).len
    split
    · unfold foldedP
      split
      · split
        · exact hz
        · exact ⟨hk.s, hk.n, hk.e⟩
      · split
        · split
          · exact hz
          · split
            · exact hz
            · refine ⟨hk.s, by simp; omega, fun x hx => ?_⟩
              rcases List.mem_append.1 hx with hx | hx
              · exact hk.e x hx
              · obtain rfl := List.mem_singleton.1 hx
                exact hr.e
        · split
          · split
            · exact hz
            · exact ⟨hk.s, by simp [List.length_take]; omega, fun x hx => hk.e x (List.mem_of_mem_take hx)⟩
          · split
            · exact hz
            · refine ⟨hr.s, ?_, fun x hx => ?_⟩
              · dsimp only
                split
                · simp [List.length_drop]; have := hk.n; omega
                · simp
              · dsimp only at hx
                split at hx
                · exact hk.e x (List.mem_of_mem_drop hx)
                · simp at hx
    · exact hz
  · exact hz

set_option maxHeartbeats 6400000 in
theorem stableFolds_any (k : Kep) (r : Rcd) (A : Option Addr) (c : Nat) (B : Option Addr) (d : Nat) (E : Option Addr) (n : Nat) (A1 : Option Addr) (c1 : Nat) (B1 : Option Addr) (d1 : Nat) (A2 : Option Addr) (c2 : Nat) (B2 : Option Addr) (d2 : Nat) (w : World) (hK : KepAt w (· < w.heap.size) k A B E) (hA : RcdAt' w (· < w.heap.size) r A1 B1 A2 B2) (htk : k.Tame) (htr : r.Tame) :
    Calls Try.prog 3 #[.agg #[.int .i64 k.term, .int .i64 k.vote, .int .i64 k.snp.idx, .int .i64 k.snp.term, .slice A k.snp.v.length c, .slice B k.snp.l.length d, .string (text k.snp.b), .slice E k.ents.length n], .agg #[.int .i64 r.kind, .int .i64 r.term, .int .i64 r.vote, .int .i64 r.ent.idx, .int .i64 r.ent.term, .int .i64 r.ent.kind, .slice A1 r.ent.v.length c1, .slice B1 r.ent.l.length d1, .string (text r.ent.b), .int .i64 r.at_, .int .i64 r.snp.idx, .int .i64 r.snp.term, .slice A2 r.snp.v.length c2, .slice B2 r.snp.l.length d2, .string (text r.snp.b)]] w fun e w' => e = .returned (.bool true) ∧ Below w.heap.size w w' := by
  have HK := Lib.hid hK
  have HA := Lib.hid hA
  have HT := Lib.hid htk
  have HR := Lib.hid htr
  clear hK hA htk htr
  have HI : Hid ((Try.prog.info? 30).map (·.size) = some 8) := Lib.hid (by kernel_rfl)
  have HI2 : Hid ((Try.prog.info? 36).map (·.size) = some 15) := Lib.hid (by kernel_rfl)
  go_enter Try.func3, Try.ntmps3
  go_wp2_with fail
  refine at_world _ fun W hW => ?_
  obtain ⟨P0, P1, hbW, hsW⟩ := blk2x w 30 36 [.int .i64 k.term, .int .i64 k.vote, .int .i64 k.snp.idx, .int .i64 k.snp.term, .slice A k.snp.v.length c, .slice B k.snp.l.length d, .string (text k.snp.b), .slice E k.ents.length n] [.int .i64 r.kind, .int .i64 r.term, .int .i64 r.vote, .int .i64 r.ent.idx, .int .i64 r.ent.term, .int .i64 r.ent.kind, .slice A1 r.ent.v.length c1, .slice B1 r.ent.l.length d1, .string (text r.ent.b), .int .i64 r.at_, .int .i64 r.snp.idx, .int .i64 r.snp.term, .slice A2 r.snp.v.length c2, .slice B2 r.snp.l.length d2, .string (text r.snp.b)] W hW
  clear hW
  refine (large_any k r A c B d E n A1 c1 B1 d1 A2 c2 B2 d2 W ((HK.out.below hbW).more (by omega)) HT.out HR.out).mono ?_
  rintro e w1 ⟨b, rfl, hb0, hb⟩
  have R0 := Lib.hid (P0.below hb P0.lt)
  have R1 := Lib.hid (P1.below hb P1.lt)
  have HB1 : Hid (Below w.heap.size w w1) := Lib.hid (hbW.trans (hb.mono (by omega)))
  have HZ : Hid (w.heap.size + 1 + 1 ≤ w1.heap.size) := Lib.hid (by have := hb.size; omega)
  clear hb hbW hsW P0 P1
  cases b
  · obtain ⟨hn, hr, hs, he⟩ := hb0 rfl
    have HKS : Hid k.Small := Lib.hid ⟨⟨by unfold Snp.size at hs; omega, by unfold Snp.size at hs; omega⟩, by omega, fun x hx => by have := he x hx; unfold Ent.size at this; exact ⟨by omega, by omega⟩⟩
    have HS : Hid r.Small := Lib.hid (by unfold Rcd.size at hr; exact ⟨⟨by omega, by omega⟩, ⟨by omega, by omega⟩⟩)
    clear hb0 hn hr hs he HT HR
    go_wp2_with (with_reducible refine wpList_load_blk rfl 30 _ rfl w.heap.size rfl R0 (by simp) Try.underlying30 rfl HI ?_)
    refine (rOwn_any k A c B d E n w1 ((HK.out.below HB1.out).more (by have := HZ.out; omega)) HKS.out).mono ?_
    rintro e w2 ⟨A3, c3, B3, d3, E3, n3, rfl, ho, hb⟩
    have S0 := Lib.hid (R0.out.below hb R0.out.lt)
    have S1 := Lib.hid (R1.out.below hb R1.out.lt)
    have HB2 : Hid (Below w.heap.size w w2) := Lib.hid (HB1.out.trans (hb.mono (by have := HZ.out; omega)))
    have HO2 := Lib.hid (ho.at_.nw_more (b' := w.heap.size) (by have := HZ.out; omega))
    have HZ2 : Hid (w.heap.size + 1 + 1 ≤ w2.heap.size) := Lib.hid (by have := hb.size; have := HZ.out; omega)
    clear ho hb HB1 HZ R0 R1
    unfold Kep.cs
    obtain ⟨k', x, hf⟩ : ∃ k' x, foldP k r = (k', x) := ⟨_, _, rfl⟩
    have HF := Lib.hid hf
    clear hf
    go_wp2_with (first
      | (with_reducible refine wpList_load_blk rfl 30 _ rfl w.heap.size rfl (Lib.hid (S0.out.alloc _)) (by simp) Try.underlying30 rfl HI ?_)
      | (with_reducible refine wpList_load_blk rfl 36 _ rfl (w.heap.size + 1) rfl (Lib.hid (S1.out.alloc _)) (by simp) Try.underlying36 rfl HI2 ?_))
    refine at_world _ fun W3 hW => ?_
    have T0 : Hid (Blk W3 w.heap.size 30 [.int .i64 k.term, .int .i64 k.vote, .int .i64 k.snp.idx, .int .i64 k.snp.term, .slice A k.snp.v.length c, .slice B k.snp.l.length d, .string (text k.snp.b), .slice E k.ents.length n]) := Lib.hid (hW ▸ S0.out.alloc _)
    have T1 : Hid (Blk W3 (w.heap.size + 1) 36 [.int .i64 r.kind, .int .i64 r.term, .int .i64 r.vote, .int .i64 r.ent.idx, .int .i64 r.ent.term, .int .i64 r.ent.kind, .slice A1 r.ent.v.length c1, .slice B1 r.ent.l.length d1, .string (text r.ent.b), .int .i64 r.at_, .int .i64 r.snp.idx, .int .i64 r.snp.term, .slice A2 r.snp.v.length c2, .slice B2 r.snp.l.length d2, .string (text r.snp.b)]) := Lib.hid (hW ▸ S1.out.alloc _)
    have TO : Hid (Blk W3 w2.heap.size 30 [.int .i64 k.term, .int .i64 k.vote, .int .i64 k.snp.idx, .int .i64 k.snp.term, .slice A3 k.snp.v.length c3, .slice B3 k.snp.l.length d3, .string (text k.snp.b), .slice E3 k.ents.length n3]) := Lib.hid (hW ▸ Blk.new w2 30 [.int .i64 k.term, .int .i64 k.vote, .int .i64 k.snp.idx, .int .i64 k.snp.term, .slice A3 k.snp.v.length c3, .slice B3 k.snp.l.length d3, .string (text k.snp.b), .slice E3 k.ents.length n3])
    have HO3 : Hid (KepAt W3 (Nw W3 w.heap.size [34, 3]) k A3 B3 E3) := Lib.hid (by rw [hW]; exact HO2.out.nw_keeps (us := []) (Keeps.alloc _ _) (by simp))
    have HB3 : Hid (Below w.heap.size w W3) := Lib.hid (by rw [hW]; exact HB2.out.alloc (by have := HZ2.out; omega) _)
    have HZ3 : Hid (w.heap.size + 1 + 1 ≤ w2.heap.size ∧ w2.heap.size < W3.heap.size) := Lib.hid (by rw [hW]; have := HZ2.out; simp; omega)
    clear hW S0 S1 HO2 HB2 HZ2
    generalize w2.heap.size = go at *
    refine (Fold_at k r k' x HF.out A c B d E n A1 c1 B1 d1 A2 c2 B2 d2 W3 ((HK.out.below HB3.out).more (by have := HZ3.out; omega)) ((HA.out.below HB3.out).more (by have := HZ3.out; omega)) HKS.out HS.out).mono ?_
    rintro e w4 ⟨A4, c4, B4, d4, E4, n4, rfl, hk, hb⟩
    have U0 := Lib.hid (T0.out.below hb T0.out.lt)
    have U1 := Lib.hid (T1.out.below hb T1.out.lt)
    have UO := Lib.hid (TO.out.below hb TO.out.lt)
    have HO4 := Lib.hid (HO3.out.nw_keeps (us := []) (Keeps.of_below hb (Nat.le_refl _)) (by simp))
    have HB4 := Lib.hid hb
    have HX4 := Lib.hid hk
    clear hb hk T1
    go_wp2_with (first
      | (with_reducible refine wpList_load_blk rfl 30 _ rfl go rfl (Lib.hid (UO.out.alloc _)) (by simp) Try.underlying30 rfl HI ?_)
      | (with_reducible refine wpList_load_blk rfl 36 _ rfl (w.heap.size + 1) rfl (Lib.hid (U1.out.alloc _)) (by simp) Try.underlying36 rfl HI2 ?_))
    refine at_world _ fun W5 hW => ?_
    have V0 : Hid (Blk W5 w.heap.size 30 [.int .i64 k.term, .int .i64 k.vote, .int .i64 k.snp.idx, .int .i64 k.snp.term, .slice A k.snp.v.length c, .slice B k.snp.l.length d, .string (text k.snp.b), .slice E k.ents.length n]) := Lib.hid (hW ▸ U0.out.alloc _)
    have VO : Hid (Blk W5 go 30 [.int .i64 k.term, .int .i64 k.vote, .int .i64 k.snp.idx, .int .i64 k.snp.term, .slice A3 k.snp.v.length c3, .slice B3 k.snp.l.length d3, .string (text k.snp.b), .slice E3 k.ents.length n3]) := Lib.hid (hW ▸ UO.out.alloc _)
    have VX : Hid (Blk W5 w4.heap.size 30 [.int .i64 k'.term, .int .i64 k'.vote, .int .i64 k'.snp.idx, .int .i64 k'.snp.term, .slice A4 k'.snp.v.length c4, .slice B4 k'.snp.l.length d4, .string (text k'.snp.b), .slice E4 k'.ents.length n4]) := Lib.hid (hW ▸ Blk.new w4 30 [.int .i64 k'.term, .int .i64 k'.vote, .int .i64 k'.snp.idx, .int .i64 k'.snp.term, .slice A4 k'.snp.v.length c4, .slice B4 k'.snp.l.length d4, .string (text k'.snp.b), .slice E4 k'.ents.length n4])
    have HO5 : Hid (KepAt W5 (Nw W5 w.heap.size [34, 3]) k A3 B3 E3) := Lib.hid (by rw [hW]; exact HO4.out.nw_keeps (us := []) (Keeps.alloc _ _) (by simp))
    have HX5 : Hid (KepAt W5 (Nw W5 W3.heap.size [34, 3]) k' A4 B4 E4) := Lib.hid (by rw [hW]; exact HX4.out.nw_keeps (us := []) (Keeps.alloc _ _) (by simp))
    have HB5 : Hid (Below W3.heap.size W3 W5) := Lib.hid (by rw [hW]; exact HB4.out.alloc HB4.out.size _)
    have HZ5 : Hid (W3.heap.size ≤ w4.heap.size ∧ w4.heap.size < W5.heap.size) := Lib.hid (by rw [hW]; have := HB4.out.size; simp; omega)
    clear hW U0 U1 UO HO4 HX4 HB4
    generalize w4.heap.size = gx at *
    refine (rFold_at k r k' x HF.out A3 c3 B3 d3 E3 n3 A1 c1 B1 d1 A2 c2 B2 d2 W5 HO5.out.nw_lt ((HA.out.below (HB3.out.trans (HB5.out.mono (by have := HZ3.out; omega)))).more (by have := HZ3.out; have := HZ5.out; omega)) HKS.out HS.out).mono ?_
    rintro e w6 ⟨A6, c6, B6, d6, E6, n6, rfl, hk, hb⟩
    have S0 := Lib.hid (V0.out.below hb V0.out.lt)
    have SO := Lib.hid (VO.out.below hb VO.out.lt)
    have SX := Lib.hid (VX.out.below hb VX.out.lt)
    have HO6 := Lib.hid (HO5.out.nw_keeps (us := []) (Keeps.of_below hb (Nat.le_refl _)) (by simp))
    have HX6 := Lib.hid (HX5.out.nw_keeps (us := []) (Keeps.of_below hb (Nat.le_refl _)) (by simp))
    have HB6 : Hid (Below W3.heap.size W3 w6) := Lib.hid (HB5.out.trans (hb.mono (by have := HZ5.out; omega)))
    have HW6 := Lib.hid hk
    have HZ6 : Hid (W3.heap.size ≤ gx ∧ gx < w6.heap.size) := Lib.hid (by have := HZ5.out; have := hb.size; omega)
    clear hb hk V0 VO VX HO5 HX5 HB5 HZ5 HA
    have hgx : gx < w6.heap.size := HZ6.out.2
    have y0 : w6.cell? ⟨gx, 0, none⟩ = some (.int .i64 k'.term) := SX.out.cell 0
    have y1 : w6.cell? ⟨gx, 1, none⟩ = some (.int .i64 k'.vote) := SX.out.cell 1
    have y2 : w6.cell? ⟨gx, 2, none⟩ = some (.int .i64 k'.snp.idx) := SX.out.cell 2
    have y3 : w6.cell? ⟨gx, 3, none⟩ = some (.int .i64 k'.snp.term) := SX.out.cell 3
    have y4 : w6.cell? ⟨gx, 4, none⟩ = some (.slice A4 k'.snp.v.length c4) := SX.out.cell 4
    have y5 : w6.cell? ⟨gx, 5, none⟩ = some (.slice B4 k'.snp.l.length d4) := SX.out.cell 5
    have y6 : w6.cell? ⟨gx, 6, none⟩ = some (.string (text k'.snp.b)) := SX.out.cell 6
    have y7 : w6.cell? ⟨gx, 7, none⟩ = some (.slice E4 k'.ents.length n4) := SX.out.cell 7
    go_wp2_with fail
    refine at_world _ fun W7 hW => ?_
    have V0 : Hid (Blk W7 w.heap.size 30 [.int .i64 k.term, .int .i64 k.vote, .int .i64 k.snp.idx, .int .i64 k.snp.term, .slice A k.snp.v.length c, .slice B k.snp.l.length d, .string (text k.snp.b), .slice E k.ents.length n]) := Lib.hid (hW ▸ S0.out.alloc _)
    have VO : Hid (Blk W7 go 30 [.int .i64 k.term, .int .i64 k.vote, .int .i64 k.snp.idx, .int .i64 k.snp.term, .slice A3 k.snp.v.length c3, .slice B3 k.snp.l.length d3, .string (text k.snp.b), .slice E3 k.ents.length n3]) := Lib.hid (hW ▸ SO.out.alloc _)
    have VX : Hid (Blk W7 gx 30 [.int .i64 k'.term, .int .i64 k'.vote, .int .i64 k'.snp.idx, .int .i64 k'.snp.term, .slice A4 k'.snp.v.length c4, .slice B4 k'.snp.l.length d4, .string (text k'.snp.b), .slice E4 k'.ents.length n4]) := Lib.hid (hW ▸ SX.out.alloc _)
    have HO7 : Hid (KepAt W7 (Nw W7 w.heap.size [34, 3]) k A3 B3 E3) := Lib.hid (by rw [hW]; exact HO6.out.nw_keeps (us := []) (Keeps.alloc _ _) (by simp))
    have HX7 : Hid (KepAt W7 (Nw W7 W3.heap.size [34, 3]) k' A4 B4 E4) := Lib.hid (by rw [hW]; exact HX6.out.nw_keeps (us := []) (Keeps.alloc _ _) (by simp))
    have HW7 := Lib.hid (show KepAt W7 (· < W7.heap.size) k' A6 B6 E6 from by rw [hW]; exact (HW6.out.nw_keeps (us := []) (Keeps.alloc _ _) (by simp)).nw_lt)
    have HB7 : Hid (Below W3.heap.size W3 W7) := Lib.hid (by rw [hW]; exact HB6.out.alloc (by have := HZ6.out; omega) _)
    have HZ7 : Hid (W3.heap.size ≤ gx ∧ gx < W7.heap.size) := Lib.hid (by rw [hW]; have := HZ6.out; simp; omega)
    clear hW hgx y0 y1 y2 y3 y4 y5 y6 y7 S0 SO SX HO6 HX6 HW6 HB6 HZ6
    have HKX : Hid k'.Small := Lib.hid (foldP_small HKS.out HS.out HF.out)
    refine (Same_lit k' k' A4 c4 B4 d4 E4 n4 A6 c6 B6 d6 E6 n6 W7 HX7.out.nw_lt HW7.out HKX.out HKX.out).mono ?_
    rintro e w8 ⟨rfl, hb⟩
    have S0 := Lib.hid (V0.out.below hb V0.out.lt)
    have SO := Lib.hid (VO.out.below hb VO.out.lt)
    have SX := Lib.hid (VX.out.below hb VX.out.lt)
    have HX8 := Lib.hid (HX7.out.nw_keeps (us := []) (Keeps.of_below hb (Nat.le_refl _)) (by simp))
    have HB8 : Hid (Below W3.heap.size W3 w8) := Lib.hid (HB7.out.trans (hb.mono (by have := HZ7.out; omega)))
    have HZ8 : Hid (W3.heap.size ≤ gx ∧ gx < w8.heap.size) := Lib.hid (by have := HZ7.out; have := hb.size; omega)
    have HL : Hid (Loose w8 W3 W3.heap.size gx (Nw w8 W3.heap.size [34, 3]) E4 k'.ents.length A4 k'.snp.v.length [.int .i64 k'.term, .int .i64 k'.vote, .int .i64 k'.snp.idx, .int .i64 k'.snp.term, .slice A4 k'.snp.v.length c4, .slice B4 k'.snp.l.length d4, .string (text k'.snp.b), .slice E4 k'.ents.length n4]) :=
      Lib.hid ⟨LooseEnts.of HX8.out.e HKX.out.e, IntsAt.of HX8.out.v, fun a ha => ha.free, HB8.out, SX.out, fun q h => h.1, fun h => by
        obtain ⟨_, t, ht, cs, h⟩ := h
        have h2 := SX.out
        unfold Blk at h2
        rw [h2] at h
        injection h with h
        injection h with h3 h4
        subst h4
        simp at ht⟩
    generalize HSS : Nw w8 W3.heap.size [34, 3] = SS at HL
    clear HSS hb V0 VO VX HX7 HW7 HB7 HZ7 HX8 HO7 S0 SO SX HB8 HZ8
    have hm := HKX.out.n
    go_wp2_with fail
    go_loopw [11] (fun i wr => ∃ j : Nat, j ≤ k'.ents.length ∧ i = .int .i64 j ∧ Hid (Loose wr W3 W3.heap.size gx SS E4 k'.ents.length A4 k'.snp.v.length [.int .i64 k'.term, .int .i64 k'.vote, .int .i64 k'.snp.idx, .int .i64 k'.snp.term, .slice A4 k'.snp.v.length c4, .slice B4 k'.snp.l.length d4, .string (text k'.snp.b), .slice E4 k'.ents.length n4])) (fun i _ => k'.ents.length - (intOf i).toNat)
    case atStart => exact ⟨0, Nat.zero_le _, rfl, HL⟩
    case round =>
      clear HL
      obtain ⟨j, hj, rfl, HL⟩ := hrel
      have p7 : wr.cell? ⟨gx, 7, none⟩ = some (.slice E4 k'.ents.length n4) := HL.out.blk.cell 7
      by_cases hlt : j < k'.ents.length
      · obtain ⟨ad, rfl, hS, hE⟩ := HL.out.ents (by omega)
        obtain ⟨An, nn, cn, sn, hnn, c3', c5', hI⟩ := hE j hlt
        have hS5 : SS (⟨(ad.add (j * 6)).block, (ad.add (j * 6)).off + 5, none⟩ : Addr).block := by show SS (ad.add (j * 6)).block; rw [block_of_add]; exact hS
        have f5 : wr.frozen? ⟨(ad.add (j * 6)).block, (ad.add (j * 6)).off + 5, none⟩ = false := HL.out.fr _ hS5
        have HS5 := Lib.hid hS5
        have HI3 := Lib.hid hI
        clear hE hI hS hS5
        go_wp2_with fail
        go_loopw [12] (fun i wi => ∃ q : Nat, q ≤ nn ∧ i = .int .i64 q ∧ Hid (Loose wi W3 W3.heap.size gx SS (some ad) k'.ents.length A4 k'.snp.v.length [.int .i64 k'.term, .int .i64 k'.vote, .int .i64 k'.snp.idx, .int .i64 k'.snp.term, .slice A4 k'.snp.v.length c4, .slice B4 k'.snp.l.length d4, .string (text k'.snp.b), .slice (some ad) k'.ents.length n4]) ∧ Hid (wi.cell? ⟨(ad.add (j * 6)).block, (ad.add (j * 6)).off + 3, none⟩ = some (.slice An nn cn)) ∧ Hid (IntsAt wi SS An nn)) (fun i _ => nn - (intOf i).toNat)
        case atStart => exact ⟨0, Nat.zero_le _, rfl, Lib.hid (HL.out.set (.inr ⟨_, _, rfl, rfl⟩) c5' HS5.out), Lib.hid (SameKind.sl (.inr ⟨_, _, rfl, rfl⟩) c5' c3'), Lib.hid (HI3.out.set (.inr ⟨_, _, rfl, rfl⟩) c5')⟩
        case round =>
          clear HL c3' c5' HI3 HS5 f5 p7
          obtain ⟨q, hq, rfl, HL, HC3, HI3⟩ := hrel
          have p7 : wr.cell? ⟨gx, 7, none⟩ = some (.slice (some ad) k'.ents.length n4) := HL.out.blk.cell 7
          have c3' := HC3.out
          by_cases hlq : q < nn
          · obtain ⟨ad2, rfl, hS, hE⟩ := HI3.out (by omega)
            obtain ⟨z, hz⟩ := hE q hlq
            have hS2 : SS (ad2.add q).block := by rw [block_of_add]; exact hS
            have f2 := HL.out.fr _ hS2
            have HS2 := Lib.hid hS2
            clear hE hS hS2
            go_wp2_with fail
            go_roundw
            case rel => exact ⟨q + 1, by omega, by go_num, Lib.hid (HL.out.set (.inl ⟨_, _, rfl, rfl⟩) hz HS2.out), Lib.hid (SameKind.sl (.inl ⟨_, _, rfl, rfl⟩) hz HC3.out), Lib.hid (HI3.out.set (.inl ⟨_, _, rfl, rfl⟩) hz)⟩
            case measure => simp [intOf]; omega
          · go_wp2_with fail
            exact ⟨⟨j + 1, by omega, by go_num, HL⟩, by simp [intOf]; omega⟩
      · go_wp2_with fail
        go_loopw [13] (fun i wi => ∃ q : Nat, q ≤ k'.snp.v.length ∧ i = .int .i64 q ∧ Hid (Loose wi W3 W3.heap.size gx SS E4 k'.ents.length A4 k'.snp.v.length [.int .i64 k'.term, .int .i64 k'.vote, .int .i64 k'.snp.idx, .int .i64 k'.snp.term, .slice A4 k'.snp.v.length c4, .slice B4 k'.snp.l.length d4, .string (text k'.snp.b), .slice E4 k'.ents.length n4])) (fun i _ => k'.snp.v.length - (intOf i).toNat)
        case atStart => exact ⟨0, Nat.zero_le _, rfl, HL⟩
        case round =>
          clear HL p7
          obtain ⟨q, hq, rfl, HL⟩ := hrel
          have hmv := HKX.out.s.v
          have p4 : wr.cell? ⟨gx, 4, none⟩ = some (.slice A4 k'.snp.v.length c4) := HL.out.blk.cell 4
          by_cases hlq : q < k'.snp.v.length
          · obtain ⟨ad2, rfl, hS, hE⟩ := HL.out.snap (by omega)
            obtain ⟨z, hz⟩ := hE q hlq
            have hS2 : SS (ad2.add q).block := by rw [block_of_add]; exact hS
            have f2 := HL.out.fr _ hS2
            have HS2 := Lib.hid hS2
            clear hE hS hS2
            go_wp2_with fail
            go_roundw
            case rel => exact ⟨q + 1, by omega, by go_num, Lib.hid (HL.out.set (.inl ⟨_, _, rfl, rfl⟩) hz HS2.out)⟩
            case measure => simp [intOf]; omega
          · go_wp2_with fail
            refine (folds_any wr).mono ?_
            rintro e w9 ⟨rfl, hb⟩
            have HL9 : Hid (Below W3.heap.size W3 w9) := Lib.hid (HL.out.bel.trans (hb.mono HL.out.bel.size))
            have HB9 : Hid (Below w.heap.size w w9) := Lib.hid (HB3.out.trans (HL9.out.mono (by have := HZ3.out; omega)))
            have X0 := Lib.hid (T0.out.below HL9.out T0.out.lt)
            have XO := Lib.hid (TO.out.below HL9.out TO.out.lt)
            have HK9 : Hid (KepAt w9 (· < w9.heap.size) k A B E) := Lib.hid ((HK.out.below HB9.out).more HB9.out.size)
            have HO9 : Hid (KepAt w9 (· < w9.heap.size) k A3 B3 E3) := Lib.hid ((HO3.out.nw_lt.below HL9.out).more HL9.out.size)
            clear hb HL HL9 T0 TO HO3 HK p4
            have y0 : w9.cell? ⟨w.heap.size, 0, none⟩ = some (.int .i64 k.term) := X0.out.cell 0
            have y1 : w9.cell? ⟨w.heap.size, 1, none⟩ = some (.int .i64 k.vote) := X0.out.cell 1
            have y2 : w9.cell? ⟨w.heap.size, 2, none⟩ = some (.int .i64 k.snp.idx) := X0.out.cell 2
            have y3 : w9.cell? ⟨w.heap.size, 3, none⟩ = some (.int .i64 k.snp.term) := X0.out.cell 3
            have y4 : w9.cell? ⟨w.heap.size, 4, none⟩ = some (.slice A k.snp.v.length c) := X0.out.cell 4
            have y5 : w9.cell? ⟨w.heap.size, 5, none⟩ = some (.slice B k.snp.l.length d) := X0.out.cell 5
            have y6 : w9.cell? ⟨w.heap.size, 6, none⟩ = some (.string (text k.snp.b)) := X0.out.cell 6
            have y7 : w9.cell? ⟨w.heap.size, 7, none⟩ = some (.slice E k.ents.length n) := X0.out.cell 7
            have z0 : w9.cell? ⟨go, 0, none⟩ = some (.int .i64 k.term) := XO.out.cell 0
            have z1 : w9.cell? ⟨go, 1, none⟩ = some (.int .i64 k.vote) := XO.out.cell 1
            have z2 : w9.cell? ⟨go, 2, none⟩ = some (.int .i64 k.snp.idx) := XO.out.cell 2
            have z3 : w9.cell? ⟨go, 3, none⟩ = some (.int .i64 k.snp.term) := XO.out.cell 3
            have z4 : w9.cell? ⟨go, 4, none⟩ = some (.slice A3 k.snp.v.length c3) := XO.out.cell 4
            have z5 : w9.cell? ⟨go, 5, none⟩ = some (.slice B3 k.snp.l.length d3) := XO.out.cell 5
            have z6 : w9.cell? ⟨go, 6, none⟩ = some (.string (text k.snp.b)) := XO.out.cell 6
            have z7 : w9.cell? ⟨go, 7, none⟩ = some (.slice E3 k.ents.length n3) := XO.out.cell 7
            go_wp2_with fail
            refine (Same_lit k k A c B d E n A3 c3 B3 d3 E3 n3 w9 HK9.out HO9.out HKS.out HKS.out).mono ?_
            rintro e w10 ⟨rfl, hb⟩
            go_wp2_with fail
            go_ret
            exact ⟨by simp, HB9.out.trans (hb.mono HB9.out.size)⟩
  · go_wp2
    go_ret
    exact ⟨rfl, HB1.out⟩
end Go.Proofs.Ytkdmfjpfanmgmaa
