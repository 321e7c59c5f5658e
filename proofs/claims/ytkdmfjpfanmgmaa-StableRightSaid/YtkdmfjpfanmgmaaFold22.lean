/- The walk of stable's Fold. Printed by mkfold22.py. -/
import Derived.Test.YtkdmfjpfanmgmaaFold21
import Derived.Test.YtkdmfjpfanmgmaaFold12
import Derived.Deep.RegionLaw
namespace Go.Proofs.Ytkdmfjpfanmgmaa
open Go.RowKit Le
set_option maxRecDepth 100000
set_option linter.unusedSimpArgs false
set_option linter.unusedVariables false

theorem blk3w (w : World) (t0 t1 t2 : TypeId) (c0 c1 c2 : List Value) (W : World) (hW : W = ((w.alloc (.cells c0.toArray t0)).alloc (.cells c1.toArray t1)).alloc (.cells c2.toArray t2)) :
    Blk W w.heap.size t0 c0 ∧ Blk W (w.heap.size + 1) t1 c1 ∧ Blk W (w.heap.size + 1 + 1) t2 c2 ∧ Below w.heap.size w W ∧ W.heap.size = w.heap.size + 1 + 1 + 1 := by
  subst hW
  refine ⟨((Blk.new w t0 c0).alloc _).alloc _, ?_, ?_, ?_, by simp⟩
  · have h := (Blk.new (w.alloc (.cells c0.toArray t0)) t1 c1).alloc (.cells c2.toArray t2)
    simpa using h
  · have h := Blk.new ((w.alloc (.cells c0.toArray t0)).alloc (.cells c1.toArray t1)) t2 c2
    simpa using h
  · exact (by repeat (first | with_reducible exact (Below.refl w.heap.size w) | (with_reducible refine Below.setCell ?_ (by dsimp only; (first | omega | (simp; done) | (simp; omega))) _) | (with_reducible refine Below.alloc ?_ (by (first | omega | (simp; done) | (simp; omega))) _) | with_reducible refine Below.drew ?_))
/-- What a fold answers. -/
def FoldsEnd (w : World) (x : Kep × Nat) (e : Ending) (w' : World) : Prop :=
  ∃ A c B d E n, e = .returned (.tuple #[.agg (x.1.cs A c B d E n).toArray, .int .i64 x.2]) ∧ KepAt w' (Nw w' w.heap.size [34, 3]) x.1 A B E ∧ Below w.heap.size w w'
theorem Right.okK {k : Kep} (h : Right k) : OkK k := ⟨h.snp.idx, h.len⟩
theorem folded_lit (k : Kep) (r : Rcd) (A : Option Addr) (c : Nat) (B : Option Addr) (d : Nat) (E : Option Addr) (n : Nat) (A1 : Option Addr) (c1 : Nat) (B1 : Option Addr) (d1 : Nat) (A2 : Option Addr) (c2 : Nat) (B2 : Option Addr) (d2 : Nat) (base : Nat) (w : World) (hK : KepOwn w base k A B E n) (hbw : base ≤ w.heap.size) (hk : OkK k) (hA : RcdAt' w (· < base) r A1 B1 A2 B2) (hs : r.Small) (hR : rightP k = true) :
    Calls Try.prog 15 #[.agg #[.int .i64 k.term, .int .i64 k.vote, .int .i64 k.snp.idx, .int .i64 k.snp.term, .slice A k.snp.v.length c, .slice B k.snp.l.length d, .string (text k.snp.b), .slice E k.ents.length n], .agg #[.int .i64 r.kind, .int .i64 r.term, .int .i64 r.vote, .int .i64 r.ent.idx, .int .i64 r.ent.term, .int .i64 r.ent.kind, .slice A1 r.ent.v.length c1, .slice B1 r.ent.l.length d1, .string (text r.ent.b), .int .i64 r.at_, .int .i64 r.snp.idx, .int .i64 r.snp.term, .slice A2 r.snp.v.length c2, .slice B2 r.snp.l.length d2, .string (text r.snp.b)]] w fun e w' => ∃ k' A c B d E n, ∃ x : Nat, (k', x) = foldP k r ∧ e = .returned (.tuple #[.agg (k'.cs A c B d E n).toArray, .int .i64 x]) ∧ KepAt w' (Nw w' base [34, 3]) k' A B E ∧ Below base w w' := by
  have h := folded_any k r A c B d E n A1 c1 B1 d1 A2 c2 B2 d2 base w hK hbw hk hA hs
  unfold foldP
  rw [if_pos hR]
  exact h
theorem results_blk_tmp {P : Program} {fn : Func} {t u : Tmp} {ty : TypeId} (h : fn.results = #[.cell t ty, .tmp u]) (tmps : Array Value) (w : World) (b : Nat) (hb : tmps.getD t undef = .pointer (some ⟨b, 0, none⟩)) {t' : TypeId} {cs : List Value} (hB : Hid (Blk w b t' cs)) {n : Nat} (hn : cs.length = n) {d : TypeDesc}
    (hu : P.underlying ty = some d) (hd : d.isRow = true) (hi : Hid ((P.info? ty).map (·.size) = some n)) : (results fn tmps).run P w = .ok (.tuple #[.agg cs.toArray, tmps.getD u undef]) w := by
  have hl := run_loadVar_mid w b 0 ty cs d hB.out.range0 hu hd (hn ▸ hi.out)
  have hb' : tmps[t]?.getD undef = .pointer (some ⟨b, 0, none⟩) := by simpa using hb
  simp [results, h, hb', hl, asAddr]
/-- A store of a known block whole, as one step of a region that draws. -/
theorem step_store_blk {P : Program} {w : World} {ops : Array Oper} {o : Oper} {a : Act} {K : Act → World → Prop} {Q : Exit → Act → World → Prop} {E' : Prop} (hgd : o.guard = none) (ty : TypeId) (x y : Operand) (ho : o.op = .store ty x y)
    (b : Nat) (cs : List Value) (hx : a.eval x = .pointer (some ⟨b, 0, none⟩)) (hy : a.eval y = .agg cs.toArray) {t : TypeId} {cs0 : List Value} (hB : Hid (Blk w b t cs0)) {n : Nat} (hn0 : cs0.length = n) (hn : cs.length = n)
    (hi : Hid ((P.info? ty).map (·.size) = some n)) (h1 : ∀ v ∈ cs, v.oneCell' = true)
    (h : ∀ w', Hid (Stored w w' b t cs) → K (a.put o.dst undef) w') : if Region.wanted o (yielded ops a.tmps) = true then Oper.wp P o a w K Q else E' := by
  have hw : Region.wanted o (yielded ops a.tmps) = true := by simp [Region.wanted, hgd]
  rw [if_pos hw]
  refine wp_store_mid ty x y ho b 0 cs.toArray hx hy (hB.out.there 0 _ (by simp [hn0, hn])) (by rw [List.size_toArray, hn]; exact hi.out) (all_oneCell_toArray h1) (h _ (Lib.hid ?_))
  exact ⟨hB.out.setCells0 _ (by rw [hn0, hn]), fun k hk => setCells_far w b hk 0 _, setCells_size w b 0 _, hB.out.typ, below_setCells_ (Nat.le_refl _) 0 _⟩
theorem KepAt.nw_more {w : World} {b b' : Nat} {ts : List TypeId} {k : Kep} {A B E : Option Addr} (h : KepAt w (Nw w b ts) k A B E) (hb : b' ≤ b) : KepAt w (Nw w b' ts) k A B E :=
  ⟨h.v.nw_mono hb (fun _ h => h), h.l.nw_mono hb (fun _ h => h), h.e.nw_mono hb (fun _ h => h)⟩
theorem KepAt.nw_keeps {w w' : World} {b : Nat} {ts us : List TypeId} {k : Kep} {A B E : Option Addr} (h : KepAt w (Nw w b ts) k A B E) (hk : Keeps us w w') (hd : ∀ t, t ∈ ts → t ∉ us) : KepAt w' (Nw w' b ts) k A B E :=
  ⟨h.v.nw_keeps hk hd, h.l.nw_keeps hk hd, h.e.nw_keeps hk hd⟩

set_option maxHeartbeats 3200000 in
theorem Fold_any (k : Kep) (r : Rcd) (A : Option Addr) (c : Nat) (B : Option Addr) (d : Nat) (E : Option Addr) (n : Nat) (A1 : Option Addr) (c1 : Nat) (B1 : Option Addr) (d1 : Nat) (A2 : Option Addr) (c2 : Nat) (B2 : Option Addr) (d2 : Nat) (w : World) (hK : KepAt w (· < w.heap.size) k A B E) (hA : RcdAt' w (· < w.heap.size) r A1 B1 A2 B2) (hks : k.Small) (hs : r.Small) :
    Calls Try.prog 7 #[.agg (k.cs A c B d E n).toArray, .agg (r.cs A1 c1 B1 d1 A2 c2 B2 d2).toArray] w (FoldsEnd w (foldP k r)) := by
  unfold Kep.cs Rcd.cs
  have HK := Lib.hid hK
  have HA := Lib.hid hA
  have HKS := Lib.hid hks
  have HS := Lib.hid hs
  clear hK hA hs hks
  go_enter Try.func7, Try.ntmps7
  go_wp2_with fail
  refine at_world _ fun W hW => ?_
  obtain ⟨P0, P1, P2, hbW, hsW⟩ := blk3w w 30 36 30 [.int .i64 k.term, .int .i64 k.vote, .int .i64 k.snp.idx, .int .i64 k.snp.term, .slice A k.snp.v.length c, .slice B k.snp.l.length d, .string (text k.snp.b), .slice E k.ents.length n] [.int .i64 r.kind, .int .i64 r.term, .int .i64 r.vote, .int .i64 r.ent.idx, .int .i64 r.ent.term, .int .i64 r.ent.kind, .slice A1 r.ent.v.length c1, .slice B1 r.ent.l.length d1, .string (text r.ent.b), .int .i64 r.at_, .int .i64 r.snp.idx, .int .i64 r.snp.term, .slice A2 r.snp.v.length c2, .slice B2 r.snp.l.length d2, .string (text r.snp.b)] [.int .i64 0, .int .i64 0, .int .i64 0, .int .i64 0, .slice none 0 0, .slice none 0 0, .string ⟨#[]⟩, .slice none 0 0] W hW
  clear hW
  refine (right_any k A c B d E n W ((HK.out.below hbW).more (by omega)) HKS.out).mono ?_
  rintro e w1 ⟨rfl, hb⟩
  have R0 := Lib.hid (P0.below hb P0.lt)
  have R1 := Lib.hid (P1.below hb P1.lt)
  have R2 := Lib.hid (P2.below hb P2.lt)
  have HB1 : Hid (Below w.heap.size w w1) := Lib.hid (hbW.trans (hb.mono (by omega)))
  have HZ : Hid (w.heap.size + 1 + 1 + 1 ≤ w1.heap.size) := Lib.hid (by have := hb.size; omega)
  clear hb hbW hsW P0 P1 P2
  have HI : Hid ((Try.prog.info? 30).map (·.size) = some 8) := Lib.hid (by kernel_rfl)
  have HI2 : Hid ((Try.prog.info? 36).map (·.size) = some 15) := Lib.hid (by kernel_rfl)
  by_cases hr : rightP k = true
  · have HR := Lib.hid hr
    rw [hr]
    clear hr
    have HK1 : Hid (KepAt w1.drew (· < w1.drew.heap.size) k A B E) := Lib.hid ((HK.out.below HB1.out.drew).more (by have := HZ.out; simp; omega))
    have HA1 : Hid (RcdAt' w1 (· < w1.heap.size) r A1 B1 A2 B2) := Lib.hid ((HA.out.below HB1.out).more (by have := HZ.out; omega))
    clear HK HA
    go_wp2_with fail
    refine wp_region_held_drew (S := fun w' => w'.rangeAt w.heap.size 0 [.int .i64 k.term, .int .i64 k.vote, .int .i64 k.snp.idx, .int .i64 k.snp.term, .slice A k.snp.v.length c, .slice B k.snp.l.length d, .string (text k.snp.b), .slice E k.ents.length n] ∧ w'.rangeAt (w.heap.size + 1) 0 [.int .i64 r.kind, .int .i64 r.term, .int .i64 r.vote, .int .i64 r.ent.idx, .int .i64 r.ent.term, .int .i64 r.ent.kind, .slice A1 r.ent.v.length c1, .slice B1 r.ent.l.length d1, .string (text r.ent.b), .int .i64 r.at_, .int .i64 r.snp.idx, .int .i64 r.snp.term, .slice A2 r.snp.v.length c2, .slice B2 r.snp.l.length d2, .string (text r.snp.b)]) (by kernel_rfl) ⟨by simpa using R0.out.range0, by simpa using R1.out.range0⟩ (fun HD => ?_)
    refine wpAnyH_take (i := 0) (oi := ⟨some 10, _, _, _, _, _⟩) (v := _) rfl (by kernel_rfl) (by kernel_rfl) (by kernel_rfl) (fun _ _ _ h => h) (yieldsIf_load_mid (by rfl) _ _ rfl (w.heap.size) 0 rfl [.int .i64 k.term, .int .i64 k.vote, .int .i64 k.snp.idx, .int .i64 k.snp.term, .slice A k.snp.v.length c, .slice B k.snp.l.length d, .string (text k.snp.b), .slice E k.ents.length n] _ (fun _ h => h.1) Try.underlying30 rfl HI.out) HD ?_
    (try simp only [Act.put, List.setIfInBounds_toArray, List.set_cons_zero, List.set_cons_succ])
    refine wpAnyH_take (i := 2) (oi := ⟨some 12, _, _, _, _, _⟩) (v := _) rfl (by kernel_rfl) (by kernel_rfl) (by kernel_rfl) (fun _ _ _ h => h) (yieldsIf_load_mid (by rfl) _ _ rfl (w.heap.size + 1) 0 rfl [.int .i64 r.kind, .int .i64 r.term, .int .i64 r.vote, .int .i64 r.ent.idx, .int .i64 r.ent.term, .int .i64 r.ent.kind, .slice A1 r.ent.v.length c1, .slice B1 r.ent.l.length d1, .string (text r.ent.b), .int .i64 r.at_, .int .i64 r.snp.idx, .int .i64 r.snp.term, .slice A2 r.snp.v.length c2, .slice B2 r.snp.l.length d2, .string (text r.snp.b)] _ (fun _ h => h.2) Try.underlying36 rfl HI2.out) HD ?_
    (try simp only [Act.put, List.setIfInBounds_toArray, List.set_cons_zero, List.set_cons_succ])
    refine wpAnyH_ready (rs := [1]) (by kernel_rfl) (by simp) ?_
    refine AllReadyH.cons (o := ⟨some 11, _, _, _, _, _⟩) rfl (fun K hK => ?_) AllReadyH.nil
    go_simp
    go_at_call 16
    refine (own_any k A c B d E n w1.drew HK1.out HKS.out).mono ?_
    rintro e w2 ⟨A', c', B', d', E', n', rfl, ho, hb⟩
    have S0 := Lib.hid (R0.out.drew.below hb (by simpa using R0.out.lt))
    have S1 := Lib.hid (R1.out.drew.below hb (by simpa using R1.out.lt))
    have S2 := Lib.hid (R2.out.drew.below hb (by simpa using R2.out.lt))
    have HO := Lib.hid ho
    have HB2 : Hid (Below w.heap.size w w2) := Lib.hid (HB1.out.drew.trans (hb.mono (by have := HZ.out; simp; omega)))
    have HA2 : Hid (RcdAt' w2 (· < w1.drew.heap.size) r A1 B1 A2 B2) := Lib.hid (RcdAt'.below (w := w1.drew) (HA1.out.below (w' := w1.drew) (Below.refl _ _).drew) (by simpa using hb))
    have HZ2 : Hid (w1.drew.heap.size ≤ w2.heap.size) := Lib.hid hb.size
    clear ho hb HA1 HK1 HB1 R0 R1 R2
    unfold Kep.cs
    dsimp only
    refine hK.out _ _ ⟨S0.out.range0, S1.out.range0⟩ (fun HD => ?_)
    clear hK K
    (try simp only [Act.put, List.setIfInBounds_toArray, List.set_cons_zero, List.set_cons_succ])
    refine wpAnyH_ready (rs := [3]) (by kernel_rfl) (by simp) ?_
    refine AllReadyH.cons (o := ⟨some 13, _, _, _, _, _⟩) rfl (fun K hK => ?_) AllReadyH.nil
    go_simp
    go_at_call 15
    refine (folded_lit k r A' c' B' d' E' n' A1 c1 B1 d1 A2 c2 B2 d2 w1.drew.heap.size w2 HO.out HZ2.out ((rightP_iff k).1 HR.out).okK HA2.out HS.out HR.out).mono ?_
    rintro e w3 ⟨k', A3, c3, B3, d3, E3, n3, x, hx, rfl, hk, hb⟩
    have T0 := Lib.hid (S0.out.below hb (by have := HZ.out; simp; omega))
    have T1 := Lib.hid (S1.out.below hb (by have := HZ.out; simp; omega))
    have T2 := Lib.hid (S2.out.below hb (by have := HZ.out; simp; omega))
    have HX := Lib.hid hx
    have HK3 := Lib.hid hk
    have HB3 : Hid (Below w.heap.size w w3) := Lib.hid (HB2.out.trans (hb.mono (by have := HZ.out; simp; omega)))
    clear hx hk hb S0 S1 S2 HO HB2 HA2
    unfold Kep.cs
    dsimp only
    refine hK.out _ _ ⟨T0.out.range0, T1.out.range0⟩ (fun HD => ?_)
    clear hK K
    (try simp only [Act.put, List.setIfInBounds_toArray, List.set_cons_zero, List.set_cons_succ])
    refine wpAnyH_take (i := 4) (oi := ⟨some 14, _, _, _, _, _⟩) (v := ?_) rfl (by kernel_rfl) (by kernel_rfl) (by kernel_rfl) (fun _ _ _ h => h) (Or.inl ⟨by rfl, ?_⟩) HD ?_
    rotate_left
    · intro w hSw
      (try dsimp only at hSw)
      go_simp <;> with_reducible rfl
    (try simp only [Act.put, List.setIfInBounds_toArray, List.set_cons_zero, List.set_cons_succ])
    refine wpAnyH_take (i := 5) (oi := ⟨some 15, _, _, _, _, _⟩) (v := ?_) rfl (by kernel_rfl) (by kernel_rfl) (by kernel_rfl) (fun _ _ _ h => h) (Or.inl ⟨by rfl, ?_⟩) HD ?_
    rotate_left
    · intro w hSw
      (try dsimp only at hSw)
      go_simp <;> with_reducible rfl
    (try simp only [Act.put, List.setIfInBounds_toArray, List.set_cons_zero, List.set_cons_succ])
    refine wpAnyH_ready (rs := [6]) (by kernel_rfl) (by simp) ?_
    refine AllReadyH.cons (o := ⟨none, _, _, _, _, _⟩) rfl (fun K hK => ?_) AllReadyH.nil
    refine step_store_blk rfl 30 _ _ rfl (w.heap.size + 1 + 1) [.int .i64 k'.term, .int .i64 k'.vote, .int .i64 k'.snp.idx, .int .i64 k'.snp.term, .slice A3 k'.snp.v.length c3, .slice B3 k'.snp.l.length d3, .string (text k'.snp.b), .slice E3 k'.ents.length n3] rfl rfl T2 (by simp) (by simp) HI (by simp [Value.oneCell']) ?_
    intro w4 U
    have U0 := Lib.hid (U.out.other T0.out (by omega))
    have U1 := Lib.hid (U.out.other T1.out (by omega))
    dsimp only
    refine hK.out _ _ ⟨U0.out.range0, U1.out.range0⟩ (fun HD => ?_)
    clear hK K
    (try simp only [Act.put, List.setIfInBounds_toArray, List.set_cons_zero, List.set_cons_succ])
    refine wpAnyH_take (i := 7) (oi := ⟨some 5, _, _, _, _, _⟩) (v := ?_) rfl (by kernel_rfl) (by kernel_rfl) (by kernel_rfl) (fun _ _ _ h => h) (Or.inl ⟨by rfl, ?_⟩) HD ?_
    rotate_left
    · intro w hSw
      (try dsimp only at hSw)
      go_simp <;> with_reducible rfl
    (try simp only [Act.put, List.setIfInBounds_toArray, List.set_cons_zero, List.set_cons_succ])
    refine wpAnyH_done (by kernel_rfl) ?_ _
    go_wp2
    refine bodyPost_ret (results_blk_tmp rfl _ _ (w.heap.size + 1 + 1) rfl (Lib.hid U.out.blk) (by simp) Try.underlying30 rfl HI) rfl ?_
    unfold FoldsEnd
    rw [← HX.out]
    exact ⟨A3, c3, B3, d3, E3, n3, rfl, (HK3.out.nw_more (by have := HZ.out; simp; omega)).nw_keeps U.out.keeps (by decide), U.out.below HB3.out (by omega)⟩
  · have HR : Hid (rightP k = false) := Lib.hid (by simpa using hr)
    rw [HR.out]
    clear hr
    go_wp2_with (first
      | ((with_reducible refine wpList_store_blk rfl 30 _ _ rfl (w.heap.size + 1 + 1) [.int .i64 0, .int .i64 0, .int .i64 0, .int .i64 0, .slice none 0 0, .slice none 0 0, .string ⟨#[]⟩, .slice none 0 0] rfl rfl R2 (by simp) (by simp) HI (by simp [Value.oneCell']) ?_)
         intro w9 U))
    have U1 := Lib.hid U.out.blk
    refine bodyPost_ret (results_blk_tmp rfl _ _ (w.heap.size + 1 + 1) rfl U1 (by simp) Try.underlying30 rfl HI) rfl ?_
    unfold FoldsEnd
    exact ⟨none, 0, none, 0, none, 0, by simp [foldP, HR.out, Kep.cs, Kep.zero, Snp.zero, text], by simp only [foldP, HR.out]; exact ⟨RowsAt.nil, RowsAt.nil, RowsAt.nil⟩, U.out.below HB1.out (by omega)⟩
end Go.Proofs.Ytkdmfjpfanmgmaa
