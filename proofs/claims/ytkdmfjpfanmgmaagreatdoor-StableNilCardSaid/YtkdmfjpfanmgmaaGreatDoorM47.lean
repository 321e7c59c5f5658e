/- Joined by mkmerge.py from the proof's texts Stb9, Stb10, Stb11, Stb12. Conditions: each theorem's own hypotheses. -/
import Derived.Test.YtkdmfjpfanmgmaaGreatDoorM46
namespace Go.Proofs.YtkdmfjpfanmgmaaGreatDoor
open Go.RowKit Le Go.Maps
set_option maxRecDepth 100000
set_option linter.unusedSimpArgs false
set_option linter.unusedVariables false
/-- A struct is stored in the midst of a block, in a region that draws. -/
theorem step_store_at {P : Program} {w : World} {ops : Array Oper} {o : Oper} {a : Act} {K : Act → World → Prop} {Q : Exit → Act → World → Prop} {E' : Prop} (hgd : o.guard = none) (ty : TypeId) (x y : Operand) (ho : o.op = .store ty x y)
    (b q : Nat) (hx : a.eval x = .pointer (some ⟨b, q, none⟩)) {t : TypeId} {cs0 : List Value} (hB : Hid (Blk w b t cs0)) (pre old post cs : List Value) (he : cs0 = pre ++ (old ++ post)) (hp : pre.length = q) (hy : a.eval y = .agg cs.toArray) {n : Nat} (hn0 : old.length = n) (hn : cs.length = n)
    (hi : Hid ((P.info? ty).map (·.size) = some n)) (h1 : ∀ v ∈ cs, v.oneCell' = true)
    (h : ∀ w', Hid (Stored w w' b t (pre ++ (cs ++ post))) → K (a.put o.dst undef) w') : if Region.wanted o (yielded ops a.tmps) = true then Oper.wp P o a w K Q else E' := by
  have hw : Region.wanted o (yielded ops a.tmps) = true := by simp [Region.wanted, hgd]
  rw [if_pos hw]
  refine wp_store_mid ty x y ho b q cs.toArray hx hy (hB.out.there q _ (by simp [he, hp, hn0, hn])) (by rw [List.size_toArray, hn]; exact hi.out) (all_oneCell_toArray h1) (h _ (Lib.hid ?_))
  exact ⟨hB.out.setCells q cs pre old post he (by rw [hn0, hn]) hp rfl, fun k hk => setCells_far w b hk q _, setCells_size w b q _, hB.out.typ, below_setCells_ (Nat.le_refl _) q _⟩
theorem OpSt.jk {w w1 w2 : World} {base d : Nat} {sc ac : List Value} {S S' : DS} (h : OpSt w w1 base d sc ac S) (hd : DiskAt w2 base d S'.lasts S'.now S'.cs) (hb : Below base w1 w2) (hk : Keeps [80, 106, 96] w1 w2) : OpSt w w2 base d sc ac S' :=
  ⟨h.p.keeps hk (by decide), h.k.keeps hk (by decide), h.e.keeps hk (by decide), h.s.keeps hk (by decide), h.a.keeps hk (by decide), hd, h.ge, h.bel.trans hb, h.keeps.trans hk⟩
theorem OpSt.stS {w w1 w2 : World} {base d : Nat} {sc sc' ac : List Value} {S : DS} (h : OpSt w w1 base d sc ac S) (hs : Stored w1 w2 (w.heap.size + 1 + 1 + 1) 53 sc') : OpSt w w2 base d sc' ac S :=
  ⟨hs.other h.p (by omega), hs.other h.k (by omega), hs.other h.e (by omega), hs.blk, hs.other h.a (by omega), h.at_.same (same_stored h.s hs (by decide)), h.ge, hs.below h.bel (by have := h.ge; omega), h.keeps.below_new (hs.bel.mono (by omega))⟩
theorem stored_cell {w : World} {g : Nat} {t : TypeId} {cs : List Value} (h : Blk w g t cs) (i : Nat) (u : Value) : Stored w (w.setCell ⟨g, i, none⟩ u) g t (cs.set i u) :=
  ⟨h.set_ i u, fun k hk => Below.heap_setCell w ⟨g, i, none⟩ u k hk, by simp [World.setCell], h.typ, (Below.refl g w).setCell (p := ⟨g, i, none⟩) (Nat.le_refl _) u⟩
/-- What has been read besides. -/
structure RdAg (w' : World) (base d j0 j1 : Nat) (A3 B3 E3 : Option Addr) (L M : Nat) : Prop where
  kep : KepAt w' (Nw w' base [29, 3]) kF A3 B3 E3
  ge : base ≤ j0
  j : Blk w' j0 96 (jCs d nmA L M L 5 5)
theorem RdAg.below {w' w2 : World} {base d j0 j1 : Nat} {A3 B3 E3 : Option Addr} {L M : Nat} (h : RdAg w' base d j0 j1 A3 B3 E3 L M) (hb : Below w'.heap.size w' w2) : RdAg w2 base d j0 j1 A3 B3 E3 L M :=
  ⟨kep_nw_keeps h.kep (ts := []) (Keeps.of_below hb (Nat.le_refl _)) (by simp), h.ge, h.j.below hb h.j.lt⟩
theorem RdAg.keeps {ts : List TypeId} {w' w2 : World} {base d j0 j1 : Nat} {A3 B3 E3 : Option Addr} {L M : Nat} (h : RdAg w' base d j0 j1 A3 B3 E3 L M) (hk : Keeps ts w' w2) (h1 : ∀ t, t ∈ [29, 3] → t ∉ ts) (h2 : 96 ∉ ts) : RdAg w2 base d j0 j1 A3 B3 E3 L M :=
  ⟨kep_nw_keeps h.kep hk h1, h.ge, h.j.keeps hk h2⟩
/-- What has been told behind q rounds; the best. -/
def agOf (w' : World) (base d L M : Nat) : Nat → Int → List Value → Prop
  | 0, b, ac => b = -1 ∧ ac = [.pointer none, .int .i64 0, .bool false, .int .i64 0, .int .i64 0, .int .i64 0, .int .i64 0, .slice none 0 0, .slice none 0 0, .string ⟨#[]⟩, .slice none 0 0, .pointer none, .int .i64 0, .bool false, .int .i64 0, .int .i64 0, .int .i64 0, .int .i64 0, .slice none 0 0, .slice none 0 0, .string ⟨#[]⟩, .slice none 0 0]
  | 1, b, ac => b = 0 ∧ ∃ j0 A3 c3 B3 d3 E3 m3, ac = [.pointer (some ⟨j0, 0, none⟩), .int .i64 1, .bool true, .int .i64 2, .int .i64 1, .int .i64 0, .int .i64 0, .slice A3 0 c3, .slice B3 0 d3, .string ⟨#[]⟩, .slice E3 1 m3, .pointer none, .int .i64 0, .bool false, .int .i64 0, .int .i64 0, .int .i64 0, .int .i64 0, .slice none 0 0, .slice none 0 0, .string ⟨#[]⟩, .slice none 0 0] ∧ RdAg w' base d j0 0 A3 B3 E3 L M
  | _, b, ac => b = 0 ∧ ∃ j0 A3 c3 B3 d3 E3 m3 j1, ac = [.pointer (some ⟨j0, 0, none⟩), .int .i64 1, .bool true, .int .i64 2, .int .i64 1, .int .i64 0, .int .i64 0, .slice A3 0 c3, .slice B3 0 d3, .string ⟨#[]⟩, .slice E3 1 m3, .pointer (some ⟨j1, 0, none⟩), .int .i64 0, .bool false, .int .i64 0, .int .i64 0, .int .i64 0, .int .i64 0, .slice none 0 0, .slice none 0 0, .string ⟨#[]⟩, .slice none 0 0] ∧ RdAg w' base d j0 j1 A3 B3 E3 L M ∧ Blk w' j1 96 (jCs d nmB 0 0 0 0 0)
/-- What Open leaves. -/
def AgPost (w : World) (base d : Nat) (s0 : DS) (ns : List Nat) (e : Ending) (w' : World) : Prop := ∃ s j0 A2 c2 B2 d2 E2 n2 A3 c3 B3 d3 E3 m3, e = .returned (.tuple #[.pointer (some ⟨s, 0, none⟩), .agg #[.int .i64 2, .int .i64 1, .int .i64 0, .int .i64 0, .slice A2 0 c2, .slice B2 0 d2, .string ⟨#[]⟩, .slice E2 1 n2], .int .i64 0]) ∧ KepAt w' (· < w'.heap.size) kF A2 B2 E2 ∧ base ≤ s ∧ base ≤ j0 ∧ DiskAt w' base d s0.lasts s0.now s0.cs ∧ Blk w' s 53 [.pointer (some ⟨d, 0, none⟩), .pointer (some ⟨j0, 0, none⟩), .int .i64 0, .int .i64 1, .int .i64 2, .int .i64 1, .int .i64 0, .int .i64 0, .slice A3 0 c3, .slice B3 0 d3, .string ⟨#[]⟩, .slice E3 1 m3] ∧ KepAt w' (Nw w' base [29, 3]) kF A3 B3 E3 ∧ Blk w' j0 96 (jCs d nmA (logB ssB).length (markB ns).length (logB ssB).length 5 5) ∧ Below base w w' ∧ Keeps [80, 106, 96, 53] w w'
set_option maxHeartbeats 6400000 in
theorem sopen_again {w : World} {base d : Nat} {s0 : DS} {ns : List Nat} (h : DiskAt w base d s0.lasts s0.now s0.cs) (hbw : base ≤ w.heap.size) (hT : Tab w) (hN : NmAt w) (hTb : 3 < base) (hs0 : Small s0)
    (hL : (s0.now.get (nmA ++ endL)).getD [] = logB ssB) (hM : (s0.now.get (nmA ++ endM)).getD [] = markB ns) (hns : ∀ n ∈ ns, n ≤ 1000000000) (hlast : ns.getLastD 0 = (logB ssB).length) (hcs : s0.cs = []) (hsz : ∀ s ∈ ssB, s.length ≤ 1000) (hbL : s0.now.get (nmB ++ endL) = none) (hbM : s0.now.get (nmB ++ endM) = none) :
    Calls Tryz.prog 5 #[.pointer (some ⟨d, 0, none⟩)] w (AgPost w base d s0 ns) := by
  have HIT : Hid ((Tryz.prog.info? 55).map (·.size) = some 11) := Lib.hid (by kernel_rfl)
  have HIK : Hid ((Tryz.prog.info? 38).map (·.size) = some 8) := Lib.hid (by kernel_rfl)
  have H := Lib.hid h
  have HT := Lib.hid hT
  have HN := Lib.hid hN
  have HRF := Lib.hid (fun (wa : World) (a : DiskAt wa base d s0.lasts s0.now s0.cs) b (c : Tab wa) => read_full (w := wa) (name := nmA) (ns := ns) a b c hTb (by decide) (by decide) hs0 hL hM hns hlast hcs (by decide) (by decide) hsz)
  have HRE := Lib.hid (fun (wa : World) (a : DiskAt wa base d s0.lasts s0.now s0.cs) b (c : Tab wa) => read_empty (w := wa) (name := nmB) a b c hTb (by decide) (by decide) hs0 hbL hbM)
  have hgb : 0 < base := by omega
  have i0 : ∀ w, (Instr.index 57 (.agg #[.string (text nmA), .string (text nmB)]) (.int .i64 0)).run Tryz.prog w = .ok (.string (text nmA)) w := fun _ => by kernel_rfl
  have i1 : ∀ w, (Instr.index 57 (.agg #[.string (text nmA), .string (text nmB)]) (.int .i64 1)).run Tryz.prog w = .ok (.string (text nmB)) w := fun _ => by kernel_rfl
  have HKS : Hid kF.Small := Lib.hid ⟨⟨by decide, by decide⟩, by decide, fun x hx => by simp [kF] at hx; subst hx; exact ⟨by decide, by decide⟩⟩
  clear h hT hN hL hM hns hlast hcs hsz hbL hbM
  go_enter_defers Tryz.func5, Tryz.ntmps5
  go_wp2_with fail
  refine (Down_any (H.out.same (SameD.of_below (((Below.refl w.heap.size w).alloc (Nat.le_refl _) _).alloc (by simp) _ |>.alloc (by simp; omega) _)))).mono ?_
  rintro e w1 ⟨rfl, rfl⟩
  go_upto_region 10 with (fail)
  refine at_worldC _ fun W hW => ?_
  have HO0 := Lib.hid (sopn_start H.out hbw W hW)
  clear hW
  have HNW := Lib.hid (HN.out.below HO0.out.bel hgb)
  have n0 : W.cell? ⟨0, 0, none⟩ = some (.string (text nmA)) := HNW.out.1
  have n1 : W.cell? ⟨0, 1, none⟩ = some (.string (text nmB)) := HNW.out.2
  go_wp2_with fail
  clear n0 n1
  go_loopw [22, 5] (fun i b wr => ∃ (q : Nat) (z : Int) (ac : List Value), q ≤ 2 ∧ i = .int .i64 q ∧ b = .int .i64 z ∧ Hid (agOf wr base d (logB ssB).length (markB ns).length q z ac) ∧ Hid (OpSt w wr base d [.pointer (some ⟨d, 0, none⟩), .pointer none, .int .i64 0, .int .i64 0, .int .i64 0, .int .i64 0, .int .i64 0, .int .i64 0, .slice none 0 0, .slice none 0 0, .string ⟨#[]⟩, .slice none 0 0] ac s0)) (fun i _ _ => 2 - (intOf i).toNat)
  case atStart => exact ⟨0, -1, _, by omega, rfl, rfl, Lib.hid ⟨rfl, rfl⟩, HO0⟩
  case round =>
    obtain ⟨q, z, ac, hq, rfl, rfl, hac, HO⟩ := hrel
    replace hac := hac.out
    have hq2 : q = 0 ∨ q = 1 ∨ q = 2 := by omega
    rcases hq2 with rfl | rfl | rfl
    · obtain ⟨rfl, rfl⟩ := hac
      go_wp2_with fail
      refine (HRF.out wr HO.out.at_ HO.out.size (HT.out.below HO.out.bel (by omega))).mono ?_
      rintro e w1 ⟨j0, A3, c3, B3, d3, E3, m3, rfl, hka, hj0, hbj, hd1, hb1, hk1⟩
      rw [show (toldF j0 A3 c3 B3 d3 E3 m3).toArray = #[.pointer (some ⟨j0, 0, none⟩), .int .i64 1, .bool true, .int .i64 2, .int .i64 1, .int .i64 0, .int .i64 0, .slice A3 0 c3, .slice B3 0 d3, .string ⟨#[]⟩, .slice E3 1 m3] from rfl]
      have HO1 := Lib.hid (HO.out.jk hd1 hb1 hk1)
      have HA1 := Lib.hid HO1.out.a
      have HR1 : Hid (RdAg w1 base d j0 0 A3 B3 E3 (logB ssB).length (markB ns).length) := Lib.hid ⟨hka.nw_more HO.out.size, Nat.le_trans HO.out.size hj0, hbj⟩
      clear hka hj0 hbj hd1 hb1 hk1
      go_wp2_with (first
        | ((with_reducible refine wpList_store_at rfl 55 _ _ rfl (w.heap.size + 1 + 1 + 1 + 1) 0 rfl HA1 [] [.pointer none, .int .i64 0, .bool false, .int .i64 0, .int .i64 0, .int .i64 0, .int .i64 0, .slice none 0 0, .slice none 0 0, .string ⟨#[]⟩, .slice none 0 0] [.pointer none, .int .i64 0, .bool false, .int .i64 0, .int .i64 0, .int .i64 0, .int .i64 0, .slice none 0 0, .slice none 0 0, .string ⟨#[]⟩, .slice none 0 0] [.pointer (some ⟨j0, 0, none⟩), .int .i64 1, .bool true, .int .i64 2, .int .i64 1, .int .i64 0, .int .i64 0, .slice A3 0 c3, .slice B3 0 d3, .string ⟨#[]⟩, .slice E3 1 m3] rfl rfl rfl (by simp) (by simp) HIT (by simp [Value.oneCell']) ?_)
           intro w2 V)
        | fail)
      have HO2 : Hid (OpSt w w2 base d [.pointer (some ⟨d, 0, none⟩), .pointer none, .int .i64 0, .int .i64 0, .int .i64 0, .int .i64 0, .int .i64 0, .int .i64 0, .slice none 0 0, .slice none 0 0, .string ⟨#[]⟩, .slice none 0 0] [.pointer (some ⟨j0, 0, none⟩), .int .i64 1, .bool true, .int .i64 2, .int .i64 1, .int .i64 0, .int .i64 0, .slice A3 0 c3, .slice B3 0 d3, .string ⟨#[]⟩, .slice E3 1 m3, .pointer none, .int .i64 0, .bool false, .int .i64 0, .int .i64 0, .int .i64 0, .int .i64 0, .slice none 0 0, .slice none 0 0, .string ⟨#[]⟩, .slice none 0 0] s0) := Lib.hid (HO1.out.stA V.out)
      have HR2 := Lib.hid (HR1.out.keeps V.out.keeps (by decide) (by decide))
      clear HO1 HA1 V HR1
      have cf : w2.cell? ⟨w.heap.size + 1 + 1 + 1 + 1, 2, none⟩ = some (.bool true) := HO2.out.a.cell 2
      refine wp_region_noPanic ?_
      refine wp_region_held_drew (S := fun w' => w'.cell? ⟨w.heap.size + 1 + 1 + 1 + 1, 2, none⟩ = some (.bool true)) (by kernel_rfl) cf (fun HD => ?_)
      refine wpAnyH_take (i := 0) (oi := ⟨some 31, _, _, _, _, _⟩) (v := (.int .i64 0)) rfl (by kernel_rfl) (by kernel_rfl) (by kernel_rfl) (fun _ _ _ h => h) (Or.inl ⟨by rfl, ?_⟩) HD ?_
      · intro w' hw'
        (go_simp; try with_reducible rfl)
      (try simp only [Act.put, List.setIfInBounds_toArray, List.set_cons_zero, List.set_cons_succ])
      refine wpAnyH_take (i := 1) (oi := ⟨some 32, _, _, _, _, _⟩) (v := (.pointer (some ⟨w.heap.size + 1 + 1 + 1 + 1, 0, none⟩))) rfl (by kernel_rfl) (by kernel_rfl) (by kernel_rfl) (fun _ _ _ h => h) (Or.inl ⟨by rfl, ?_⟩) HD ?_
      · intro w' hw'
        (go_simp; try with_reducible rfl)
      (try simp only [Act.put, List.setIfInBounds_toArray, List.set_cons_zero, List.set_cons_succ])
      refine wpAnyH_take (i := 2) (oi := ⟨some 33, _, _, _, _, _⟩) (v := (.pointer (some ⟨w.heap.size + 1 + 1 + 1 + 1, 2, none⟩))) rfl (by kernel_rfl) (by kernel_rfl) (by kernel_rfl) (fun _ _ _ h => h) (Or.inl ⟨by rfl, ?_⟩) HD ?_
      · intro w' hw'
        (go_simp; try with_reducible rfl)
      (try simp only [Act.put, List.setIfInBounds_toArray, List.set_cons_zero, List.set_cons_succ])
      refine wpAnyH_take (i := 3) (oi := ⟨some 34, _, _, _, _, _⟩) (v := (.bool true)) rfl (by kernel_rfl) (by kernel_rfl) (by kernel_rfl) (fun _ _ _ h => h) (Or.inl ⟨by rfl, ?_⟩) HD ?_
      · intro w' hw'
        (go_simp; try with_reducible rfl)
      (try simp only [Act.put, List.setIfInBounds_toArray, List.set_cons_zero, List.set_cons_succ])
      refine wpAnyH_take (i := 4) (oi := ⟨some 35, _, _, _, _, _⟩) (v := (.bool true)) rfl (by kernel_rfl) (by kernel_rfl) (by kernel_rfl) (fun _ _ _ h => h) (Or.inl ⟨by rfl, ?_⟩) HD ?_
      · intro w' hw'
        (go_simp; try with_reducible rfl)
      (try simp only [Act.put, List.setIfInBounds_toArray, List.set_cons_zero, List.set_cons_succ])
      refine wpAnyH_take (i := 5) (oi := ⟨some 36, _, _, _, _, _⟩) (v := (.int .i64 (-1))) rfl (by kernel_rfl) (by kernel_rfl) (by kernel_rfl) (fun _ _ _ h => h) (Or.inl ⟨by rfl, ?_⟩) HD ?_
      · intro w' hw'
        (go_simp; try with_reducible rfl)
      (try simp only [Act.put, List.setIfInBounds_toArray, List.set_cons_zero, List.set_cons_succ])
      refine wpAnyH_take (i := 6) (oi := ⟨some 37, _, _, _, _, _⟩) (v := (.bool true)) rfl (by kernel_rfl) (by kernel_rfl) (by kernel_rfl) (fun _ _ _ h => h) (Or.inl ⟨by rfl, ?_⟩) HD ?_
      · intro w' hw'
        (go_simp; try with_reducible rfl)
      (try simp only [Act.put, List.setIfInBounds_toArray, List.set_cons_zero, List.set_cons_succ])
      refine wpAnyH_take (i := 7) (oi := ⟨some 38, _, _, _, _, _⟩) (v := (.bool true)) rfl (by kernel_rfl) (by kernel_rfl) (by kernel_rfl) (fun _ _ _ h => h) (Or.inl ⟨by rfl, ?_⟩) HD ?_
      · intro w' hw'
        (go_simp; try with_reducible rfl)
      (try simp only [Act.put, List.setIfInBounds_toArray, List.set_cons_zero, List.set_cons_succ])
      refine wpAnyH_take (i := 8) (oi := ⟨some 39, _, _, _, _, _⟩) (v := undef) rfl (by kernel_rfl) (by kernel_rfl) (by kernel_rfl) (fun _ _ _ h => h) (Or.inr ⟨by rfl, rfl⟩) HD ?_
      (try simp only [Act.put, List.setIfInBounds_toArray, List.set_cons_zero, List.set_cons_succ])
      refine wpAnyH_take (i := 9) (oi := ⟨some 40, _, _, _, _, _⟩) (v := undef) rfl (by kernel_rfl) (by kernel_rfl) (by kernel_rfl) (fun _ _ _ h => h) (Or.inr ⟨by rfl, rfl⟩) HD ?_
      (try simp only [Act.put, List.setIfInBounds_toArray, List.set_cons_zero, List.set_cons_succ])
      refine wpAnyH_take (i := 10) (oi := ⟨some 41, _, _, _, _, _⟩) (v := undef) rfl (by kernel_rfl) (by kernel_rfl) (by kernel_rfl) (fun _ _ _ h => h) (Or.inr ⟨by rfl, rfl⟩) HD ?_
      (try simp only [Act.put, List.setIfInBounds_toArray, List.set_cons_zero, List.set_cons_succ])
      refine wpAnyH_take (i := 11) (oi := ⟨some 42, _, _, _, _, _⟩) (v := undef) rfl (by kernel_rfl) (by kernel_rfl) (by kernel_rfl) (fun _ _ _ h => h) (Or.inr ⟨by rfl, rfl⟩) HD ?_
      (try simp only [Act.put, List.setIfInBounds_toArray, List.set_cons_zero, List.set_cons_succ])
      refine wpAnyH_take (i := 12) (oi := ⟨some 43, _, _, _, _, _⟩) (v := undef) rfl (by kernel_rfl) (by kernel_rfl) (by kernel_rfl) (fun _ _ _ h => h) (Or.inr ⟨by rfl, rfl⟩) HD ?_
      (try simp only [Act.put, List.setIfInBounds_toArray, List.set_cons_zero, List.set_cons_succ])
      refine wpAnyH_take (i := 13) (oi := ⟨some 44, _, _, _, _, _⟩) (v := undef) rfl (by kernel_rfl) (by kernel_rfl) (by kernel_rfl) (fun _ _ _ h => h) (Or.inr ⟨by rfl, rfl⟩) HD ?_
      (try simp only [Act.put, List.setIfInBounds_toArray, List.set_cons_zero, List.set_cons_succ])
      refine wpAnyH_take (i := 14) (oi := ⟨some 45, _, _, _, _, _⟩) (v := undef) rfl (by kernel_rfl) (by kernel_rfl) (by kernel_rfl) (fun _ _ _ h => h) (Or.inr ⟨by rfl, rfl⟩) HD ?_
      (try simp only [Act.put, List.setIfInBounds_toArray, List.set_cons_zero, List.set_cons_succ])
      refine wpAnyH_take (i := 15) (oi := ⟨some 46, _, _, _, _, _⟩) (v := undef) rfl (by kernel_rfl) (by kernel_rfl) (by kernel_rfl) (fun _ _ _ h => h) (Or.inr ⟨by rfl, rfl⟩) HD ?_
      (try simp only [Act.put, List.setIfInBounds_toArray, List.set_cons_zero, List.set_cons_succ])
      refine wpAnyH_take (i := 16) (oi := ⟨some 47, _, _, _, _, _⟩) (v := undef) rfl (by kernel_rfl) (by kernel_rfl) (by kernel_rfl) (fun _ _ _ h => h) (Or.inr ⟨by rfl, rfl⟩) HD ?_
      (try simp only [Act.put, List.setIfInBounds_toArray, List.set_cons_zero, List.set_cons_succ])
      refine wpAnyH_take (i := 17) (oi := ⟨some 48, _, _, _, _, _⟩) (v := (.bool true)) rfl (by kernel_rfl) (by kernel_rfl) (by kernel_rfl) (fun _ _ _ h => h) (Or.inl ⟨by rfl, ?_⟩) HD ?_
      · intro w' hw'
        (go_simp; try with_reducible rfl)
      (try simp only [Act.put, List.setIfInBounds_toArray, List.set_cons_zero, List.set_cons_succ])
      refine wpAnyH_take (i := 18) (oi := ⟨some 49, _, _, _, _, _⟩) (v := (.bool true)) rfl (by kernel_rfl) (by kernel_rfl) (by kernel_rfl) (fun _ _ _ h => h) (Or.inl ⟨by rfl, ?_⟩) HD ?_
      · intro w' hw'
        (go_simp; try with_reducible rfl)
      (try simp only [Act.put, List.setIfInBounds_toArray, List.set_cons_zero, List.set_cons_succ])
      refine wpAnyH_done (by kernel_rfl) (NoPanic.normal ?_) _
      clear HD cf
      have HO3 := Lib.hid HO2.out.drew
      have HR3 := Lib.hid (HR2.out.below (Below.refl _ w2).drew)
      go_wp2_with fail
      go_roundw
      case rel => exact ⟨1, 0, _, by omega, by go_num, by rfl, Lib.hid ⟨rfl, j0, A3, c3, B3, d3, E3, m3, rfl, HR3.out⟩, HO3⟩
      case measure => simp [intOf]
    · obtain ⟨rfl, j0, A3, c3, B3, d3, E3, m3, rfl, hra⟩ := hac
      have HRA := Lib.hid hra
      clear hra
      go_wp2_with fail
      refine (HRE.out wr HO.out.at_ HO.out.size (HT.out.below HO.out.bel (by omega))).mono ?_
      rintro e w1 ⟨j1, rfl, hj1, hbj, hb1⟩
      rw [show (toldE j1).toArray = #[.pointer (some ⟨j1, 0, none⟩), .int .i64 0, .bool false, .int .i64 0, .int .i64 0, .int .i64 0, .int .i64 0, .slice none 0 0, .slice none 0 0, .string ⟨#[]⟩, .slice none 0 0] from rfl]
      have HO1 := Lib.hid (HO.out.below hb1)
      have HA1 := Lib.hid HO1.out.a
      have HR1 := Lib.hid (HRA.out.below hb1)
      have HJ1 := Lib.hid hbj
      clear hj1 hb1 hbj HRA
      go_wp2_with (first
        | ((with_reducible refine wpList_store_at rfl 55 _ _ rfl (w.heap.size + 1 + 1 + 1 + 1) 11 rfl HA1 [.pointer (some ⟨j0, 0, none⟩), .int .i64 1, .bool true, .int .i64 2, .int .i64 1, .int .i64 0, .int .i64 0, .slice A3 0 c3, .slice B3 0 d3, .string ⟨#[]⟩, .slice E3 1 m3] [.pointer none, .int .i64 0, .bool false, .int .i64 0, .int .i64 0, .int .i64 0, .int .i64 0, .slice none 0 0, .slice none 0 0, .string ⟨#[]⟩, .slice none 0 0] [] [.pointer (some ⟨j1, 0, none⟩), .int .i64 0, .bool false, .int .i64 0, .int .i64 0, .int .i64 0, .int .i64 0, .slice none 0 0, .slice none 0 0, .string ⟨#[]⟩, .slice none 0 0] rfl rfl rfl (by simp) (by simp) HIT (by simp [Value.oneCell']) ?_)
           intro w2 V)
        | fail)
      have HO2 : Hid (OpSt w w2 base d [.pointer (some ⟨d, 0, none⟩), .pointer none, .int .i64 0, .int .i64 0, .int .i64 0, .int .i64 0, .int .i64 0, .int .i64 0, .slice none 0 0, .slice none 0 0, .string ⟨#[]⟩, .slice none 0 0] [.pointer (some ⟨j0, 0, none⟩), .int .i64 1, .bool true, .int .i64 2, .int .i64 1, .int .i64 0, .int .i64 0, .slice A3 0 c3, .slice B3 0 d3, .string ⟨#[]⟩, .slice E3 1 m3, .pointer (some ⟨j1, 0, none⟩), .int .i64 0, .bool false, .int .i64 0, .int .i64 0, .int .i64 0, .int .i64 0, .slice none 0 0, .slice none 0 0, .string ⟨#[]⟩, .slice none 0 0] s0) := Lib.hid (HO1.out.stA V.out)
      have HR2 := Lib.hid (HR1.out.keeps V.out.keeps (by decide) (by decide))
      have HJ2 := Lib.hid (HJ1.out.keeps V.out.keeps (by decide))
      clear HO1 HA1 V HR1 HJ1
      have cf : w2.cell? ⟨w.heap.size + 1 + 1 + 1 + 1, 13, none⟩ = some (.bool false) := HO2.out.a.cell 13
      refine wp_region_noPanic ?_
      refine wp_region_held_drew (S := fun w' => w'.cell? ⟨w.heap.size + 1 + 1 + 1 + 1, 13, none⟩ = some (.bool false)) (by kernel_rfl) cf (fun HD => ?_)
      refine wpAnyH_take (i := 0) (oi := ⟨some 31, _, _, _, _, _⟩) (v := (.int .i64 1)) rfl (by kernel_rfl) (by kernel_rfl) (by kernel_rfl) (fun _ _ _ h => h) (Or.inl ⟨by rfl, ?_⟩) HD ?_
      · intro w' hw'
        (go_simp; try with_reducible rfl)
      (try simp only [Act.put, List.setIfInBounds_toArray, List.set_cons_zero, List.set_cons_succ])
      refine wpAnyH_take (i := 1) (oi := ⟨some 32, _, _, _, _, _⟩) (v := (.pointer (some ⟨w.heap.size + 1 + 1 + 1 + 1, 11, none⟩))) rfl (by kernel_rfl) (by kernel_rfl) (by kernel_rfl) (fun _ _ _ h => h) (Or.inl ⟨by rfl, ?_⟩) HD ?_
      · intro w' hw'
        (go_simp; try with_reducible rfl)
      (try simp only [Act.put, List.setIfInBounds_toArray, List.set_cons_zero, List.set_cons_succ])
      refine wpAnyH_take (i := 2) (oi := ⟨some 33, _, _, _, _, _⟩) (v := (.pointer (some ⟨w.heap.size + 1 + 1 + 1 + 1, 13, none⟩))) rfl (by kernel_rfl) (by kernel_rfl) (by kernel_rfl) (fun _ _ _ h => h) (Or.inl ⟨by rfl, ?_⟩) HD ?_
      · intro w' hw'
        (go_simp; try with_reducible rfl)
      (try simp only [Act.put, List.setIfInBounds_toArray, List.set_cons_zero, List.set_cons_succ])
      refine wpAnyH_take (i := 3) (oi := ⟨some 34, _, _, _, _, _⟩) (v := (.bool false)) rfl (by kernel_rfl) (by kernel_rfl) (by kernel_rfl) (fun _ _ _ h => h) (Or.inl ⟨by rfl, ?_⟩) HD ?_
      · intro w' hw'
        (go_simp; try with_reducible rfl)
      (try simp only [Act.put, List.setIfInBounds_toArray, List.set_cons_zero, List.set_cons_succ])
      refine wpAnyH_take (i := 4) (oi := ⟨some 35, _, _, _, _, _⟩) (v := (.bool false)) rfl (by kernel_rfl) (by kernel_rfl) (by kernel_rfl) (fun _ _ _ h => h) (Or.inl ⟨by rfl, ?_⟩) HD ?_
      · intro w' hw'
        (go_simp; try with_reducible rfl)
      (try simp only [Act.put, List.setIfInBounds_toArray, List.set_cons_zero, List.set_cons_succ])
      refine wpAnyH_take (i := 5) (oi := ⟨some 36, _, _, _, _, _⟩) (v := undef) rfl (by kernel_rfl) (by kernel_rfl) (by kernel_rfl) (fun _ _ _ h => h) (Or.inr ⟨by rfl, rfl⟩) HD ?_
      (try simp only [Act.put, List.setIfInBounds_toArray, List.set_cons_zero, List.set_cons_succ])
      refine wpAnyH_take (i := 6) (oi := ⟨some 37, _, _, _, _, _⟩) (v := undef) rfl (by kernel_rfl) (by kernel_rfl) (by kernel_rfl) (fun _ _ _ h => h) (Or.inr ⟨by rfl, rfl⟩) HD ?_
      (try simp only [Act.put, List.setIfInBounds_toArray, List.set_cons_zero, List.set_cons_succ])
      refine wpAnyH_take (i := 7) (oi := ⟨some 38, _, _, _, _, _⟩) (v := undef) rfl (by kernel_rfl) (by kernel_rfl) (by kernel_rfl) (fun _ _ _ h => h) (Or.inr ⟨by rfl, rfl⟩) HD ?_
      (try simp only [Act.put, List.setIfInBounds_toArray, List.set_cons_zero, List.set_cons_succ])
      refine wpAnyH_take (i := 8) (oi := ⟨some 39, _, _, _, _, _⟩) (v := undef) rfl (by kernel_rfl) (by kernel_rfl) (by kernel_rfl) (fun _ _ _ h => h) (Or.inr ⟨by rfl, rfl⟩) HD ?_
      (try simp only [Act.put, List.setIfInBounds_toArray, List.set_cons_zero, List.set_cons_succ])
      refine wpAnyH_take (i := 9) (oi := ⟨some 40, _, _, _, _, _⟩) (v := undef) rfl (by kernel_rfl) (by kernel_rfl) (by kernel_rfl) (fun _ _ _ h => h) (Or.inr ⟨by rfl, rfl⟩) HD ?_
      (try simp only [Act.put, List.setIfInBounds_toArray, List.set_cons_zero, List.set_cons_succ])
      refine wpAnyH_take (i := 10) (oi := ⟨some 41, _, _, _, _, _⟩) (v := undef) rfl (by kernel_rfl) (by kernel_rfl) (by kernel_rfl) (fun _ _ _ h => h) (Or.inr ⟨by rfl, rfl⟩) HD ?_
      (try simp only [Act.put, List.setIfInBounds_toArray, List.set_cons_zero, List.set_cons_succ])
      refine wpAnyH_take (i := 11) (oi := ⟨some 42, _, _, _, _, _⟩) (v := undef) rfl (by kernel_rfl) (by kernel_rfl) (by kernel_rfl) (fun _ _ _ h => h) (Or.inr ⟨by rfl, rfl⟩) HD ?_
      (try simp only [Act.put, List.setIfInBounds_toArray, List.set_cons_zero, List.set_cons_succ])
      refine wpAnyH_take (i := 12) (oi := ⟨some 43, _, _, _, _, _⟩) (v := undef) rfl (by kernel_rfl) (by kernel_rfl) (by kernel_rfl) (fun _ _ _ h => h) (Or.inr ⟨by rfl, rfl⟩) HD ?_
      (try simp only [Act.put, List.setIfInBounds_toArray, List.set_cons_zero, List.set_cons_succ])
      refine wpAnyH_take (i := 13) (oi := ⟨some 44, _, _, _, _, _⟩) (v := undef) rfl (by kernel_rfl) (by kernel_rfl) (by kernel_rfl) (fun _ _ _ h => h) (Or.inr ⟨by rfl, rfl⟩) HD ?_
      (try simp only [Act.put, List.setIfInBounds_toArray, List.set_cons_zero, List.set_cons_succ])
      refine wpAnyH_take (i := 14) (oi := ⟨some 45, _, _, _, _, _⟩) (v := undef) rfl (by kernel_rfl) (by kernel_rfl) (by kernel_rfl) (fun _ _ _ h => h) (Or.inr ⟨by rfl, rfl⟩) HD ?_
      (try simp only [Act.put, List.setIfInBounds_toArray, List.set_cons_zero, List.set_cons_succ])
      refine wpAnyH_take (i := 15) (oi := ⟨some 46, _, _, _, _, _⟩) (v := undef) rfl (by kernel_rfl) (by kernel_rfl) (by kernel_rfl) (fun _ _ _ h => h) (Or.inr ⟨by rfl, rfl⟩) HD ?_
      (try simp only [Act.put, List.setIfInBounds_toArray, List.set_cons_zero, List.set_cons_succ])
      refine wpAnyH_take (i := 16) (oi := ⟨some 47, _, _, _, _, _⟩) (v := undef) rfl (by kernel_rfl) (by kernel_rfl) (by kernel_rfl) (fun _ _ _ h => h) (Or.inr ⟨by rfl, rfl⟩) HD ?_
      (try simp only [Act.put, List.setIfInBounds_toArray, List.set_cons_zero, List.set_cons_succ])
      refine wpAnyH_take (i := 17) (oi := ⟨some 48, _, _, _, _, _⟩) (v := undef) rfl (by kernel_rfl) (by kernel_rfl) (by kernel_rfl) (fun _ _ _ h => h) (Or.inr ⟨by rfl, rfl⟩) HD ?_
      (try simp only [Act.put, List.setIfInBounds_toArray, List.set_cons_zero, List.set_cons_succ])
      refine wpAnyH_take (i := 18) (oi := ⟨some 49, _, _, _, _, _⟩) (v := (.bool false)) rfl (by kernel_rfl) (by kernel_rfl) (by kernel_rfl) (fun _ _ _ h => h) (Or.inl ⟨by rfl, ?_⟩) HD ?_
      · intro w' hw'
        (go_simp; try with_reducible rfl)
      (try simp only [Act.put, List.setIfInBounds_toArray, List.set_cons_zero, List.set_cons_succ])
      refine wpAnyH_done (by kernel_rfl) (NoPanic.normal ?_) _
      clear HD cf
      have HO3 := Lib.hid HO2.out.drew
      have HR3 : Hid (RdAg w2.drew base d j0 j1 A3 B3 E3 (logB ssB).length (markB ns).length) := Lib.hid ⟨(HR2.out.below (Below.refl _ w2).drew).kep, HR2.out.ge, HR2.out.j.drew⟩
      have HJ3 := Lib.hid HJ2.out.drew
      go_wp2_with fail
      go_roundw
      case rel => exact ⟨2, 0, _, by omega, by go_num, by rfl, Lib.hid ⟨rfl, j0, A3, c3, B3, d3, E3, m3, j1, rfl, HR3.out, HJ3.out⟩, HO3⟩
      case measure => simp [intOf]
    · obtain ⟨rfl, j0, A3, c3, B3, d3, E3, m3, j1, rfl, hra, hj1⟩ := hac
      have HR := Lib.hid hra
      have HJ := Lib.hid hj1
      clear hra hj1 HRF HRE
      have ca : wr.cell? ⟨w.heap.size + 1 + 1 + 1 + 1, 11, none⟩ = some (.pointer (some ⟨j1, 0, none⟩)) := HO.out.a.cell 11
      go_wp2_with fail
      clear ca
      refine (jLen_any HJ.out).mono ?_
      rintro e w1 ⟨rfl, rfl⟩
      go_wp2_with fail
      refine wp_region_noPanic ?_
      refine wp_region_held_drew (S := fun w' => w'.cell? ⟨w.heap.size, 0, none⟩ = some (.pointer (some ⟨w.heap.size + 1 + 1 + 1, 0, none⟩)) ∧ w'.cell? ⟨w.heap.size + 1 + 1 + 1 + 1, 0, none⟩ = some (.pointer (some ⟨j0, 0, none⟩)) ∧ w'.cell? ⟨w.heap.size + 1 + 1 + 1 + 1, 1, none⟩ = some (.int .i64 1) ∧ w'.rangeAt (w.heap.size + 1 + 1 + 1 + 1) 3 [.int .i64 2, .int .i64 1, .int .i64 0, .int .i64 0, .slice A3 0 c3, .slice B3 0 d3, .string ⟨#[]⟩, .slice E3 1 m3]) (by kernel_rfl) ⟨HO.out.p.cell 0, HO.out.a.cell 0, HO.out.a.cell 1, HO.out.a.rangeMid (pre := [(.pointer (some ⟨j0, 0, none⟩)), .int .i64 1, .bool true]) (post := [.pointer (some ⟨j1, 0, none⟩), .int .i64 0, .bool false, .int .i64 0, .int .i64 0, .int .i64 0, .int .i64 0, .slice none 0 0, .slice none 0 0, .string ⟨#[]⟩, .slice none 0 0]) rfl⟩ (fun HD => ?_)
      refine wpAnyH_take (i := 0) (oi := ⟨some 72, _, _, _, _, _⟩) (v := (.pointer (some ⟨w.heap.size + 1 + 1 + 1, 0, none⟩))) rfl (by kernel_rfl) (by kernel_rfl) (by kernel_rfl) (fun _ _ _ h => h) (Or.inl ⟨by rfl, ?_⟩) HD ?_
      · intro w' hw'
        (go_simp; try with_reducible rfl)
      (try simp only [Act.put, List.setIfInBounds_toArray, List.set_cons_zero, List.set_cons_succ])
      refine wpAnyH_take (i := 1) (oi := ⟨some 73, _, _, _, _, _⟩) (v := (.pointer (some ⟨w.heap.size + 1 + 1 + 1, 0, none⟩))) rfl (by kernel_rfl) (by kernel_rfl) (by kernel_rfl) (fun _ _ _ h => h) (Or.inl ⟨by rfl, ?_⟩) HD ?_
      · intro w' hw'
        (go_simp; try with_reducible rfl)
      (try simp only [Act.put, List.setIfInBounds_toArray, List.set_cons_zero, List.set_cons_succ])
      refine wpAnyH_take (i := 2) (oi := ⟨some 74, _, _, _, _, _⟩) (v := (.pointer (some ⟨w.heap.size + 1 + 1 + 1, 0, none⟩))) rfl (by kernel_rfl) (by kernel_rfl) (by kernel_rfl) (fun _ _ _ h => h) (Or.inl ⟨by rfl, ?_⟩) HD ?_
      · intro w' hw'
        (go_simp; try with_reducible rfl)
      (try simp only [Act.put, List.setIfInBounds_toArray, List.set_cons_zero, List.set_cons_succ])
      refine wpAnyH_take (i := 3) (oi := ⟨some 75, _, _, _, _, _⟩) (v := (.pointer (some ⟨w.heap.size + 1 + 1 + 1, 0, none⟩))) rfl (by kernel_rfl) (by kernel_rfl) (by kernel_rfl) (fun _ _ _ h => h) (Or.inl ⟨by rfl, ?_⟩) HD ?_
      · intro w' hw'
        (go_simp; try with_reducible rfl)
      (try simp only [Act.put, List.setIfInBounds_toArray, List.set_cons_zero, List.set_cons_succ])
      refine wpAnyH_take (i := 4) (oi := ⟨some 76, _, _, _, _, _⟩) (v := (.int .i64 0)) rfl (by kernel_rfl) (by kernel_rfl) (by kernel_rfl) (fun _ _ _ h => h) (Or.inl ⟨by rfl, ?_⟩) HD ?_
      · intro w' hw'
        (go_simp; try with_reducible rfl)
      (try simp only [Act.put, List.setIfInBounds_toArray, List.set_cons_zero, List.set_cons_succ])
      refine wpAnyH_take (i := 5) (oi := ⟨some 77, _, _, _, _, _⟩) (v := (.pointer (some ⟨w.heap.size + 1 + 1 + 1 + 1, 0, none⟩))) rfl (by kernel_rfl) (by kernel_rfl) (by kernel_rfl) (fun _ _ _ h => h) (Or.inl ⟨by rfl, ?_⟩) HD ?_
      · intro w' hw'
        (go_simp; try with_reducible rfl)
      (try simp only [Act.put, List.setIfInBounds_toArray, List.set_cons_zero, List.set_cons_succ])
      refine wpAnyH_take (i := 6) (oi := ⟨some 78, _, _, _, _, _⟩) (v := (.pointer (some ⟨w.heap.size + 1 + 1 + 1 + 1, 0, none⟩))) rfl (by kernel_rfl) (by kernel_rfl) (by kernel_rfl) (fun _ _ _ h => h) (Or.inl ⟨by rfl, ?_⟩) HD ?_
      · intro w' hw'
        (go_simp; try with_reducible rfl)
      (try simp only [Act.put, List.setIfInBounds_toArray, List.set_cons_zero, List.set_cons_succ])
      refine wpAnyH_take (i := 7) (oi := ⟨some 79, _, _, _, _, _⟩) (v := (.pointer (some ⟨j0, 0, none⟩))) rfl (by kernel_rfl) (by kernel_rfl) (by kernel_rfl) (fun _ _ _ h => h) (Or.inl ⟨by rfl, ?_⟩) HD ?_
      · intro w' hw'
        (go_simp; try with_reducible rfl)
      (try simp only [Act.put, List.setIfInBounds_toArray, List.set_cons_zero, List.set_cons_succ])
      refine wpAnyH_take (i := 8) (oi := ⟨some 80, _, _, _, _, _⟩) (v := (.int .i64 0)) rfl (by kernel_rfl) (by kernel_rfl) (by kernel_rfl) (fun _ _ _ h => h) (Or.inl ⟨by rfl, ?_⟩) HD ?_
      · intro w' hw'
        (go_simp; try with_reducible rfl)
      (try simp only [Act.put, List.setIfInBounds_toArray, List.set_cons_zero, List.set_cons_succ])
      refine wpAnyH_take (i := 9) (oi := ⟨some 81, _, _, _, _, _⟩) (v := (.int .i64 0)) rfl (by kernel_rfl) (by kernel_rfl) (by kernel_rfl) (fun _ _ _ h => h) (Or.inl ⟨by rfl, ?_⟩) HD ?_
      · intro w' hw'
        (go_simp; try with_reducible rfl)
      (try simp only [Act.put, List.setIfInBounds_toArray, List.set_cons_zero, List.set_cons_succ])
      refine wpAnyH_take (i := 10) (oi := ⟨some 82, _, _, _, _, _⟩) (v := (.pointer (some ⟨w.heap.size + 1 + 1 + 1 + 1, 0, none⟩))) rfl (by kernel_rfl) (by kernel_rfl) (by kernel_rfl) (fun _ _ _ h => h) (Or.inl ⟨by rfl, ?_⟩) HD ?_
      · intro w' hw'
        (go_simp; try with_reducible rfl)
      (try simp only [Act.put, List.setIfInBounds_toArray, List.set_cons_zero, List.set_cons_succ])
      refine wpAnyH_take (i := 11) (oi := ⟨some 83, _, _, _, _, _⟩) (v := (.pointer (some ⟨w.heap.size + 1 + 1 + 1 + 1, 1, none⟩))) rfl (by kernel_rfl) (by kernel_rfl) (by kernel_rfl) (fun _ _ _ h => h) (Or.inl ⟨by rfl, ?_⟩) HD ?_
      · intro w' hw'
        (go_simp; try with_reducible rfl)
      (try simp only [Act.put, List.setIfInBounds_toArray, List.set_cons_zero, List.set_cons_succ])
      refine wpAnyH_take (i := 12) (oi := ⟨some 84, _, _, _, _, _⟩) (v := (.int .i64 1)) rfl (by kernel_rfl) (by kernel_rfl) (by kernel_rfl) (fun _ _ _ h => h) (Or.inl ⟨by rfl, ?_⟩) HD ?_
      · intro w' hw'
        (go_simp; try with_reducible rfl)
      (try simp only [Act.put, List.setIfInBounds_toArray, List.set_cons_zero, List.set_cons_succ])
      refine wpAnyH_take (i := 13) (oi := ⟨some 85, _, _, _, _, _⟩) (v := (.int .i64 0)) rfl (by kernel_rfl) (by kernel_rfl) (by kernel_rfl) (fun _ _ _ h => h) (Or.inl ⟨by rfl, ?_⟩) HD ?_
      · intro w' hw'
        (go_simp; try with_reducible rfl)
      (try simp only [Act.put, List.setIfInBounds_toArray, List.set_cons_zero, List.set_cons_succ])
      refine wpAnyH_take (i := 14) (oi := ⟨some 86, _, _, _, _, _⟩) (v := (.pointer (some ⟨w.heap.size + 1 + 1 + 1 + 1, 0, none⟩))) rfl (by kernel_rfl) (by kernel_rfl) (by kernel_rfl) (fun _ _ _ h => h) (Or.inl ⟨by rfl, ?_⟩) HD ?_
      · intro w' hw'
        (go_simp; try with_reducible rfl)
      (try simp only [Act.put, List.setIfInBounds_toArray, List.set_cons_zero, List.set_cons_succ])
      refine wpAnyH_take (i := 15) (oi := ⟨some 87, _, _, _, _, _⟩) (v := (.pointer (some ⟨w.heap.size + 1 + 1 + 1 + 1, 3, none⟩))) rfl (by kernel_rfl) (by kernel_rfl) (by kernel_rfl) (fun _ _ _ h => h) (Or.inl ⟨by rfl, ?_⟩) HD ?_
      · intro w' hw'
        (go_simp; try with_reducible rfl)
      (try simp only [Act.put, List.setIfInBounds_toArray, List.set_cons_zero, List.set_cons_succ])
      refine wpAnyH_take (i := 16) (oi := ⟨some 88, _, _, _, _, _⟩) (v := _) rfl (by kernel_rfl) (by kernel_rfl) (by kernel_rfl) (fun _ _ _ h => h) (yieldsIf_load_mid (by rfl) _ _ rfl (w.heap.size + 1 + 1 + 1 + 1) 3 rfl [.int .i64 2, .int .i64 1, .int .i64 0, .int .i64 0, .slice A3 0 c3, .slice B3 0 d3, .string ⟨#[]⟩, .slice E3 1 m3] _ (fun _ h => h.2.2.2) Tryz.underlying38 rfl HIK.out) HD ?_
      (try simp only [Act.put, List.setIfInBounds_toArray, List.set_cons_zero, List.set_cons_succ])
      have HO20 := Lib.hid HO.out.drew
      have HR20 := Lib.hid (HR.out.below (Below.refl _ wr).drew)
      clear HO HR HJ
      generalize wr.drew = v0 at *
      refine wpAnyH_take (i := 17) (oi := ⟨some 89, _, _, _, _, _⟩) (v := (.pointer (some ⟨w.heap.size + 1 + 1 + 1, 0, none⟩))) rfl (by kernel_rfl) (by kernel_rfl) (by kernel_rfl) (fun _ _ _ h => h) (Or.inl ⟨by rfl, ?_⟩) HD ?_
      · intro w' hw'
        (go_simp; try with_reducible rfl)
      (try simp only [Act.put, List.setIfInBounds_toArray, List.set_cons_zero, List.set_cons_succ])
      refine wpAnyH_take (i := 18) (oi := ⟨some 90, _, _, _, _, _⟩) (v := (.pointer (some ⟨w.heap.size + 1 + 1 + 1, 1, none⟩))) rfl (by kernel_rfl) (by kernel_rfl) (by kernel_rfl) (fun _ _ _ h => h) (Or.inl ⟨by rfl, ?_⟩) HD ?_
      · intro w' hw'
        (go_simp; try with_reducible rfl)
      (try simp only [Act.put, List.setIfInBounds_toArray, List.set_cons_zero, List.set_cons_succ])
      have q1 : v0.cell? ⟨w.heap.size + 1 + 1 + 1, 1, none⟩ = some (.pointer none) := HO20.out.s.cell 1
      have q2 : v0.frozen? ⟨w.heap.size + 1 + 1 + 1, 1, none⟩ = false := HO20.out.s.frozen 1
      refine wpAnyH_ready (rs := [19]) (by kernel_rfl) (by simp) ?_
      refine AllReadyH.cons (o := ⟨none, _, _, _, _, _⟩) rfl (fun K hK => ?_) AllReadyH.nil
      go_simp
      have HO21 := Lib.hid (HO20.out.stS (stored_cell HO20.out.s 1 (.pointer (some ⟨j0, 0, none⟩))))
      have HR21 := Lib.hid (HR20.out.keeps (stored_cell HO20.out.s 1 (.pointer (some ⟨j0, 0, none⟩))).keeps (by decide) (by decide))
      clear q1 q2 HD HO20 HR20
      generalize v0.setCell ⟨w.heap.size + 1 + 1 + 1, 1, none⟩ (.pointer (some ⟨j0, 0, none⟩)) = v1 at *
      refine hK.out _ _ ⟨HO21.out.p.cell 0, HO21.out.a.cell 0, HO21.out.a.cell 1, HO21.out.a.rangeMid (pre := [(.pointer (some ⟨j0, 0, none⟩)), .int .i64 1, .bool true]) (post := [.pointer (some ⟨j1, 0, none⟩), .int .i64 0, .bool false, .int .i64 0, .int .i64 0, .int .i64 0, .int .i64 0, .slice none 0 0, .slice none 0 0, .string ⟨#[]⟩, .slice none 0 0]) rfl⟩ (fun HD => ?_)
      clear hK K
      (try simp only [Act.put, List.setIfInBounds_toArray, List.set_cons_zero, List.set_cons_succ])
      refine wpAnyH_take (i := 20) (oi := ⟨some 91, _, _, _, _, _⟩) (v := (.pointer (some ⟨w.heap.size + 1 + 1 + 1, 0, none⟩))) rfl (by kernel_rfl) (by kernel_rfl) (by kernel_rfl) (fun _ _ _ h => h) (Or.inl ⟨by rfl, ?_⟩) HD ?_
      · intro w' hw'
        (go_simp; try with_reducible rfl)
      (try simp only [Act.put, List.setIfInBounds_toArray, List.set_cons_zero, List.set_cons_succ])
      refine wpAnyH_take (i := 21) (oi := ⟨some 92, _, _, _, _, _⟩) (v := (.pointer (some ⟨w.heap.size + 1 + 1 + 1, 2, none⟩))) rfl (by kernel_rfl) (by kernel_rfl) (by kernel_rfl) (fun _ _ _ h => h) (Or.inl ⟨by rfl, ?_⟩) HD ?_
      · intro w' hw'
        (go_simp; try with_reducible rfl)
      (try simp only [Act.put, List.setIfInBounds_toArray, List.set_cons_zero, List.set_cons_succ])
      have q1 : v1.cell? ⟨w.heap.size + 1 + 1 + 1, 2, none⟩ = some (.int .i64 0) := HO21.out.s.cell 2
      have q2 : v1.frozen? ⟨w.heap.size + 1 + 1 + 1, 2, none⟩ = false := HO21.out.s.frozen 2
      refine wpAnyH_ready (rs := [22]) (by kernel_rfl) (by simp) ?_
      refine AllReadyH.cons (o := ⟨none, _, _, _, _, _⟩) rfl (fun K hK => ?_) AllReadyH.nil
      go_simp
      have HO22 := Lib.hid (HO21.out.stS (stored_cell HO21.out.s 2 (.int .i64 0)))
      have HR22 := Lib.hid (HR21.out.keeps (stored_cell HO21.out.s 2 (.int .i64 0)).keeps (by decide) (by decide))
      clear q1 q2 HD HO21 HR21
      generalize v1.setCell ⟨w.heap.size + 1 + 1 + 1, 2, none⟩ (.int .i64 0) = v2 at *
      refine hK.out _ _ ⟨HO22.out.p.cell 0, HO22.out.a.cell 0, HO22.out.a.cell 1, HO22.out.a.rangeMid (pre := [(.pointer (some ⟨j0, 0, none⟩)), .int .i64 1, .bool true]) (post := [.pointer (some ⟨j1, 0, none⟩), .int .i64 0, .bool false, .int .i64 0, .int .i64 0, .int .i64 0, .int .i64 0, .slice none 0 0, .slice none 0 0, .string ⟨#[]⟩, .slice none 0 0]) rfl⟩ (fun HD => ?_)
      clear hK K
      (try simp only [Act.put, List.setIfInBounds_toArray, List.set_cons_zero, List.set_cons_succ])
      refine wpAnyH_take (i := 23) (oi := ⟨some 93, _, _, _, _, _⟩) (v := (.pointer (some ⟨w.heap.size + 1 + 1 + 1, 0, none⟩))) rfl (by kernel_rfl) (by kernel_rfl) (by kernel_rfl) (fun _ _ _ h => h) (Or.inl ⟨by rfl, ?_⟩) HD ?_
      · intro w' hw'
        (go_simp; try with_reducible rfl)
      (try simp only [Act.put, List.setIfInBounds_toArray, List.set_cons_zero, List.set_cons_succ])
      refine wpAnyH_take (i := 24) (oi := ⟨some 94, _, _, _, _, _⟩) (v := (.pointer (some ⟨w.heap.size + 1 + 1 + 1, 3, none⟩))) rfl (by kernel_rfl) (by kernel_rfl) (by kernel_rfl) (fun _ _ _ h => h) (Or.inl ⟨by rfl, ?_⟩) HD ?_
      · intro w' hw'
        (go_simp; try with_reducible rfl)
      (try simp only [Act.put, List.setIfInBounds_toArray, List.set_cons_zero, List.set_cons_succ])
      have q1 : v2.cell? ⟨w.heap.size + 1 + 1 + 1, 3, none⟩ = some (.int .i64 0) := HO22.out.s.cell 3
      have q2 : v2.frozen? ⟨w.heap.size + 1 + 1 + 1, 3, none⟩ = false := HO22.out.s.frozen 3
      refine wpAnyH_ready (rs := [25]) (by kernel_rfl) (by simp) ?_
      refine AllReadyH.cons (o := ⟨none, _, _, _, _, _⟩) rfl (fun K hK => ?_) AllReadyH.nil
      go_simp
      have HO23 := Lib.hid (HO22.out.stS (stored_cell HO22.out.s 3 (.int .i64 1)))
      have HR23 := Lib.hid (HR22.out.keeps (stored_cell HO22.out.s 3 (.int .i64 1)).keeps (by decide) (by decide))
      clear q1 q2 HD HO22 HR22
      generalize v2.setCell ⟨w.heap.size + 1 + 1 + 1, 3, none⟩ (.int .i64 1) = v3 at *
      refine hK.out _ _ ⟨HO23.out.p.cell 0, HO23.out.a.cell 0, HO23.out.a.cell 1, HO23.out.a.rangeMid (pre := [(.pointer (some ⟨j0, 0, none⟩)), .int .i64 1, .bool true]) (post := [.pointer (some ⟨j1, 0, none⟩), .int .i64 0, .bool false, .int .i64 0, .int .i64 0, .int .i64 0, .int .i64 0, .slice none 0 0, .slice none 0 0, .string ⟨#[]⟩, .slice none 0 0]) rfl⟩ (fun HD => ?_)
      clear hK K
      (try simp only [Act.put, List.setIfInBounds_toArray, List.set_cons_zero, List.set_cons_succ])
      refine wpAnyH_take (i := 26) (oi := ⟨some 95, _, _, _, _, _⟩) (v := (.pointer (some ⟨w.heap.size + 1 + 1 + 1, 0, none⟩))) rfl (by kernel_rfl) (by kernel_rfl) (by kernel_rfl) (fun _ _ _ h => h) (Or.inl ⟨by rfl, ?_⟩) HD ?_
      · intro w' hw'
        (go_simp; try with_reducible rfl)
      (try simp only [Act.put, List.setIfInBounds_toArray, List.set_cons_zero, List.set_cons_succ])
      refine wpAnyH_take (i := 27) (oi := ⟨some 96, _, _, _, _, _⟩) (v := (.pointer (some ⟨w.heap.size + 1 + 1 + 1, 4, none⟩))) rfl (by kernel_rfl) (by kernel_rfl) (by kernel_rfl) (fun _ _ _ h => h) (Or.inl ⟨by rfl, ?_⟩) HD ?_
      · intro w' hw'
        (go_simp; try with_reducible rfl)
      (try simp only [Act.put, List.setIfInBounds_toArray, List.set_cons_zero, List.set_cons_succ])
      have HSS : Hid (Blk v3 (w.heap.size + 1 + 1 + 1) 53 ([.pointer (some ⟨d, 0, none⟩), .pointer (some ⟨j0, 0, none⟩), .int .i64 0, .int .i64 1] ++ ([.int .i64 0, .int .i64 0, .int .i64 0, .int .i64 0, .slice none 0 0, .slice none 0 0, .string ⟨#[]⟩, .slice none 0 0] ++ []))) := Lib.hid HO23.out.s
      refine wpAnyH_ready (rs := [28]) (by kernel_rfl) (by simp) ?_
      refine AllReadyH.cons (o := ⟨none, _, _, _, _, _⟩) rfl (fun K hK => ?_) AllReadyH.nil
      refine step_store_at rfl 38 _ _ rfl (w.heap.size + 1 + 1 + 1) 4 (by rfl) HSS [.pointer (some ⟨d, 0, none⟩), .pointer (some ⟨j0, 0, none⟩), .int .i64 0, .int .i64 1] [.int .i64 0, .int .i64 0, .int .i64 0, .int .i64 0, .slice none 0 0, .slice none 0 0, .string ⟨#[]⟩, .slice none 0 0] [] [.int .i64 2, .int .i64 1, .int .i64 0, .int .i64 0, .slice A3 0 c3, .slice B3 0 d3, .string ⟨#[]⟩, .slice E3 1 m3] rfl rfl (by rfl) (by simp) (by simp) HIK (by simp [Value.oneCell']) ?_
      intro v4 V4
      have HO24 : Hid (OpSt w v4 base d [.pointer (some ⟨d, 0, none⟩), .pointer (some ⟨j0, 0, none⟩), .int .i64 0, .int .i64 1, .int .i64 2, .int .i64 1, .int .i64 0, .int .i64 0, .slice A3 0 c3, .slice B3 0 d3, .string ⟨#[]⟩, .slice E3 1 m3] [.pointer (some ⟨j0, 0, none⟩), .int .i64 1, .bool true, .int .i64 2, .int .i64 1, .int .i64 0, .int .i64 0, .slice A3 0 c3, .slice B3 0 d3, .string ⟨#[]⟩, .slice E3 1 m3, .pointer (some ⟨j1, 0, none⟩), .int .i64 0, .bool false, .int .i64 0, .int .i64 0, .int .i64 0, .int .i64 0, .slice none 0 0, .slice none 0 0, .string ⟨#[]⟩, .slice none 0 0] s0) := Lib.hid (HO23.out.stS V4.out)
      have HR24 := Lib.hid (HR23.out.keeps V4.out.keeps (by decide) (by decide))
      clear HD HO23 HR23 HSS V4
      (try dsimp only)
      refine hK.out _ _ ⟨HO24.out.p.cell 0, HO24.out.a.cell 0, HO24.out.a.cell 1, HO24.out.a.rangeMid (pre := [(.pointer (some ⟨j0, 0, none⟩)), .int .i64 1, .bool true]) (post := [.pointer (some ⟨j1, 0, none⟩), .int .i64 0, .bool false, .int .i64 0, .int .i64 0, .int .i64 0, .int .i64 0, .slice none 0 0, .slice none 0 0, .string ⟨#[]⟩, .slice none 0 0]) rfl⟩ (fun HD => ?_)
      clear hK K
      (try simp only [Act.put, List.setIfInBounds_toArray, List.set_cons_zero, List.set_cons_succ])
      refine wpAnyH_done (by kernel_rfl) (NoPanic.normal ?_) _
      clear HD
      go_wp2_with fail
      refine wp_region_noPanic ?_
      refine wp_region_held_drew (S := fun w' => w'.cell? ⟨w.heap.size, 0, none⟩ = some (.pointer (some ⟨w.heap.size + 1 + 1 + 1, 0, none⟩)) ∧ w'.rangeAt (w.heap.size + 1 + 1 + 1) 4 [.int .i64 2, .int .i64 1, .int .i64 0, .int .i64 0, .slice A3 0 c3, .slice B3 0 d3, .string ⟨#[]⟩, .slice E3 1 m3]) (by kernel_rfl) ⟨HO24.out.p.cell 0, HO24.out.s.rangeMid (pre := [.pointer (some ⟨d, 0, none⟩), .pointer (some ⟨j0, 0, none⟩), .int .i64 0, .int .i64 1]) (post := []) rfl⟩ (fun HD => ?_)
      refine wpAnyH_take (i := 0) (oi := ⟨some 97, _, _, _, _, _⟩) (v := (.pointer (some ⟨w.heap.size + 1 + 1 + 1, 0, none⟩))) rfl (by kernel_rfl) (by kernel_rfl) (by kernel_rfl) (fun _ _ _ h => h) (Or.inl ⟨by rfl, ?_⟩) HD ?_
      · intro w' hw'
        (go_simp; try with_reducible rfl)
      (try simp only [Act.put, List.setIfInBounds_toArray, List.set_cons_zero, List.set_cons_succ])
      refine wpAnyH_take (i := 1) (oi := ⟨some 98, _, _, _, _, _⟩) (v := (.pointer (some ⟨w.heap.size + 1 + 1 + 1, 0, none⟩))) rfl (by kernel_rfl) (by kernel_rfl) (by kernel_rfl) (fun _ _ _ h => h) (Or.inl ⟨by rfl, ?_⟩) HD ?_
      · intro w' hw'
        (go_simp; try with_reducible rfl)
      (try simp only [Act.put, List.setIfInBounds_toArray, List.set_cons_zero, List.set_cons_succ])
      refine wpAnyH_take (i := 2) (oi := ⟨some 99, _, _, _, _, _⟩) (v := (.pointer (some ⟨w.heap.size + 1 + 1 + 1, 0, none⟩))) rfl (by kernel_rfl) (by kernel_rfl) (by kernel_rfl) (fun _ _ _ h => h) (Or.inl ⟨by rfl, ?_⟩) HD ?_
      · intro w' hw'
        (go_simp; try with_reducible rfl)
      (try simp only [Act.put, List.setIfInBounds_toArray, List.set_cons_zero, List.set_cons_succ])
      refine wpAnyH_take (i := 3) (oi := ⟨some 100, _, _, _, _, _⟩) (v := (.pointer (some ⟨w.heap.size + 1 + 1 + 1, 4, none⟩))) rfl (by kernel_rfl) (by kernel_rfl) (by kernel_rfl) (fun _ _ _ h => h) (Or.inl ⟨by rfl, ?_⟩) HD ?_
      · intro w' hw'
        (go_simp; try with_reducible rfl)
      (try simp only [Act.put, List.setIfInBounds_toArray, List.set_cons_zero, List.set_cons_succ])
      refine wpAnyH_take (i := 4) (oi := ⟨some 101, _, _, _, _, _⟩) (v := _) rfl (by kernel_rfl) (by kernel_rfl) (by kernel_rfl) (fun _ _ _ h => h) (yieldsIf_load_mid (by rfl) _ _ rfl (w.heap.size + 1 + 1 + 1) 4 rfl [.int .i64 2, .int .i64 1, .int .i64 0, .int .i64 0, .slice A3 0 c3, .slice B3 0 d3, .string ⟨#[]⟩, .slice E3 1 m3] _ (fun _ h => h.2) Tryz.underlying38 rfl HIK.out) HD ?_
      (try simp only [Act.put, List.setIfInBounds_toArray, List.set_cons_zero, List.set_cons_succ])
      refine wpAnyH_ready (rs := [5]) (by kernel_rfl) (by simp) ?_
      refine AllReadyH.cons (o := ⟨some 102, _, _, _, _, _⟩) rfl (fun K hK => ?_) AllReadyH.nil
      go_simp
      go_at_call 20
      have HO25 := Lib.hid HO24.out.drew
      have HR25 := Lib.hid (HR24.out.below (Below.refl _ v4).drew)
      refine (own_any kF A3 c3 B3 d3 E3 m3 v4.drew HR25.out.kep.nw_lt HKS.out).mono ?_
      rintro e v5 ⟨A2, c2, B2, d2, E2, n2, rfl, hown, hb5⟩
      rw [show (kF.cs A2 c2 B2 d2 E2 n2).toArray = #[.int .i64 2, .int .i64 1, .int .i64 0, .int .i64 0, .slice A2 0 c2, .slice B2 0 d2, .string ⟨#[]⟩, .slice E2 1 n2] from rfl]
      have HO26 := Lib.hid (HO25.out.below hb5)
      have HR26 := Lib.hid (HR25.out.below hb5)
      have HKO := Lib.hid hown.at_
      clear hown hb5 HO24 HO25 HR24 HR25
      refine hK.out _ _ ⟨HO26.out.p.cell 0, HO26.out.s.rangeMid (pre := [.pointer (some ⟨d, 0, none⟩), .pointer (some ⟨j0, 0, none⟩), .int .i64 0, .int .i64 1]) (post := []) rfl⟩ (fun HD => ?_)
      clear hK K
      (try simp only [Act.put, List.setIfInBounds_toArray, List.set_cons_zero, List.set_cons_succ])
      have q1 : v5.cell? ⟨w.heap.size, 0, none⟩ = some (.pointer (some ⟨w.heap.size + 1 + 1 + 1, 0, none⟩)) := HO26.out.p.cell 0
      have q2 : v5.frozen? ⟨w.heap.size, 0, none⟩ = false := HO26.out.p.frozen 0
      refine wpAnyH_ready (rs := [6]) (by kernel_rfl) (by simp) ?_
      refine AllReadyH.cons (o := ⟨none, _, _, _, _, _⟩) rfl (fun K hK => ?_) AllReadyH.nil
      go_simp
      have ST6 := Lib.hid (stored_cell HO26.out.p 0 (.pointer (some ⟨w.heap.size + 1 + 1 + 1, 0, none⟩)))
      have HP7 := Lib.hid ST6.out.blk
      have HK7 := Lib.hid (ST6.out.other HO26.out.k (by omega))
      have HE7 := Lib.hid (ST6.out.other HO26.out.e (by omega))
      have HS7 := Lib.hid (ST6.out.other HO26.out.s (by omega))
      have HD7 := Lib.hid (HO26.out.at_.same (same_stored HO26.out.p ST6.out (by decide)))
      have HR7 := Lib.hid (HR26.out.keeps ST6.out.keeps (by decide) (by decide))
      have HO7 := Lib.hid (kep_nw_keeps HKO.out ST6.out.keeps (by decide))
      have HB7 := Lib.hid (ST6.out.below (Below.refl w.heap.size v5) (Nat.le_refl _))
      have HBL := Lib.hid HO26.out.bel
      have HKL := Lib.hid HO26.out.keeps
      have hz5 := HBL.out.size
      have hz7 := ST6.out.size
      clear q1 q2 HD HO26 HR26 HKO ST6
      generalize v5.setCell ⟨w.heap.size, 0, none⟩ (.pointer (some ⟨w.heap.size + 1 + 1 + 1, 0, none⟩)) = v6 at *
      refine hK.out _ _ ⟨HP7.out.cell 0, HS7.out.rangeMid (pre := [.pointer (some ⟨d, 0, none⟩), .pointer (some ⟨j0, 0, none⟩), .int .i64 0, .int .i64 1]) (post := []) rfl⟩ (fun HD => ?_)
      clear hK K
      (try simp only [Act.put, List.setIfInBounds_toArray, List.set_cons_zero, List.set_cons_succ])
      refine wpAnyH_ready (rs := [7]) (by kernel_rfl) (by simp) ?_
      refine AllReadyH.cons (o := ⟨none, _, _, _, _, _⟩) rfl (fun K hK => ?_) AllReadyH.nil
      refine step_store_blk rfl 38 _ _ rfl (w.heap.size + 1) [.int .i64 2, .int .i64 1, .int .i64 0, .int .i64 0, .slice A2 0 c2, .slice B2 0 d2, .string ⟨#[]⟩, .slice E2 1 n2] (by rfl) (by rfl) HK7 (by simp) (by simp) HIK (by simp [Value.oneCell']) ?_
      intro v7 V
      have HP8 := Lib.hid (V.out.other HP7.out (by omega))
      have HE8 := Lib.hid (V.out.other HE7.out (by omega))
      have HS8 := Lib.hid (V.out.other HS7.out (by omega))
      have HK8 := Lib.hid V.out.blk
      have HD8 := Lib.hid (HD7.out.same (same_stored HK7.out V.out (by decide)))
      have HR8 := Lib.hid (HR7.out.keeps V.out.keeps (by decide) (by decide))
      have HO8 := Lib.hid (kep_nw_keeps HO7.out V.out.keeps (by decide))
      have HB8 := Lib.hid (V.out.below HB7.out (by omega))
      have hz8 := V.out.size
      clear HD HP7 HE7 HS7 HK7 HD7 HR7 HO7 HB7 V
      (try dsimp only)
      refine hK.out _ _ ⟨HP8.out.cell 0, HS8.out.rangeMid (pre := [.pointer (some ⟨d, 0, none⟩), .pointer (some ⟨j0, 0, none⟩), .int .i64 0, .int .i64 1]) (post := []) rfl⟩ (fun HD => ?_)
      clear hK K
      (try simp only [Act.put, List.setIfInBounds_toArray, List.set_cons_zero, List.set_cons_succ])
      have q1 : v7.cell? ⟨w.heap.size + 1 + 1, 0, none⟩ = some (.int .i64 0) := HE8.out.cell 0
      have q2 : v7.frozen? ⟨w.heap.size + 1 + 1, 0, none⟩ = false := HE8.out.frozen 0
      refine wpAnyH_ready (rs := [8]) (by kernel_rfl) (by simp) ?_
      refine AllReadyH.cons (o := ⟨none, _, _, _, _, _⟩) rfl (fun K hK => ?_) AllReadyH.nil
      go_simp
      have ST8 := Lib.hid (stored_cell HE8.out 0 (.int .i64 0))
      have HP9 := Lib.hid (ST8.out.other HP8.out (by omega))
      have HK9 := Lib.hid (ST8.out.other HK8.out (by omega))
      have HS9 := Lib.hid (ST8.out.other HS8.out (by omega))
      have HE9 := Lib.hid ST8.out.blk
      have HD9 := Lib.hid (HD8.out.same (same_stored HE8.out ST8.out (by decide)))
      have HR9 := Lib.hid (HR8.out.keeps ST8.out.keeps (by decide) (by decide))
      have HO9 := Lib.hid (kep_nw_keeps HO8.out ST8.out.keeps (by decide))
      have HB9 := Lib.hid (ST8.out.below HB8.out (by omega))
      clear q1 q2 HD HP8 HK8 HS8 HE8 HD8 HR8 HO8 HB8 ST8
      generalize v7.setCell ⟨w.heap.size + 1 + 1, 0, none⟩ (.int .i64 0) = v8 at *
      refine hK.out _ _ ⟨HP9.out.cell 0, HS9.out.rangeMid (pre := [.pointer (some ⟨d, 0, none⟩), .pointer (some ⟨j0, 0, none⟩), .int .i64 0, .int .i64 1]) (post := []) rfl⟩ (fun HD => ?_)
      clear hK K
      (try simp only [Act.put, List.setIfInBounds_toArray, List.set_cons_zero, List.set_cons_succ])
      refine wpAnyH_done (by kernel_rfl) (NoPanic.normal ?_) _
      clear HD
      go_wp2_with fail
      refine leaves_cons (f := 14) (args := #[(.pointer (some ⟨w.heap.size + 1 + 1, 0, none⟩))]) (by simp) (by simp [go_sem]) ?_
      refine (scaught_idle _ _).mono ?_
      rintro e u' w'' ⟨rfl, rfl, rfl⟩
      refine leaves_cons (f := 13) (args := #[(.pointer (some ⟨w.heap.size + 1 + 1, 0, none⟩)), (.pointer (some ⟨w.heap.size, 0, none⟩)), (.pointer (some ⟨w.heap.size + 1, 0, none⟩))]) (by simp [settle]) (by simp [go_sem]) ?_
      refine (sopenD_ok _ _ _ _ _ (HE9.out.cell 0)).mono ?_
      rintro e u' w'' ⟨rfl, rfl, rfl⟩
      have h0 : w''.cell? ⟨w.heap.size, 0, none⟩ = some (.pointer (some ⟨w.heap.size + 1 + 1 + 1, 0, none⟩)) := HP9.out.cell 0
      have h2 : w''.cell? ⟨w.heap.size + 1 + 1, 0, none⟩ = some (.int .i64 0) := HE9.out.cell 0
      have k0 : w''.cell? ⟨w.heap.size + 1, 0, none⟩ = some (.int .i64 2) := HK9.out.cell 0
      have k1 : w''.cell? ⟨w.heap.size + 1, 1, none⟩ = some (.int .i64 1) := HK9.out.cell 1
      have k2 : w''.cell? ⟨w.heap.size + 1, 2, none⟩ = some (.int .i64 0) := HK9.out.cell 2
      have k3 : w''.cell? ⟨w.heap.size + 1, 3, none⟩ = some (.int .i64 0) := HK9.out.cell 3
      have k4 : w''.cell? ⟨w.heap.size + 1, 4, none⟩ = some (.slice A2 0 c2) := HK9.out.cell 4
      have k5 : w''.cell? ⟨w.heap.size + 1, 5, none⟩ = some (.slice B2 0 d2) := HK9.out.cell 5
      have k6 : w''.cell? ⟨w.heap.size + 1, 6, none⟩ = some (.string ⟨#[]⟩) := HK9.out.cell 6
      have k7 : w''.cell? ⟨w.heap.size + 1, 7, none⟩ = some (.slice E2 1 n2) := HK9.out.cell 7
      simp [Leaves, settle, results, Tryz.results5, go_sem, h0, h2, k0, k1, k2, k3, k4, k5, k6, k7]
      exact ⟨_, j0, A2, c2, B2, d2, E2, n2, A3, c3, B3, d3, E3, m3, rfl, HO9.out.nw_lt, by omega, HR9.out.ge, HD9.out, HS9.out, HR9.out.kep, HR9.out.j, HBL.out.trans (HB9.out.mono hbw), (HKL.out.more (by simp)).below_new HB9.out⟩
end Go.Proofs.YtkdmfjpfanmgmaaGreatDoor
namespace Go.Proofs.YtkdmfjpfanmgmaaGreatDoor
open Go.RowKit Le Go.Maps
set_option maxRecDepth 100000
set_option linter.unusedSimpArgs false
set_option linter.unusedVariables false
/-- What Clean leaves. -/
def ClPost (w : World) (base d s : Nat) (ks : List Value) (S : DS) (e : Ending) (w' : World) : Prop := e = .returned (.int .i64 0) ∧ (∃ j, Blk w' s 53 ([.pointer (some ⟨d, 0, none⟩), .pointer (some ⟨j, 0, none⟩), .int .i64 1, .int .i64 2] ++ ks)) ∧ DiskAt w' base d S.lasts S.now S.cs ∧ Below base w w' ∧ Keeps [80, 106, 96, 53] w w'
set_option maxHeartbeats 6400000 in
theorem sclean_any {w : World} {base d s j0 : Nat} {k : Kep} {A : Option Addr} {c : Nat} {B : Option Addr} {d' : Nat} {E : Option Addr} {n : Nat} {s0 s1 s2 s4 sw s5 s6 s7 : DS} (h : DiskAt w base d s0.lasts s0.now s0.cs) (hbw : base ≤ w.heap.size) (hT : Tab w) (hN : NmAt w) (hTb : 3 < base) (hs : Blk w s 53 [.pointer (some ⟨d, 0, none⟩), .pointer (some ⟨j0, 0, none⟩), .int .i64 0, .int .i64 1, .int .i64 k.term, .int .i64 k.vote, .int .i64 k.snp.idx, .int .i64 k.snp.term, .slice A k.snp.v.length c, .slice B k.snp.l.length d', .string (text k.snp.b), .slice E k.ents.length n]) (hge : base ≤ s)
    (hk : k.snp.v = [] ∧ k.snp.l = [] ∧ k.ents = []) (hr : ∀ r ∈ recs k, RcOk r) (ss : List (List UInt8)) (hss : ss = gnS 2 :: ((recs k).map rcS ++ [enS]))
    (h1 : SyncS (nmB ++ endM) (rmS (nmB ++ endM) s0) s1) (h2 : SyncS (nmB ++ endL) (rmS (nmB ++ endL) s1) s2) (hs0 : Small s0) (hs1 : Small s1) (hs2 : Small s2) (hnl : s2.now.get (nmB ++ endL) = none) (hnm : s2.now.get (nmB ++ endM) = none)
    (hf : ∀ i, i ≤ ss.length → Fit (nmB ++ endL) (logB (ss.take i)).length (appF (nmB ++ endL) (ss.take i) 0 s2)) (h4 : SyncS (nmB ++ endL) (appF (nmB ++ endL) ss 0 s2) s4) (hs4 : Small s4) (hl4 : s4.now.length ≤ 15) (hm4 : (s4.now.get (nmB ++ endM)).getD [] = []) (hw : sw = wrS (nmB ++ endM) 0 (frameOf (low (logB ss).length 4)) s4) (hsw : Small sw) (h5 : SyncS (nmB ++ endM) sw s5)
    (h6 : SyncS (nmA ++ endM) (rmS (nmA ++ endM) s5) s6) (h7 : SyncS (nmA ++ endL) (rmS (nmA ++ endL) s6) s7) (hs5 : Small s5) (hs6 : Small s6) :
    Calls Tryz.prog 10 #[(.pointer (some ⟨s, 0, none⟩))] w (ClPost w base d s [.int .i64 k.term, .int .i64 k.vote, .int .i64 k.snp.idx, .int .i64 k.snp.term, .slice A k.snp.v.length c, .slice B k.snp.l.length d', .string (text k.snp.b), .slice E k.ents.length n] s7) := by
  have HBG := Lib.hid (fun (wa : World) (a : DiskAt wa base d s0.lasts s0.now s0.cs) b (c0 : Tab wa) (e : NmAt wa) f => begin1_any (w := wa) (s := s) (j0 := .pointer (some ⟨j0, 0, none⟩)) (at0 := 0) (gen0 := 1) (k := k) (A := A) (c := c) (B := B) (d' := d') (E := E) (n := n) a b c0 e hTb f hge hk hr ss hss h1 h2 hs0 hs1 hs2 hnl hnm hf h4 hs4 hl4 hm4 hw hsw h5)
  have HDR := Lib.hid (fun (wa : World) (a : DiskAt wa base d s5.lasts s5.now s5.cs) b => Drop_any a b nmA (by decide) (by decide) (by decide) (by decide) h6 h7 hs5 hs6)
  have H := Lib.hid h
  have HT := Lib.hid hT
  have HN := Lib.hid hN
  have HS := Lib.hid hs
  have hgb : 0 < base := by omega
  have hsl := hs.lt
  clear h hT hN hs hk hr hss h1 h2 hnl hnm hf h4 hm4 hw h5 h6 h7
  have c2 : w.cell? ⟨s, 2, none⟩ = some (.int .i64 0) := HS.out.cell 2
  have c3 : w.cell? ⟨s, 3, none⟩ = some (.int .i64 1) := HS.out.cell 3
  have hne0 := World.new_ne w _ c2
  go_enter_defers Tryz.func10, Tryz.ntmps10
  go_wp2_with fail
  clear c2 c3 hne0
  refine at_world _ fun W hW => ?_
  have HB0 : Hid (Below w.heap.size w W) := Lib.hid (by rw [hW]; exact (Below.refl _ _).alloc (Nat.le_refl _) _)
  have HX0 : Hid (Blk W w.heap.size 39 [.int .i64 0]) := Lib.hid (by rw [hW]; exact Blk.new w _ [.int .i64 0])
  clear hW
  have HS0 : Hid (Blk W s 53 [.pointer (some ⟨d, 0, none⟩), .pointer (some ⟨j0, 0, none⟩), .int .i64 0, .int .i64 1, .int .i64 k.term, .int .i64 k.vote, .int .i64 k.snp.idx, .int .i64 k.snp.term, .slice A k.snp.v.length c, .slice B k.snp.l.length d', .string (text k.snp.b), .slice E k.ents.length n]) := Lib.hid (HS.out.below HB0.out hsl)
  refine (HBG.out W (H.out.same (SameD.of_below HB0.out)) (Nat.le_trans hbw HB0.out.size) (HT.out.below HB0.out (by omega)) (HN.out.below HB0.out (by omega)) HS0.out).mono ?_
  rintro e w1 ⟨rfl, j, hj, hd1, hb1, hj1, hbel1, hk1⟩
  have HD1 := Lib.hid hd1
  have HS1 : Hid (Blk w1 s 53 [.pointer (some ⟨d, 0, none⟩), .pointer (some ⟨j, 0, none⟩), .int .i64 1, .int .i64 2, .int .i64 k.term, .int .i64 k.vote, .int .i64 k.snp.idx, .int .i64 k.snp.term, .slice A k.snp.v.length c, .slice B k.snp.l.length d', .string (text k.snp.b), .slice E k.ents.length n]) := Lib.hid hb1
  have HX1 := Lib.hid (HX0.out.keeps hk1 (by decide))
  have HBL1 : Hid (Below base w w1) := Lib.hid ((HB0.out.mono hbw).trans hbel1)
  have HK1 : Hid (Keeps [80, 106, 96, 53] w w1) := Lib.hid ((Keeps.of_below HB0.out (Nat.le_refl _)).trans hk1)
  have HN1 := Lib.hid (HN.out.below HBL1.out hgb)
  clear hd1 hb1 hj1 hbel1 hk1 HBG HS0 HX0
  go_wp2_with fail
  refine wp_region_noPanic ?_
  refine wp_region_held_drew (S := fun w' => w'.cell? ⟨s, 0, none⟩ = some (.pointer (some ⟨d, 0, none⟩)) ∧ w'.cell? ⟨0, 0, none⟩ = some (.string (text nmA))) (by kernel_rfl) ⟨HS1.out.cell 0, HN1.out.1⟩ (fun HD => ?_)
  refine wpAnyH_take (i := 0) (oi := ⟨some 19, _, _, _, _, _⟩) (v := (.pointer (some ⟨s, 0, none⟩))) rfl (by kernel_rfl) (by kernel_rfl) (by kernel_rfl) (fun _ _ _ h => h) (Or.inl ⟨by rfl, ?_⟩) HD ?_
  · intro w' hw'
    (go_simp; try with_reducible rfl)
  (try simp only [Act.put, List.setIfInBounds_toArray, List.set_cons_zero, List.set_cons_succ])
  refine wpAnyH_take (i := 1) (oi := ⟨some 20, _, _, _, _, _⟩) (v := (.pointer (some ⟨s, 0, none⟩))) rfl (by kernel_rfl) (by kernel_rfl) (by kernel_rfl) (fun _ _ _ h => h) (Or.inl ⟨by rfl, ?_⟩) HD ?_
  · intro w' hw'
    (go_simp; try with_reducible rfl)
  (try simp only [Act.put, List.setIfInBounds_toArray, List.set_cons_zero, List.set_cons_succ])
  refine wpAnyH_take (i := 2) (oi := ⟨some 21, _, _, _, _, _⟩) (v := (.pointer (some ⟨s, 0, none⟩))) rfl (by kernel_rfl) (by kernel_rfl) (by kernel_rfl) (fun _ _ _ h => h) (Or.inl ⟨by rfl, ?_⟩) HD ?_
  · intro w' hw'
    (go_simp; try with_reducible rfl)
  (try simp only [Act.put, List.setIfInBounds_toArray, List.set_cons_zero, List.set_cons_succ])
  refine wpAnyH_take (i := 3) (oi := ⟨some 22, _, _, _, _, _⟩) (v := (.pointer (some ⟨d, 0, none⟩))) rfl (by kernel_rfl) (by kernel_rfl) (by kernel_rfl) (fun _ _ _ h => h) (Or.inl ⟨by rfl, ?_⟩) HD ?_
  · intro w' hw'
    (go_simp; try with_reducible rfl)
  (try simp only [Act.put, List.setIfInBounds_toArray, List.set_cons_zero, List.set_cons_succ])
  refine wpAnyH_take (i := 4) (oi := ⟨some 23, _, _, _, _, _⟩) (v := (.int .i64 0)) rfl (by kernel_rfl) (by kernel_rfl) (by kernel_rfl) (fun _ _ _ h => h) (Or.inl ⟨by rfl, ?_⟩) HD ?_
  · intro w' hw'
    (go_simp; try with_reducible rfl)
  (try simp only [Act.put, List.setIfInBounds_toArray, List.set_cons_zero, List.set_cons_succ])
  refine wpAnyH_take (i := 5) (oi := ⟨some 24, _, _, _, _, _⟩) (v := (.pointer (some ⟨0, 0, none⟩))) rfl (by kernel_rfl) (by kernel_rfl) (by kernel_rfl) (fun _ _ _ h => h) (Or.inl ⟨by rfl, ?_⟩) HD ?_
  · intro w' hw'
    (go_simp; try with_reducible rfl)
  (try simp only [Act.put, List.setIfInBounds_toArray, List.set_cons_zero, List.set_cons_succ])
  refine wpAnyH_take (i := 6) (oi := ⟨some 25, _, _, _, _, _⟩) (v := (.string (text nmA))) rfl (by kernel_rfl) (by kernel_rfl) (by kernel_rfl) (fun _ _ _ h => h) (Or.inl ⟨by rfl, ?_⟩) HD ?_
  · intro w' hw'
    (go_simp; try with_reducible rfl)
  (try simp only [Act.put, List.setIfInBounds_toArray, List.set_cons_zero, List.set_cons_succ])
  refine wpAnyH_ready (rs := [7]) (by kernel_rfl) (by simp) ?_
  refine AllReadyH.cons (o := ⟨some 26, _, _, _, _, _⟩) rfl (fun K hK => ?_) AllReadyH.nil
  go_simp
  go_at_call 19
  have hbd : base ≤ w1.drew.heap.size := Nat.le_trans hbw HBL1.out.size
  refine (HDR.out w1.drew (HD1.out.same (SameD.of_below (Below.refl _ _).drew)) hbd).mono ?_
  rintro e w2 ⟨rfl, hdt⟩
  have HS2 := Lib.hid (HS1.out.drew.keeps hdt.keeps (by decide))
  have HX2 := Lib.hid (HX1.out.drew.keeps hdt.keeps (by decide))
  have HBL2 := Lib.hid (HBL1.out.drew.trans hdt.bel)
  have HN2 := Lib.hid (HN.out.below HBL2.out hgb)
  have HK2 := Lib.hid ((HK1.out.trans (Keeps.drew w1)).trans (hdt.keeps.more (by simp)))
  have HD2 := Lib.hid hdt.at_
  clear hdt HDR HS1 HX1 HBL1 HK1 HD1 HN1
  refine hK.out _ _ ⟨HS2.out.cell 0, HN2.out.1⟩ (fun HD => ?_)
  clear hK K
  (try simp only [Act.put, List.setIfInBounds_toArray, List.set_cons_zero, List.set_cons_succ])
  refine wpAnyH_ready (rs := [8]) (by kernel_rfl) (by simp) ?_
  refine AllReadyH.cons (o := ⟨some 27, _, _, _, _, _⟩) rfl (fun K hK => ?_) AllReadyH.nil
  go_simp
  go_at_call 18
  refine (smust_ok w2).mono ?_
  rintro e w3 ⟨rfl, rfl⟩
  refine hK.out _ _ HD (fun HD => ?_)
  clear hK K
  (try simp only [Act.put, List.setIfInBounds_toArray, List.set_cons_zero, List.set_cons_succ])
  refine wpAnyH_done (by kernel_rfl) (NoPanic.normal ?_) _
  clear HD
  have q1 : w2.cell? ⟨w.heap.size, 0, none⟩ = some (.int .i64 0) := HX2.out.cell 0
  have q2 : w2.frozen? ⟨w.heap.size, 0, none⟩ = false := HX2.out.frozen 0
  go_wp2_with fail
  have ST8 := Lib.hid (stored_cell HX2.out 0 (.int .i64 0))
  have HS9 := Lib.hid (ST8.out.other HS2.out (by omega))
  have HX9 := Lib.hid ST8.out.blk
  have HD9 := Lib.hid (HD2.out.same (same_stored HX2.out ST8.out (by decide)))
  have HBL9 := Lib.hid (ST8.out.below HBL2.out hbw)
  have HK9 := Lib.hid (HK2.out.below_new (ST8.out.below (Below.refl w.heap.size w2) (Nat.le_refl _)))
  clear q1 q2 HS2 HX2 HD2 HBL2 HK2 ST8
  generalize w2.setCell ⟨w.heap.size, 0, none⟩ (.int .i64 0) = w3 at *
  refine leaves_cons (f := 14) (args := #[.pointer (some ⟨w.heap.size, 0, none⟩)]) (by simp) (by simp [go_sem]) ?_
  refine (scaught_idle _ _).mono ?_
  rintro e u' w'' ⟨rfl, rfl, rfl⟩
  have h3 : w''.cell? ⟨w.heap.size, 0, none⟩ = some (.int .i64 0) := HX9.out.cell 0
  simp [Leaves, settle, results, Tryz.results10, go_sem, h3]
  exact ⟨rfl, ⟨j, HS9.out⟩, HD9.out, HBL9.out, HK9.out⟩
set_option maxHeartbeats 1600000 in
theorem sopen_nil (w : World) : Calls Tryz.prog 5 #[.pointer none] w fun e w' => e = .returned (.tuple #[.pointer none, .agg #[.int .i64 0, .int .i64 0, .int .i64 0, .int .i64 0, .slice none 0 0, .slice none 0 0, .string ⟨#[]⟩, .slice none 0 0], .int .i64 3]) ∧ Below w.heap.size w w' := by
  go_enter_defers Tryz.func5, Tryz.ntmps5
  go_wp2
  simp [bodyPostD, Leaves, settle, results, Tryz.results5, go_sem]
  exact (((Below.refl w.heap.size w).alloc (Nat.le_refl _) _).alloc (by simp) _).alloc (by simp; omega) _
set_option maxHeartbeats 1600000 in
theorem ssave_nil (w : World) (vs : List Value) (hl : vs.length = 15) : Calls Tryz.prog 8 #[.pointer none, .agg vs.toArray] w fun e w' => e = .returned (.int .i64 3) ∧ Below w.heap.size w w' := by
  have hi : (Tryz.prog.info? 33).map (·.size) = some vs.length := by rw [hl]; kernel_rfl
  replace hi := Lib.hid hi
  clear hl
  go_enter Tryz.func8, Tryz.ntmps8
  go_wp2
  go_ret
  exact ⟨rfl, (Below.refl _ _).alloc (Nat.le_refl _) _⟩
end Go.Proofs.YtkdmfjpfanmgmaaGreatDoor
namespace Go.Proofs.YtkdmfjpfanmgmaaGreatDoor
open Go.RowKit Le Go.Maps
set_option maxRecDepth 100000
set_option linter.unusedSimpArgs false
set_option linter.unusedVariables false
/-! ### Writes of a log. -/
def wrs (f : List UInt8) : List (List UInt8) → Nat → List Chg
  | [], _ => []
  | x :: r, o => .wr f o (frameOf (textB x)) :: wrs f r (o + (12 + x.length))
def runF (cs : List Chg) (F : FM) : FM := cs.foldl (fun F c => c.run F) F
def okAll : List Chg → FM → Prop
  | [], _ => True
  | c :: r, F => c.Ok F ∧ okAll r (c.run F)
theorem frame_len (x : List UInt8) : (frameOf (textB x)).length = 12 + x.length := by rw [frameOf_length]; simp [textB]; omega
theorem wrs_len (f : List UInt8) : ∀ (ss : List (List UInt8)) (o : Nat), (wrs f ss o).length = ss.length
  | [], _ => rfl
  | x :: r, o => by simp [wrs, wrs_len f r]
theorem wrs_file (f : List UInt8) : ∀ (ss : List (List UInt8)) (o : Nat), ∀ c ∈ wrs f ss o, (c.file == f) = true
  | [], _, c, h => by simp [wrs] at h
  | x :: r, o, c, h => by
    rcases List.mem_cons.1 h with rfl | h
    · simp [Chg.file]
    · exact wrs_file f r _ c h
theorem appF_run (f : List UInt8) : ∀ (ss : List (List UInt8)) (o : Nat) (s : DS), appF f ss o s = ⟨s.lasts, runF (wrs f ss o) s.now, s.cs ++ wrs f ss o⟩
  | [], o, s => by simp [appF, wrs, runF]
  | x :: r, o, s => by
    rw [appF, appF_run f r]
    simp [wrS, wrs, runF, Chg.run]
theorem FM.del_put (F : FM) (k l : List UInt8) : (F.put k l).del k = F.del k := by
  simp [FM.put, FM.del]
theorem FM.put_put (F : FM) (k l m : List UInt8) : (F.put k l).put k m = F.put k m := by
  unfold FM.put
  rw [show FM.del ((k, l) :: F.del k) k = F.del k from FM.del_put F k l]
theorem FM.del_sum (F : FM) (k : List UInt8) : (F.del k).sum ≤ F.sum := by
  unfold FM.sum FM.del
  induction F with
  | nil => simp
  | cons p r ih =>
    rw [List.filter_cons]
    split
    · simp only [List.map_cons, List.sum_cons]
      omega
    · simp only [List.map_cons, List.sum_cons]
      omega
theorem FM.put_sum (F : FM) (k l : List UInt8) : (F.put k l).sum ≤ F.sum + l.length := by
  have h := FM.del_sum F k
  unfold FM.put
  simp only [FM.sum, List.map_cons, List.sum_cons] at h ⊢
  omega
theorem FM.del_length (F : FM) (k : List UInt8) : (F.del k).length ≤ F.length := List.length_filter_le _ _
theorem FM.put_length (F : FM) (k l : List UInt8) : (F.put k l).length ≤ F.length + 1 := by
  have := FM.del_length F k
  simp only [FM.put, List.length_cons]
  omega
theorem run_wrs (f : List UInt8) : ∀ (ss : List (List UInt8)) (o : Nat) (F : FM), ss ≠ [] → ((F.get f).getD []).length = o → runF (wrs f ss o) F = F.put f ((F.get f).getD [] ++ logB ss)
  | [], o, F, h, _ => absurd rfl h
  | [x], o, F, _, ho => by
    subst ho
    simp only [wrs, runF, List.foldl_cons, List.foldl_nil, Chg.run]
    rw [laidB_end]
    simp [logB, flat]
  | x :: y :: r, o, F, _, ho => by
    have hx : laidB ((F.get f).getD []) o (frameOf (textB x)) = (F.get f).getD [] ++ frameOf (textB x) := by rw [← ho]; exact laidB_end _ _
    have h := run_wrs f (y :: r) (o + (12 + x.length)) (F.put f (laidB ((F.get f).getD []) o (frameOf (textB x)))) (by simp) (by
      rw [FM.get_put_same, hx]
      simp only [Option.getD_some, List.length_append, frame_len, ho])
    rw [FM.get_put_same, FM.put_put, hx] at h
    rw [show runF (wrs f (x :: y :: r) o) F = runF (wrs f (y :: r) (o + (12 + x.length))) (F.put f (laidB ((F.get f).getD []) o (frameOf (textB x)))) from rfl, hx, h]
    simp only [Option.getD_some, List.append_assoc]
    rfl
theorem ok_wrs (f : List UInt8) (hf : f.length ≤ 64) : ∀ (ss : List (List UInt8)) (o : Nat) (F : FM), ((F.get f).getD []).length = o → o + (logB ss).length ≤ 1048576 → F.length + ss.length < maxLen → (∀ x ∈ ss, x.length ≤ 1000) → okAll (wrs f ss o) F
  | [], _, _, _, _, _, _ => trivial
  | x :: r, o, F, ho, hl, hn, hx => by
    have h1 := logB_cons x r
    have hxx := hx x (by simp)
    simp only [List.length_cons] at hn
    refine ⟨⟨hf, by omega, by rw [frame_len]; omega, by omega, by rw [frame_len]; omega, by omega⟩, ?_⟩
    have he : laidB ((F.get f).getD []) o (frameOf (textB x)) = (F.get f).getD [] ++ frameOf (textB x) := by rw [← ho]; exact laidB_end _ _
    have hpl := FM.put_length F f (laidB ((F.get f).getD []) o (frameOf (textB x)))
    refine ok_wrs f hf r (o + (12 + x.length)) _ ?_ (by omega) (by simp only [Chg.run]; omega) (fun y hy => hx y (by simp [hy]))
    simp only [Chg.run, FM.get_put_same, Option.getD_some, he, List.length_append, frame_len, ho]
theorem logB_le {ss : List (List UInt8)} (h : ∀ x ∈ ss, x.length ≤ 1000) : (logB ss).length ≤ ss.length * 1012 := by
  induction ss with
  | nil => simp [logB, flat]
  | cons x r ih =>
    rw [logB_cons]
    have := ih fun y hy => h y (by simp [hy])
    have := h x (by simp)
    simp only [List.length_cons]
    omega
/-! ### Syncs. -/
theorem made_pre {f : List UInt8} : ∀ {pre : List Chg} (post : List Chg) (F : FM), (∀ c ∈ pre, (c.file == f) = false) → made f (pre ++ post) F = made f post F
  | [], _, _, _ => rfl
  | c :: pre, post, F, h => by
    rw [List.cons_append, made, h c (by simp)]
    exact made_pre post F fun c hc => h c (by simp [hc])
theorem made_post {f : List UInt8} : ∀ {post : List Chg} (F : FM), (∀ c ∈ post, (c.file == f) = true) → made f post F = runF post F
  | [], _, _ => rfl
  | c :: post, F, h => by
    rw [made, h c (by simp), if_pos rfl, made_post _ fun c hc => h c (by simp [hc])]
    rfl
theorem madeOk_pre {f : List UInt8} : ∀ {pre : List Chg} (post : List Chg) (F : FM), (∀ c ∈ pre, (c.file == f) = false) → madeOk f post F → madeOk f (pre ++ post) F
  | [], _, _, _, h => h
  | c :: pre, post, F, h, g => by
    have hc := h c (by simp)
    refine ⟨fun e => (by rw [hc] at e; cases e), ?_⟩
    rw [hc]
    exact madeOk_pre post F (fun c hc => h c (by simp [hc])) g
theorem madeOk_post {f : List UInt8} : ∀ {post : List Chg} (F : FM), (∀ c ∈ post, (c.file == f) = true) → okAll post F → madeOk f post F
  | [], _, _, _ => trivial
  | c :: post, F, h, g => by
    refine ⟨fun _ => g.1, ?_⟩
    rw [h c (by simp), if_pos rfl]
    exact madeOk_post _ (fun c hc => h c (by simp [hc])) g.2
theorem sync_gen {f : List UInt8} {pre post : List Chg} {l n : FM} (hp : ∀ c ∈ pre, (c.file == f) = false) (hq : ∀ c ∈ post, (c.file == f) = true) (ho : okAll post l) : SyncS f ⟨l, n, pre ++ post⟩ ⟨runF post l, n, pre⟩ :=
  ⟨pre, post, rfl, hp, hq, madeOk_pre _ _ hp (madeOk_post _ hq ho), by rw [made_pre _ _ hp, made_post _ hq]⟩
theorem sync_app {f : List UInt8} {ss : List (List UInt8)} {o : Nat} {l n : FM} {pre : List Chg} (hf : f.length ≤ 64) (hp : ∀ c ∈ pre, (c.file == f) = false) (hne : ss ≠ []) (hl : ((l.get f).getD []).length = o) (hn : ((n.get f).getD []).length = o) (hs : o + (logB ss).length ≤ 1048576) (hm : l.length + ss.length < maxLen) (hx : ∀ x ∈ ss, x.length ≤ 1000) :
    SyncS f (appF f ss o ⟨l, n, pre⟩) ⟨l.put f ((l.get f).getD [] ++ logB ss), n.put f ((n.get f).getD [] ++ logB ss), pre⟩ := by
  rw [appF_run, ← run_wrs f ss o l hne hl, ← run_wrs f ss o n hne hn]
  exact sync_gen hp (wrs_file f ss o) (ok_wrs f hf ss o l hl hs hm hx)
theorem sync_mark {f : List UInt8} {i : Nat} {b : List UInt8} {l n : FM} {pre : List Chg} (hf : f.length ≤ 64) (hp : ∀ c ∈ pre, (c.file == f) = false) (hl : ((l.get f).getD []).length = i) (hn : ((n.get f).getD []).length = i) (hb : 0 < b.length ∧ b.length ≤ 1000) (hs : i ≤ 100000) (hm : l.length < maxLen) :
    SyncS f (wrS f i b ⟨l, n, pre⟩) ⟨l.put f ((l.get f).getD [] ++ b), n.put f ((n.get f).getD [] ++ b), pre⟩ := by
  have h1 : ∀ F : FM, ((F.get f).getD []).length = i → laidB ((F.get f).getD []) i b = (F.get f).getD [] ++ b := fun F hF => by rw [← hF]; exact laidB_end _ _
  have h2 := sync_gen (f := f) (pre := pre) (post := [.wr f i b]) (l := l) (n := n.put f ((n.get f).getD [] ++ b)) hp (by simp [Chg.file]) ⟨⟨hf, by omega, hb.1, by omega, by omega, hm⟩, trivial⟩
  simp only [runF, List.foldl_cons, List.foldl_nil, Chg.run, h1 l hl] at h2
  simp only [wrS, h1 n hn]
  exact h2
theorem fit_of {f : List UInt8} {ss : List (List UInt8)} {s : DS} (h0 : (s.now.get f).getD [] = []) (hx : ∀ x ∈ ss, x.length ≤ 1000) (hn : ss.length ≤ 50) (hc : s.cs.length ≤ 100) (hsum : s.now.sum ≤ 100000) (hlen : s.now.length ≤ 10) : ∀ i, i ≤ ss.length → Fit f (logB (ss.take i)).length (appF f (ss.take i) 0 s) := fun i hi => by
  have hl := logB_le (ss := ss.take i) fun x h => hx x (List.mem_of_mem_take h)
  have hlen2 : (ss.take i).length ≤ 50 := by rw [List.length_take]; omega
  by_cases he : ss.take i = []
  · rw [he]
    exact ⟨⟨by show s.cs.length ≤ 900; omega, by show s.now.sum ≤ 500000; omega⟩, by show s.now.length ≤ 15; omega, by show ((s.now.get f).getD []).length = _; rw [h0]; rfl⟩
  · rw [appF_run, run_wrs f _ 0 s.now he (by rw [h0]; rfl), h0, List.nil_append]
    refine ⟨⟨?_, ?_⟩, ?_, ?_⟩
    · simp only [List.length_append, wrs_len]; omega
    · have := FM.put_sum s.now f (logB (ss.take i))
      show (s.now.put f (logB (ss.take i))).sum ≤ 500000
      omega
    · have := FM.put_length s.now f (logB (ss.take i))
      show (s.now.put f (logB (ss.take i))).length ≤ 15
      omega
    · show (((s.now.put f (logB (ss.take i))).get f).getD []).length = _
      rw [FM.get_put_same]
      rfl
/-! ### The example. -/
def snE : Snp := ⟨1, 2, [], [], []⟩
def kC : Kep := ⟨2, 1, snE, []⟩
def ssC : List (List UInt8) := ssB ++ [rcS (Rcd.ofSnp snE)]
def ssD : List (List UInt8) := [gnS 2, rcS (Rcd.ofVote 2 1), rcS (Rcd.ofSnp snE), enS]
theorem recs_z : recs Kep.zero = [Rcd.ofVote 0 0] := by decide +kernel
theorem recs_C : recs kC = [Rcd.ofVote 2 1, Rcd.ofSnp snE] := by decide +kernel
theorem ssA_eq : ssA = gnS 1 :: ((recs Kep.zero).map rcS ++ [enS]) := by rw [recs_z]; rfl
theorem ssD_eq : ssD = gnS 2 :: ((recs kC).map rcS ++ [enS]) := by rw [recs_C]; rfl
theorem ok_v0 : RcOk (Rcd.ofVote 0 0) := ⟨by decide +kernel, rfl, rfl, rfl, rfl, by decide +kernel⟩
theorem ok_v1 : RcOk (Rcd.ofVote 2 1) := ⟨by decide +kernel, rfl, rfl, rfl, rfl, by decide +kernel⟩
theorem ok_e1 : RcOk (Rcd.ofEnt e1) := ⟨by decide +kernel, rfl, rfl, rfl, rfl, by decide +kernel⟩
theorem ok_e3 : RcOk (Rcd.ofEnt (en 3)) := ⟨by decide +kernel, rfl, rfl, rfl, rfl, by decide +kernel⟩
theorem ok_sn : RcOk (Rcd.ofSnp snE) := ⟨by decide +kernel, rfl, rfl, rfl, rfl, by decide +kernel⟩
theorem rok_z : ∀ r ∈ recs Kep.zero, RcOk r := by rw [recs_z]; intro r hr; simp at hr; subst hr; exact ok_v0
theorem rok_C : ∀ r ∈ recs kC, RcOk r := by rw [recs_C]; intro r hr; simp at hr; rcases hr with rfl | rfl; exact ok_v1; exact ok_sn
theorem lenC : ∀ x ∈ ssC, x.length ≤ 1000 := by decide +kernel
theorem lenD : ∀ x ∈ ssD, x.length ≤ 1000 := by decide +kernel
theorem lenB : ∀ x ∈ ssB, x.length ≤ 1000 := by decide +kernel
theorem lenA : ∀ x ∈ ssA, x.length ≤ 1000 := by decide +kernel
end Go.Proofs.YtkdmfjpfanmgmaaGreatDoor
namespace Go.Proofs.YtkdmfjpfanmgmaaGreatDoor
open Go.RowKit Le Go.Maps
set_option maxRecDepth 100000
set_option linter.unusedSimpArgs false
set_option linter.unusedVariables false
/-- A stable on a disk, behind some calls. -/
structure AwSt (w wr : World) (base d s j : Nat) (k : Kep) (log marks mark many safe : Nat) (S : DS) : Prop where
  at_ : DiskAt wr base d S.lasts S.now S.cs
  kep : ∃ A c B d' E n, Blk wr s 53 [.pointer (some ⟨d, 0, none⟩), .pointer (some ⟨j, 0, none⟩), .int .i64 0, .int .i64 1, .int .i64 k.term, .int .i64 k.vote, .int .i64 k.snp.idx, .int .i64 k.snp.term, .slice A k.snp.v.length c, .slice B k.snp.l.length d', .string (text k.snp.b), .slice E k.ents.length n] ∧ KepAt wr (Nw wr base [29, 3]) k A B E
  jr : Blk wr j 96 (jCs d nmA log marks mark many safe)
  le : base ≤ w.heap.size
  gs : base ≤ s
  gj : base ≤ j
  bel : Below base w wr
theorem AwSt.size {w wr : World} {base d s j : Nat} {k : Kep} {log marks mark many safe : Nat} {S : DS} (h : AwSt w wr base d s j k log marks mark many safe S) : base ≤ wr.heap.size := Nat.le_trans h.le h.bel.size
theorem AwSt.below {w wr : World} {base d s j : Nat} {k : Kep} {log marks mark many safe : Nat} {S : DS} {w2 : World} (h : AwSt w wr base d s j k log marks mark many safe S) (hb : Below wr.heap.size wr w2) : AwSt w w2 base d s j k log marks mark many safe S := by
  obtain ⟨A, c, B, d', E, n, h1, h2⟩ := h.kep
  exact ⟨h.at_.same (SameD.of_below hb), ⟨A, c, B, d', E, n, h1.below hb h1.lt, kep_nw_keeps h2 (ts := []) (Keeps.of_below hb (Nat.le_refl _)) (by simp)⟩, h.jr.below hb h.jr.lt, h.le, h.gs, h.gj, h.bel.trans (hb.mono h.size)⟩
theorem aw_save {w wr : World} {base d s j : Nat} {k : Kep} {log marks mark many safe : Nat} {S : DS} {k' : Kep} {r : Rcd} (h : AwSt w wr base d s j k log marks mark many safe S) (hT : Tab w) (hTb : 3 < base) (hks : k.Small) (hok : OkK k) (hro : RcOk r) (hfo : (if mayP r then foldedP k r else (.zero, 140)) = (k', 0)) (hf : Fit (nmA ++ endL) log S) (hmany : many ≤ 1000) :
    Calls Tryz.prog 8 #[.pointer (some ⟨s, 0, none⟩), .agg #[.int .i64 r.kind, .int .i64 r.term, .int .i64 r.vote, .int .i64 r.ent.idx, .int .i64 r.ent.term, .int .i64 r.ent.kind, .slice none r.ent.v.length 0, .slice none r.ent.l.length 0, .string (text r.ent.b), .int .i64 r.at_, .int .i64 r.snp.idx, .int .i64 r.snp.term, .slice none r.snp.v.length 0, .slice none r.snp.l.length 0, .string (text r.snp.b)]] wr fun e w' => e = .returned (.int .i64 0) ∧ AwSt w w' base d s j k' (log + (12 + (rcS r).length)) marks mark (many + 1) safe (wrS (nmA ++ endL) log (frameOf (textB (rcS r))) S) := by
  obtain ⟨A, c, B, d', E, n, h1, h2⟩ := h.kep
  refine (save_ok (name := nmA) (x := 0) h.at_ h.size h1 h.gs h2.nw_lt hks hok hro hfo rfl rfl (hT.below h.bel hTb) hTb h.jr h.gj (by decide) (by decide) hf hmany).mono ?_
  rintro e w' ⟨rfl, ⟨A2, c2, B2, d2, E2, n2, g1, g2⟩, hd, hj, hb, hk⟩
  exact ⟨rfl, hd, ⟨A2, c2, B2, d2, E2, n2, g1, g2.nw_more h.size⟩, hj, h.le, h.gs, h.gj, h.bel.trans hb⟩
theorem aw_save_no {w wr : World} {base d s j : Nat} {k : Kep} {log marks mark many safe : Nat} {S : DS} {k' : Kep} {r : Rcd} {x : Nat} (h : AwSt w wr base d s j k log marks mark many safe S) (hks : k.Small) (hok : OkK k) (hro : RcOk r) (hfo : (if mayP r then foldedP k r else (.zero, 140)) = (k', x)) (hx : x ≠ 0) :
    Calls Tryz.prog 8 #[.pointer (some ⟨s, 0, none⟩), .agg #[.int .i64 r.kind, .int .i64 r.term, .int .i64 r.vote, .int .i64 r.ent.idx, .int .i64 r.ent.term, .int .i64 r.ent.kind, .slice none r.ent.v.length 0, .slice none r.ent.l.length 0, .string (text r.ent.b), .int .i64 r.at_, .int .i64 r.snp.idx, .int .i64 r.snp.term, .slice none r.snp.v.length 0, .slice none r.snp.l.length 0, .string (text r.snp.b)]] wr fun e w' => e = .returned (.int .i64 x) ∧ AwSt w w' base d s j k log marks mark many safe S := by
  obtain ⟨A, c, B, d', E, n, h1, h2⟩ := h.kep
  refine (save_bad (name := nmA) (log := 0) (marks := 0) (mark := 0) (many := 0) (safe := 0) (s1 := S) h.at_ h.size h1 h.gs h2.nw_lt hks hok hro hfo hx).mono ?_
  rintro e w' ⟨rfl, hb⟩
  exact ⟨rfl, h.below hb⟩
theorem aw_sync {w wr : World} {base d s j : Nat} {k : Kep} {log marks mark many safe : Nat} {S : DS} {s1 sw s2 : DS} (h : AwSt w wr base d s j k log marks mark many safe S) (hT : Tab w) (hTb : 3 < base)
    (h1 : SyncS (nmA ++ endL) S s1) (hw : sw = wrS (nmA ++ endM) marks (frameOf (low log 4)) s1) (h2 : SyncS (nmA ++ endM) sw s2) (hs0 : Small S) (hs1 : Small s1) (hF : s1.now.length ≤ 15)
    (hsw : Small sw) (hmk : ((s1.now.get (nmA ++ endM)).getD []).length = marks) (hne : mark ≠ log) (hlg : log ≤ 1000000) :
    Calls Tryz.prog 9 #[.pointer (some ⟨s, 0, none⟩)] wr fun e w' => e = .returned (.int .i64 0) ∧ AwSt w w' base d s j k log (marks + 12) log many many s2 := by
  obtain ⟨A, c, B, d', E, n, g1, g2⟩ := h.kep
  refine (ssync_any (at0 := 0) (gen0 := 1) (name := nmA) h.at_ h.size g1 h.jr h.gj (hT.below h.bel hTb) hTb (by decide) (by decide) (by decide) h1 hw h2 hs0 hs1 hF hsw hmk hne hlg).mono ?_
  rintro e w' ⟨rfl, hj⟩
  exact ⟨rfl, hj.at_, ⟨A, c, B, d', E, n, g1.keeps hj.keeps (by decide), kep_nw_keeps g2 hj.keeps (by decide)⟩, hj.blk, h.le, h.gs, h.gj, h.bel.trans hj.bel⟩
set_option maxHeartbeats 800000 in
theorem fresh_any (w : World) : Calls Tryz.prog 21 #[] w fun e w' => ∃ d, e = .returned (.pointer (some ⟨d, 0, none⟩)) ∧ DiskAt w' w.heap.size d [] [] [] ∧ Below w.heap.size w w' := by
  go_enter Tryz.func21, Tryz.ntmps21
  go_wp2_with fail
  refine (dNew_any w).mono ?_
  rintro e w1 ⟨d, rfl, hd, hb⟩
  have HD := Lib.hid hd
  have HB := Lib.hid hb
  clear hd hb
  go_wp2_with fail
  go_ret
  exact ⟨d, rfl, HD.out, HB.out⟩
end Go.Proofs.YtkdmfjpfanmgmaaGreatDoor
