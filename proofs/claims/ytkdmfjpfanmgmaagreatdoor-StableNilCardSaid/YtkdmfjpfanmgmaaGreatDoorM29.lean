/- Joined by mkmerge.py from the proof's texts Disk7, Disk8, Disk9, Disk10. Conditions: each theorem's own hypotheses. -/
import Derived.Test.YtkdmfjpfanmgmaaGreatDoorM28
import Derived.Sort.MapsRangeIn
namespace Go.Proofs.YtkdmfjpfanmgmaaGreatDoor
open Go.RowKit Le Go.Maps
set_option maxRecDepth 100000
set_option linter.unusedSimpArgs false
set_option linter.unusedVariables false
theorem Box.mono {w : World} {base base' g : Nat} {t : TypeId} {v : Value} (h : Box w base g t v) (hb : base' ≤ base) : Box w base' g t v := ⟨Nat.le_trans hb h.1, h.2⟩
theorem ChgAt.mono {w : World} {base base' : Nat} {vs : List Value} {c : Chg} (h : ChgAt w base vs c) (hb : base' ≤ base) : ChgAt w base' vs c := by
  cases c with
  | wr f i b =>
    obtain ⟨p, q, r, A, c, e, h1, h2, h3, h4, h5, h6⟩ := h
    exact ⟨p, q, r, A, c, e, h1.mono hb, h2.mono hb, h3.mono hb, h4, h5, h6.mono hb⟩
  | rm f =>
    obtain ⟨p, e, h1⟩ := h
    exact ⟨p, e, h1.mono hb⟩
/-- How many bytes files have. -/
def FM.sum (F : FM) : Nat := (F.map fun p => p.2.length).sum
/-- Those that are still to come. -/
def restF (F : FM) (left : Lit → Bool) : FM := F.filter fun p => left (.string p.1)
theorem restF_strike {F : FM} (ho : F.Once) {k l : List UInt8} (hg : F.get k = some l) {left : Lit → Bool} (hl : left (.string k) = true) :
    (restF F left).sum = l.length + (restF F (fun z => left z && !z.sameKey (.string k))).sum := by
  induction F with
  | nil => cases hg
  | cons p F ih =>
    obtain ⟨a, x⟩ := p
    have h' := List.pairwise_cons.1 ho
    unfold restF FM.sum at ih ⊢
    by_cases ha : a = k
    · subst ha
      rw [FM.get, if_pos rfl] at hg
      injection hg with hg
      subst hg
      rw [List.filter_cons_of_pos (by simpa using hl), List.filter_cons_of_neg (by simp [Lit.sameKey])]
      rw [List.map_cons, List.sum_cons]
      congr 2
      congr 1
      refine List.filter_congr fun q hq => ?_
      have : a ≠ q.1 := h'.1 q hq
      simp [Lit.sameKey]
      exact fun _ e => this e.symm
    · rw [FM.get, if_neg ha] at hg
      have ih := ih h'.2 hg
      have hs : (!(Lit.string a).sameKey (.string k)) = true := by simp [Lit.sameKey, ha]
      cases hla : left (.string a)
      · rw [List.filter_cons_of_neg (by simp [hla]), List.filter_cons_of_neg (by simp [hla])]
        exact ih
      · rw [List.filter_cons_of_pos (by simpa using hla), List.filter_cons_of_pos (by simp [hla, hs])]
        simp only [List.map_cons, List.sum_cons] at ih ⊢
        omega
theorem restF_all (F : FM) {left : Lit → Bool} (h : ∀ k l, F.get k = some l → left (.string k) = true) : (restF F left).sum ≤ F.sum := by
  unfold restF FM.sum
  clear h
  induction F with
  | nil => exact Nat.le_refl _
  | cons p F ih =>
    by_cases hp : left (.string p.1) = true
    · rw [List.filter_cons_of_pos (by simpa using hp)]
      simp only [List.map_cons, List.sum_cons]
      omega
    · rw [List.filter_cons_of_neg (by simpa using hp)]
      simp only [List.map_cons, List.sum_cons]
      omega
theorem FM.get_le_sum {F : FM} (f : List UInt8) : ((F.get f).getD []).length ≤ F.sum := by
  induction F with
  | nil => exact Nat.le_refl _
  | cons p F ih =>
    obtain ⟨a, l⟩ := p
    unfold FM.sum at ih ⊢
    rw [FM.get]
    simp only [List.map_cons, List.sum_cons]
    split
    · simp
    · omega
theorem wpList_next_heldS {w : World} {ops : Array Oper} {rest : List Oper} {o : Oper} {a : Act} {Q : Exit → Act → World → Prop} (hg : o.guard = none) (it : Operand) (hop : o.op = Op.next it false) (b r n : Nat) (D : DataW Value) (left : Lit → Bool) (cnt : Nat)
    (hit : a.eval it = .pointer (some ⟨r, 0, none⟩)) (h : w.ranges Tryz.prog 9 heldR b r n D left cnt)
    (hDone : cnt = 0 → (∀ kl, left kl = false) → wpList Tryz.prog ops Q rest (a.put o.dst (.tuple #[.bool false])) w)
    (hMore : ∀ (x : ByteArray) (k : List UInt8) (v : Value) (w' : World) (cnt' : Nat), left (.string k) = true → (∀ zd, D.atKey (.string k) zd = .held v) → w'.ranges Tryz.prog 9 heldR b r n D (fun z => left z && !z.sameKey (.string k)) cnt' → cnt' < cnt →
      w.grownBy w' (some r) → w'.heap.size = w.heap.size → (Instr.entry (.pointer (some ⟨r, 0, none⟩))).run Tryz.prog w' = .ok (.tuple #[.string x, v]) w' → wpList Tryz.prog ops Q rest (a.put o.dst (.tuple #[.bool true, .string x, v])) w') :
    wpList Tryz.prog ops Q (o :: rest) a w :=
  wpList_next_ranges w hg it hop 9 keyed heldR Value.string (fun v : Value => v) (fun key kl hkey => Maps.keyOf_string_inv Tryz.underlying9 hkey) (fun v y _ => ⟨v, rfl⟩)
    b r n D left cnt hit h hDone (fun x c kl y w' cnt' hkey hlk hv hat hrg hlt hgr hsz hen => by
      obtain ⟨k, rfl⟩ : ∃ k, kl = .string k := by
        rw [keyOf_string Tryz.underlying9] at hkey
        simp [mapKey, Tryz.underlying9] at hkey
        exact ⟨_, hkey.2.symm⟩
      simp only [heldR, Option.some.injEq] at hv
      subst hv
      exact hMore x k c w' cnt' hlk hat hrg hlt hgr hsz hen)
set_option maxHeartbeats 1600000 in
theorem Write_any {w : World} {base d : Nat} {lasts now : FM} {cs : List Chg} (h : DiskAt w base d lasts now cs) (f : List UInt8) (i : Nat) (A : Option Addr) (c : Nat) (m : List UInt8) (hf : f.length ≤ 64) (hbw : base ≤ w.heap.size) (hcs : cs.length ≤ 1000)
    (hn : nameB f = true) (hi : i ≤ ((now.get f).getD []).length) (hm : 0 < m.length) (hs : now.sum + m.length ≤ 1000000) (hF : now.length ≤ 15) (hA : Reads w w.heap.size A m.length (u8s m)) :
    Calls Tryz.prog 59 #[.pointer (some ⟨d, 0, none⟩), .string (text f), .int .i64 i, .slice A m.length c] w fun e w' => e = .returned (.int .i64 0) ∧ DiskTo w w' base d lasts (now.put f (laidB ((now.get f).getD []) i m)) (cs ++ [.wr f i m]) := by
  have H := Lib.hid h
  obtain ⟨m1, m2, C, cap, xs, h1, _, _, h4, _⟩ := h.blk
  have a2 : w.cell? ⟨d, 2, none⟩ = some (.map (some m2)) := h1.cell 2
  have h1lt := h1.lt
  have a0 : w.cell? ⟨d, 0, none⟩ = some (.int .i64 4194304) := h1.cell 0
  obtain ⟨v, hrun, hv⟩ := h4.look_ok_all (k := f) (by unfold maxLen; omega)
  obtain ⟨B, c1, rfl⟩ : ∃ B c1, v = .slice B ((now.get f).getD []).length c1 := by
    cases hg : now.get f with
    | none => rw [hg] at hv; exact ⟨none, 0, hv⟩
    | some l => rw [hg] at hv; obtain ⟨A, c, h1, _⟩ := hv; exact ⟨A, c, h1⟩
  obtain ⟨th, hth⟩ : ∃ th, (now.get f).isSome = th := ⟨_, rfl⟩
  rw [hth] at hrun
  obtain ⟨o, ho⟩ : ∃ o, (now.get f).getD [] = o := ⟨_, rfl⟩
  rw [ho] at hrun hi ⊢
  have hz := hrun w rfl
  have hlen := h4.len 3
  have HF := Lib.hid h4
  have HA := Lib.hid hA
  clear h h1 h4 hrun hv hA
  go_enter Tryz.func59, Tryz.ntmps59
  go_wp2_with fail
  refine (stopped_any H.out).mono ?_
  rintro e w1 ⟨rfl, rfl⟩
  obtain ⟨D, hown, hDz, hD0, hD1⟩ := HF.out.map
  have HD1 : Hid (∀ k, Maps.has D (.string k) = true → ∃ l, now.get k = some l ∧ ∀ v, (∀ z, D.atKey (.string k) z = .held v) → ∃ A c, v = .slice A l.length c) := Lib.hid (fun k hk => by
    cases hg : now.get k with
    | none => rw [hD0 k hg] at hk; cases hk
    | some l =>
      refine ⟨l, rfl, fun v hv => ?_⟩
      obtain ⟨_, A, c, h2, _⟩ := hD1 k l hg
      have := (hv (.held v)).symm.trans (h2 (.held v))
      exact ⟨A, c, DataW.held.inj this⟩)
  have HO := Lib.hid hown
  have hown1 := HF.out.once
  have hDs : ∀ k l, now.get k = some l → Maps.has D (.string k) = true := fun k l hg => (hD1 k l hg).1
  have HS : Hid ((restF now (Maps.has D)).sum ≤ now.sum) := Lib.hid (restF_all now hDs)
  clear hown hDz hD0 hD1 hDs
  go_wp2_with (first
    | (at_range; refine wpList_range_own _ rfl _ 77 rfl 9 72 keyed Tryz.underlying77 heldR m2 _ _ rfl HO.out ?_; intro w0 hrg0 hg0 hs0)
    | go_in)
  go_frame
  have hol : o.length ≤ now.sum := by rw [← ho]; exact FM.get_le_sum f
  have e0 : wrap64 (max (o.length : Int) (wrap64 (min (i : Int) o.length + m.length)) - o.length) = ((max o.length (i + m.length) - o.length : Nat) : Int) := by
    rw [IntWalk.wrap64_in (min (i : Int) o.length + m.length) (by omega), IntWalk.wrap64_in _ (by omega)]
    omega
  rw [e0]
  have HG0 := Lib.hid hrg0
  have HON := Lib.hid hown1
  clear e0 hrg0 hown1
  go_loopw [12] (fun a wr => ∃ (left : Lit → Bool) (cnt S : Nat), a = .int .i64 (S : Nat) ∧ Hid (wr.ranges Tryz.prog 9 heldR m2 w.heap.size now.length D left cnt) ∧ Hid (∀ kl, left kl = true → Maps.has D kl = true) ∧ Hid (S + (restF now left).sum ≤ m.length + now.sum) ∧ Hid (Below w.heap.size w wr)) (fun _ wr => wr.rangeLeft m2 w.heap.size)
  case atStart => exact ⟨_, _, _, rfl, HG0, Lib.hid (fun _ h => h), Lib.hid (by have := HS.out; omega), Lib.hid ((Below.refl _ _).grown hg0 (Nat.le_refl _) (fun j hj => by cases hj))⟩
  case round =>
    obtain ⟨left, cnt, S, rfl, hrg, hlh, hsu, hbe⟩ := hrel
    go_wp2_with (first
      | (at_next; refine wpList_next_heldS rfl _ rfl m2 w.heap.size _ D left cnt rfl hrg.out ?_ ?_)
      | go_in)
    · intro hc0 hl0
      have hS9 : S ≤ 1000000 := by have := hsu.out; omega
      have HDr := Lib.hid (H.out.same (SameD.of_below hbe.out))
      cases th
      all_goals
        go_wp2_with fail
        refine (Name_any f wr (by omega)).mono ?_
        rintro e w2 ⟨rfl, nn, rfl⟩
        rw [hn]
        have HD2 := Lib.hid (H.out.same (SameD.of_below (hbe.out.drewN nn)))
        have a0' : (wr.drewN nn).cell? ⟨d, 0, none⟩ = some (.int .i64 4194304) := (World.cell?_of_block (hbe.out.block d h1lt)).trans a0
        go_wp2_with fail
        have hbn := hbe.out.drewN nn
        have HA2 := HA.out.below hbn
        refine (writing_any f i A c m (wr.drewN nn) ⟨HA2.1, fun h => by obtain ⟨ad, e, hb, hc⟩ := HA2.2 h; exact ⟨ad, e, Nat.lt_of_lt_of_le hb hbn.size, hc⟩⟩ (by omega)).mono ?_
        rintro e w3 ⟨vs, rfl, hc, hb3⟩
        have hb4 := hbn.trans (hb3.mono hbn.size)
        have HC := Lib.hid (hc.mono (Nat.le_trans hbw hbn.size))
        have HD3 := Lib.hid (H.out.same (SameD.of_below hb4))
        have HB4 := Lib.hid hb4
        clear hc hb3 hbn hb4 HA2
        go_wp2_with fail
        refine (dChange_any HD3.out HC.out ⟨hf, by rw [ho]; exact hi, hm, by rw [ho]; omega, by omega, by unfold maxLen; omega⟩ (Nat.le_trans hbw HB4.out.size) hcs).mono ?_
        rintro e w4 ⟨rfl, h4⟩
        have H4 := Lib.hid (h4.after HB4.out hbw)
        clear h4
        simp only [Chg.run, ho] at H4
        go_wp2_with fail
        go_ret
        exact ⟨rfl, H4.out⟩
    · intro x k v w1 cnt1 hlx hat hrg1 hlt hg1 hs1 hen
      obtain ⟨l, hgl, hvv⟩ := HD1.out k (hlh.out _ hlx)
      obtain ⟨A1, c2, rfl⟩ := hvv v hat
      have hst := restF_strike HON.out hgl hlx
      have hS2 : Hid (S + l.length + (restF now (fun z => left z && !z.sameKey (.string k))).sum ≤ m.length + now.sum) := Lib.hid (by have := hsu.out; omega)
      have hSl : S + l.length ≤ 1000000 := by have := hS2.out; omega
      have HG1 := Lib.hid hrg1
      have HB1 := Lib.hid (hbe.out.grown hg1 (by have := hbe.out.size; omega) (fun j hj => by injection hj with hj; omega))
      clear hst hat hvv hrg1
      go_wp2_with fail
      go_roundw
      case rel => exact ⟨_, cnt1, S + l.length, by go_num, HG1, Lib.hid (fun kl hk => hlh.out kl (by simp only [Bool.and_eq_true] at hk; exact hk.1)), hS2, HB1⟩
      case measure => rw [HG1.out.left_eq, hrg.out.left_eq]; exact hlt
end Go.Proofs.YtkdmfjpfanmgmaaGreatDoor
namespace Go.Proofs.YtkdmfjpfanmgmaaGreatDoor
open Go.RowKit Le Go.Maps
set_option maxRecDepth 100000
set_option linter.unusedSimpArgs false
set_option linter.unusedVariables false
/-- A change's cells, the first one apart. -/
theorem ChgAt.shape {w : World} {base : Nat} {vs : List Value} {c : Chg} (h : ChgAt w base vs c) : ∃ fn cp n A m k l, vs = [.string (text c.file), .func fn #[] cp, .int .i64 n, .slice A m k, .bool l] := by
  cases c with
  | wr f i b => obtain ⟨p, q, r, A, c, rfl, _⟩ := h; exact ⟨_, _, _, _, _, _, _, rfl⟩
  | rm f => obtain ⟨p, rfl, _⟩ := h; exact ⟨_, _, _, _, _, _, _, rfl⟩
set_option maxHeartbeats 800000 in
theorem fileIs_any {w : World} {p : Nat} {f : List UInt8} {vs : List Value} {c : Chg} (hp : Blk w p 9 [.string (text f)]) (hs : ∃ fn cp n A m k l, vs = [.string (text c.file), .func fn #[] cp, .int .i64 n, .slice A m k, .bool l]) :
    Calls Tryz.prog 79 #[.agg vs.toArray, .pointer (some ⟨p, 0, none⟩)] w fun e w' => e = .returned (.bool (c.file == f)) ∧ Below w.heap.size w w' := by
  obtain ⟨fn, cp, n, A, m, k, l, rfl⟩ := hs
  have a0 : w.cell? ⟨p, 0, none⟩ = some (.string (text f)) := hp.cell 0
  have hpl := hp.lt
  clear hp
  go_enter Tryz.func79, Tryz.ntmps79
  go_wp2_with fail
  go_ret
  exact ⟨rfl, (by repeat (first | with_reducible exact (Below.refl w.heap.size w) | (with_reducible refine Below.setCell ?_ (by dsimp only; (first | omega | (simp; done) | (simp; omega))) _) | (with_reducible refine Below.alloc ?_ (by (first | omega | (simp; done) | (simp; omega))) _) | with_reducible refine Below.drew ?_))⟩
/-- The first change of a file. -/
def fstOf (f : List UInt8) : List Chg → Nat → Int
  | [], _ => -1
  | c :: r, n => if (c.file == f) = true then (n : Int) else fstOf f r (n + 1)
theorem ChgsAt.at_ {w : World} {base : Nat} : ∀ {cs : List Chg} {xs : List Value} {j : Nat} (hj : j < cs.length), ChgsAt w base xs cs → ∃ v, ChgAt w base v cs[j] ∧ ∀ i u, v[i]? = some u → xs[j * 5 + i]? = some u
  | [], _, _, hj, _ => by simp at hj
  | c :: cs, _, 0, _, ⟨v, r, e, h1, _⟩ => ⟨v, h1, fun i u hu => by
    rw [e, Nat.zero_mul, Nat.zero_add, List.getElem?_append_left (List.getElem?_eq_some_iff.1 hu).1]
    exact hu⟩
  | c :: cs, _, j + 1, hj, ⟨v, r, e, h1, h2⟩ => by
    obtain ⟨u, h3, h4⟩ := ChgsAt.at_ (j := j) (by simpa using hj) h2
    refine ⟨u, by simpa using h3, fun i x hx => ?_⟩
    have hl := h1.len
    rw [e, List.getElem?_append_right (by omega)]
    rw [show (j + 1) * 5 + i - v.length = j * 5 + i from by omega]
    exact h4 i x hx
theorem chg_at {w : World} {base : Nat} {C : Option Addr} {cap : Nat} {cs : List Chg} {xs : List Value} (ho : w.ownsRow base 106 5 (.slice C cs.length cap) cs.length xs) (hc : ChgsAt w base xs cs) {j : Nat} (hj : j < cs.length) :
    ∃ g vs, C = some ⟨g, 0, none⟩ ∧ g < w.heap.size ∧ w.rangeAt g (j * 5) vs ∧ ChgAt w base vs cs[j] := by
  rcases ho.2 with ⟨hn, h0⟩ | ⟨g, cap', cur, e, hb, hg, h1, h2, h3, h4⟩
  · omega
  · injection e with e1 e2 e3
    obtain ⟨v, h5, h6⟩ := hc.at_ hj
    refine ⟨g, v, e1, (Array.getElem?_eq_some_iff.1 hg).1, fun i u hu => ?_, h5⟩
    have h7 := h6 i u hu
    rw [← h4, List.getElem?_take] at h7
    split at h7
    · have hB : Blk w g 106 cur.toList := by simpa [Blk] using hg
      exact (hB.cell _).trans h7
    · cases h7
theorem fstOf_drop {f : List UInt8} {cs : List Chg} {j : Nat} (hj : j < cs.length) : fstOf f (cs.drop j) j = if (cs[j].file == f) = true then (j : Int) else fstOf f (cs.drop (j + 1)) (j + 1) := by
  rw [List.drop_eq_getElem_cons hj]
  rfl
set_option maxHeartbeats 1600000 in
theorem cIndex_any {w : World} {base p : Nat} {f : List UInt8} {C : Option Addr} {cap : Nat} {cs : List Chg} {xs : List Value} (hp : Blk w p 9 [.string (text f)]) (ho : w.ownsRow base 106 5 (.slice C cs.length cap) cs.length xs) (hc : ChgsAt w base xs cs) (hn : cs.length ≤ 1000) :
    Calls Tryz.prog 115 #[.slice C cs.length cap, .func (.func 79) #[] #[.pointer (some ⟨p, 0, none⟩)]] w fun e w' => e = .returned (.int .i64 (fstOf f cs 0)) ∧ Below w.heap.size w w' := by
  have HP := Lib.hid hp
  have HO := Lib.hid ho
  have HC := Lib.hid hc
  have HI : Hid ((Tryz.prog.info? 106).map (·.size) = some 5) := Lib.hid (by kernel_rfl)
  clear hp ho hc
  go_enter Tryz.func115, Tryz.ntmps115
  go_wp2
  go_loopw [8] (fun i wr => ∃ j : Nat, j ≤ cs.length ∧ i = .int .i64 j ∧ Hid (Below w.heap.size w wr) ∧ Hid (fstOf f cs 0 = fstOf f (cs.drop j) j)) (fun i _ => cs.length - (intOf i).toNat)
  case atStart => exact ⟨0, Nat.zero_le _, rfl, Lib.hid (Below.refl _ _), Lib.hid (by rw [List.drop_zero])⟩
  case round =>
    obtain ⟨j, hj, rfl, HBw, HE⟩ := hrel
    by_cases hlt : j < cs.length
    · obtain ⟨g, vs, rfl, hg, hr, hca⟩ := chg_at (HO.out.below_ HBw.out) (HC.out.same (SameC.of_below HBw.out)) hlt
      have HX : Hid (fstOf f cs 0 = if (cs[j].file == f) = true then (j : Int) else fstOf f (cs.drop (j + 1)) (j + 1)) := Lib.hid (HE.out.trans (fstOf_drop hlt))
      generalize cs[j] = c at *
      have HSh := Lib.hid hca.shape
      have HL : Hid ((Tryz.prog.info? 106).map (·.size) = some vs.length) := Lib.hid (by rw [hca.len]; exact HI.out)
      have HG := Lib.hid hr
      have HP1 := Lib.hid (HP.out.below HBw.out HP.out.lt)
      clear hca hr
      go_wp2_with (first | (with_reducible refine wpList_load_mid rfl 106 _ rfl g (j * 5) rfl vs _ HG.out Tryz.underlying106 rfl HL.out ?_) | fail)
      refine (fileIs_any HP1.out HSh.out).mono ?_
      rintro e w2 ⟨rfl, hb⟩
      have HB2 := Lib.hid (HBw.out.trans (hb.mono HBw.out.size))
      clear hb HP1 HSh HG HL
      cases hq : (c.file == f)
      · rw [hq] at HX
        have HX' : Hid (fstOf f cs 0 = fstOf f (cs.drop (j + 1)) (j + 1)) := Lib.hid HX.out
        go_wp2
        go_roundw
        case rel => exact ⟨j + 1, by omega, by go_num, HB2, HX'⟩
        case measure => simp [intOf]; omega
      · rw [hq] at HX
        go_wp2
        go_ret
        exact ⟨by rw [HX.out]; rfl, HB2.out⟩
    · obtain rfl : j = cs.length := by omega
      rw [List.drop_length] at HE
      go_wp2
      go_ret
      exact ⟨by rw [HE.out]; rfl, HBw.out⟩
end Go.Proofs.YtkdmfjpfanmgmaaGreatDoor
namespace Go.Proofs.YtkdmfjpfanmgmaaGreatDoor
open Go.RowKit Le Go.Maps
set_option maxRecDepth 100000
set_option linter.unusedSimpArgs false
set_option linter.unusedVariables false
theorem fstOf_none {f : List UInt8} : ∀ {cs : List Chg} (n : Nat), (∀ c ∈ cs, (c.file == f) = false) → fstOf f cs n = -1
  | [], _, _ => rfl
  | c :: cs, n, h => by
    rw [fstOf, if_neg (by rw [h c (by simp)]; simp)]
    exact fstOf_none (n + 1) fun d hd => h d (by simp [hd])
theorem fstOf_app {f : List UInt8} {c : Chg} {post : List Chg} (hc : (c.file == f) = true) : ∀ {pre : List Chg} (n : Nat), (∀ c ∈ pre, (c.file == f) = false) → fstOf f (pre ++ c :: post) n = ((n + pre.length : Nat) : Int)
  | [], n, _ => by simp only [List.nil_append, fstOf]; rw [if_pos hc]; simp
  | d :: pre, n, h => by
    rw [List.cons_append, fstOf, if_neg (by rw [h d (by simp)]; simp), fstOf_app hc (n + 1) fun e he => h e (by simp [he])]
    simp
    omega
theorem run_clear_row {P : Program} (w : World) (t e ty : TypeId) (z : Value) (ht : P.underlying t = some (.slice e)) (hv : ∀ w, (zeroValue e).run P w = .ok z w) {size : Nat} (hz : z.cells.size = size) (hs : 0 < size) (h1 : ∀ v ∈ z.cells.toList, v.oneCell' = true) (b o n c : Nat) (hn : 0 < n) (hB : w.there b o (n * size)) :
    ∃ Z : List Value, Z.length = n * size ∧ (Builtin.clear_ #[t] ty #[.slice (some ⟨b, o, none⟩) n c]).run P w = .ok (.tuple #[]) (w.setCells b o Z) := by
  have hl : (Builtin.zeroCells z.cells n).toList.length = n * size := by simp [Builtin.zeroCells, hz]
  have hst := run_storeCells_cells (P := P) b o (Builtin.zeroCells z.cells n).toList 0 w (fun j hj => by simpa using (hB j (by omega)).1) (fun j hj => by simpa using (hB j (by omega)).2) (by
    intro v hv'
    simp only [Builtin.zeroCells, Array.toList_map, List.mem_map] at hv'
    obtain ⟨i, _, rfl⟩ := hv'
    have hi : i % z.cells.size < z.cells.size := Nat.mod_lt _ (by omega)
    rw [getElem!_pos z.cells _ hi]
    exact h1 _ (by simp))
  simp only [Nat.add_zero] at hst
  refine ⟨_, hl, ?_⟩
  obtain ⟨m, rfl⟩ : ∃ m, n = m + 1 := ⟨n - 1, by omega⟩
  simp [Builtin.clear_, run_underlying ht, hv, hst]
set_option maxHeartbeats 1600000 in
theorem cDelete_none {w : World} {base p : Nat} {f : List UInt8} {C : Option Addr} {cap : Nat} {cs : List Chg} {xs : List Value} (hp : Blk w p 9 [.string (text f)]) (ho : w.ownsRow base 106 5 (.slice C cs.length cap) cs.length xs) (hc : ChgsAt w base xs cs) (hn : cs.length ≤ 1000)
    (hcs : ∀ c ∈ cs, (c.file == f) = false) :
    Calls Tryz.prog 78 #[.slice C cs.length cap, .func (.func 79) #[] #[.pointer (some ⟨p, 0, none⟩)]] w fun e w' => e = .returned (.slice C cs.length cap) ∧ Below w.heap.size w w' := by
  have h := cIndex_any hp ho hc hn
  rw [fstOf_none 0 hcs] at h
  clear hp ho hc
  go_enter Tryz.func78, Tryz.ntmps78
  go_wp2_with fail
  refine h.mono ?_
  rintro e w1 ⟨rfl, hb⟩
  go_wp2_with fail
  go_ret
  exact ⟨rfl, hb⟩
set_option maxHeartbeats 1600000 in
theorem cDelete_some {w : World} {base p : Nat} {f : List UInt8} {C : Option Addr} {cap : Nat} {pre post : List Chg} {c : Chg} {xs : List Value} (hp : Blk w p 9 [.string (text f)]) (ho : w.ownsRow base 106 5 (.slice C (pre ++ c :: post).length cap) (pre ++ c :: post).length xs) (hc : ChgsAt w base xs (pre ++ c :: post)) (hn : (pre ++ c :: post).length ≤ 1000)
    (h0 : ∀ c ∈ pre, (c.file == f) = false) (h1 : (c.file == f) = true) (h2 : ∀ c ∈ post, (c.file == f) = true) :
    Calls Tryz.prog 78 #[.slice C (pre ++ c :: post).length cap, .func (.func 79) #[] #[.pointer (some ⟨p, 0, none⟩)]] w fun e w' => e = .returned (.slice C pre.length cap) ∧
      w'.ownsRow base 106 5 (.slice C pre.length cap) pre.length (xs.take (pre.length * 5)) ∧ Below base w w' ∧ Keeps [106] w w' ∧ KeepM w w' := by
  have h := cIndex_any hp ho hc hn
  rw [fstOf_app h1 0 h0, Nat.zero_add] at h
  have HP := Lib.hid hp
  have HO := Lib.hid ho
  have HC := Lib.hid hc
  have HI : Hid ((Tryz.prog.info? 106).map (·.size) = some 5) := Lib.hid (by kernel_rfl)
  have HA : Hid (∀ j (hj : j < (pre ++ c :: post).length), pre.length ≤ j → (((pre ++ c :: post)[j]).file == f) = true) := Lib.hid (fun j hj hp => by
    rw [List.getElem_append_right hp]
    rcases Nat.eq_or_lt_of_le hp with e | e
    · simp only [← e, Nat.sub_self, List.getElem_cons_zero]; exact h1
    · obtain ⟨m, hm⟩ : ∃ m, j - pre.length = m + 1 := ⟨j - pre.length - 1, by omega⟩
      simp only [hm, List.getElem_cons_succ]
      exact h2 _ (List.getElem_mem _))
  have HN : Hid (pre.length < (pre ++ c :: post).length) := Lib.hid (by simp)
  generalize pre ++ c :: post = cs at *
  have HX := Lib.hid h
  obtain ⟨g, cur, rfl, hgb, hB, hlc, hcm, hcz, hct⟩ : ∃ g cur, C = some ⟨g, 0, none⟩ ∧ base ≤ g ∧ Blk w g 106 cur ∧ cs.length ≤ cap ∧ cap ≤ maxLen ∧ cur.length = cap * 5 ∧ cur.take (cs.length * 5) = xs := by
    rcases ho.2 with ⟨hn, h0⟩ | ⟨g, cap', cur, e, hb, hg, h1, h2, h3, h4⟩
    · have := HN.out; omega
    · injection e with e1 e2 e3
      subst e3
      exact ⟨g, cur.toList, e1, hb, by simpa [Blk] using hg, h1, h2, by simpa using h3, h4⟩
  have HBK := Lib.hid hB
  obtain ⟨z, hz1, hz2, hz3⟩ : ∃ z : Value, (∀ w, (zeroValue 106).run Tryz.prog w = .ok z w) ∧ z.cells.size = 5 ∧ ∀ v ∈ z.cells.toList, v.oneCell' = true := ⟨.agg #[.string ⟨#[]⟩, .nilFunc, .int .i64 0, .slice none 0 0, .bool false], fun w => by kernel_rfl, rfl, by simp [Value.cells, Value.oneCell']⟩
  have HZ0 := Lib.hid hz1
  have HZ1 := Lib.hid hz3
  clear hp ho hc h hB hz1 hz3
  go_enter Tryz.func78, Tryz.ntmps78
  go_wp2_with fail
  refine HX.out.mono ?_
  rintro e w1 ⟨rfl, hb⟩
  have HB1 := Lib.hid hb
  clear hb HX
  have hN := HN.out
  have hm1 : ((pre.length : Int) == -1) = false := beq_eq_false_iff_ne.2 (by omega)
  go_wp2_with fail
  go_loopw [5, 6] (fun i0 i wr => ∃ j : Nat, pre.length < j ∧ j ≤ cs.length ∧ i0 = .int .i64 pre.length ∧ i = .int .i64 j ∧ Hid (Below w.heap.size w wr)) (fun _ i _ => cs.length - (intOf i).toNat)
  case atStart => exact ⟨pre.length + 1, by omega, by omega, rfl, by go_num, HB1⟩
  case round =>
    obtain ⟨j, hpj, hj, rfl, rfl, HBw⟩ := hrel
    by_cases hlt : j < cs.length
    · obtain ⟨g', vs, eg, hg, hr, hca⟩ := chg_at (HO.out.below_ HBw.out) (HC.out.same (SameC.of_below HBw.out)) hlt
      obtain rfl : g = g' := by injection eg with eg; injection eg
      have HT := HA.out j hlt (by omega)
      generalize cs[j] = d at *
      have HSh := Lib.hid hca.shape
      have hlen := hca.len
      have HL : Hid ((Tryz.prog.info? 106).map (·.size) = some vs.length) := Lib.hid (by rw [hca.len]; exact HI.out)
      have HG := Lib.hid hr
      have HP1 := Lib.hid (HP.out.below HBw.out HP.out.lt)
      have HZ := Lib.hid (Blk.new wr 106 [.string ⟨#[]⟩, .nilFunc, .int .i64 0, .slice none 0 0, .bool false])
      have h1c : ∀ v ∈ vs, v.oneCell' = true := by
        obtain ⟨fn, cp, n, A, m, k, l, rfl⟩ := HSh.out
        simp [Value.oneCell']
      have hbz := HBw.out.size
      clear hca hr
      go_wp2_with (first
        | (with_reducible refine wpList_load_mid rfl 106 _ rfl g (j * 5) rfl vs _ HG.out Tryz.underlying106 rfl HL.out ?_)
        | ((with_reducible refine wpList_store_blk rfl 106 _ _ rfl wr.heap.size vs rfl rfl HZ (by simp) hlen HI h1c ?_); intro w2 H2; have HS := Lib.hid H2.out.blk; have HP2 := Lib.hid (HP1.out.below (H2.out.below ((Below.refl wr.heap.size wr).alloc (Nat.le_refl _) _) (Nat.le_refl _)) HP1.out.lt))
        | (with_reducible refine wpList_load_blk rfl 106 _ rfl wr.heap.size rfl HS hlen Tryz.underlying106 rfl HI ?_)
        | fail)
      refine (fileIs_any HP2.out HSh.out).mono ?_
      rw [HT]
      rintro e w3 ⟨rfl, hb⟩
      have hb2 := H2.out.below ((Below.refl wr.heap.size wr).alloc (Nat.le_refl _) _) (Nat.le_refl _)
      have HB3 := Lib.hid ((HBw.out.trans (hb2.mono hbz)).trans (hb.mono (Nat.le_trans hbz hb2.size)))
      clear hb hb2
      go_wp2_with fail
      go_roundw
      case rel => exact ⟨j + 1, by omega, by omega, rfl, by go_num, HB3⟩
      case measure => simp [intOf]; omega
    · obtain rfl : j = cs.length := by omega
      have R0 := Lib.hid (HBK.out.below HBw.out HBK.out.lt)
      obtain ⟨Z, hZl, hclr⟩ := run_clear_row wr 78 106 0 z Tryz.underlying78 HZ0.out hz2 (by decide) HZ1.out g (pre.length * 5) (cs.length - pre.length) (cap - pre.length) (by omega) (R0.out.there _ _ (by rw [hcz, Nat.sub_mul]; omega))
      have hne : ¬ cap = pre.length := by omega
      have hlN : pre.length * 5 + Z.length = cs.length * 5 := by rw [hZl, Nat.sub_mul]; omega
      go_wp2_with fail
      go_ret
      have hB2 : Blk (wr.setCells g (pre.length * 5) Z) g 106 (cur.take (pre.length * 5) ++ (Z ++ cur.drop (pre.length * 5 + Z.length))) :=
        R0.out.setCells (pre.length * 5) Z (cur.take (pre.length * 5)) ((cur.drop (pre.length * 5)).take Z.length) (cur.drop (pre.length * 5 + Z.length)) (by rw [← List.drop_drop, List.take_append_drop, List.take_append_drop]) (by simp; omega) (by simp; omega) rfl
      have hKM : KeepM wr (wr.setCells g (pre.length * 5) Z) := fun k es c hk => by
        rw [setCells_far wr g (k := k) (fun e => by
          subst e
          have := R0.out
          unfold Blk at this
          rw [hk] at this
          cases this)]
        exact hk
      refine ⟨rfl, ⟨?_, .inr ⟨g, cap, (cur.take (pre.length * 5) ++ (Z ++ cur.drop (pre.length * 5 + Z.length))).toArray, rfl, hgb, hB2, by omega, hcm, ?_, ?_⟩⟩, ?_, (Keeps.of_below HBw.out (Nat.le_refl _)).trans (Keeps.setCells (by simp) R0.out.typ _ _), (KeepM.of_below HBw.out).trans hKM⟩
      · rw [← hct]; simp; omega
      · simp; omega
      · rw [← hct, List.take_take]
        simp only [List.toList_toArray]
        rw [List.take_append_of_le_length (by simp; omega), List.take_take]
        congr 1
        omega
      · exact (HBw.out.mono (by have := HBK.out.lt; omega)).trans (below_setCells_ hgb _ _)
end Go.Proofs.YtkdmfjpfanmgmaaGreatDoor
namespace Go.Proofs.YtkdmfjpfanmgmaaGreatDoor
open Go.RowKit Le Go.Maps
set_option maxRecDepth 100000
set_option linter.unusedSimpArgs false
set_option linter.unusedVariables false
/-- A file's changes made. -/
def made (f : List UInt8) : List Chg → FM → FM
  | [], F => F
  | c :: r, F => made f r (if (c.file == f) = true then c.run F else F)
def madeOk (f : List UInt8) : List Chg → FM → Prop
  | [], _ => True
  | c :: r, F => ((c.file == f) = true → c.Ok F) ∧ madeOk f r (if (c.file == f) = true then c.run F else F)
theorem made_take {f : List UInt8} : ∀ {cs : List Chg} {j : Nat} (hj : j < cs.length) (F : FM), made f (cs.take (j + 1)) F = if (cs[j].file == f) = true then cs[j].run (made f (cs.take j) F) else made f (cs.take j) F
  | c :: r, 0, _, F => rfl
  | c :: r, j + 1, hj, F => made_take (cs := r) (j := j) (by simpa using hj) (if (c.file == f) = true then c.run F else F)
theorem madeOk_at {f : List UInt8} : ∀ {cs : List Chg} {j : Nat} (hj : j < cs.length) (F : FM), madeOk f cs F → (cs[j].file == f) = true → cs[j].Ok (made f (cs.take j) F)
  | c :: r, 0, _, F, h, he => h.1 he
  | c :: r, j + 1, hj, F, h, he => madeOk_at (cs := r) (j := j) (by simpa using hj) _ h.2 he
theorem ChgsAt.pre {w : World} {base : Nat} : ∀ {pre post : List Chg} {xs : List Value}, ChgsAt w base xs (pre ++ post) → ChgsAt w base (xs.take (pre.length * 5)) pre
  | [], _, _, _ => by simp [ChgsAt]
  | c :: pre, post, _, ⟨v, r, e, h1, h2⟩ => by
    refine ⟨v, r.take (pre.length * 5), ?_, h1, h2.pre⟩
    rw [e, List.length_cons, Nat.add_mul, Nat.one_mul, Nat.add_comm, ← h1.len, List.take_length_add_append]
theorem cDelete_any {w : World} {base p : Nat} {f : List UInt8} {C : Option Addr} {cap : Nat} {cs pre post : List Chg} {xs : List Value} (hp : Blk w p 9 [.string (text f)]) (ho : w.ownsRow base 106 5 (.slice C cs.length cap) cs.length xs) (hc : ChgsAt w base xs cs) (hn : cs.length ≤ 1000) (hbw : base ≤ w.heap.size)
    (he : pre ++ post = cs) (h0 : ∀ c ∈ pre, (c.file == f) = false) (h1 : ∀ c ∈ post, (c.file == f) = true) :
    Calls Tryz.prog 78 #[.slice C cs.length cap, .func (.func 79) #[] #[.pointer (some ⟨p, 0, none⟩)]] w fun e w' => e = .returned (.slice C pre.length cap) ∧
      w'.ownsRow base 106 5 (.slice C pre.length cap) pre.length (xs.take (pre.length * 5)) ∧ Below base w w' ∧ Keeps [106] w w' ∧ KeepM w w' := by
  subst he
  cases post with
  | nil =>
    simp only [List.append_nil] at ho hc hn ⊢
    refine (cDelete_none hp ho hc hn h0).mono ?_
    rintro e w1 ⟨rfl, hb⟩
    have h := ho.below_ hb
    rw [List.take_of_length_le (by rw [h.1]; exact Nat.le_refl _)]
    exact ⟨rfl, h, hb.mono hbw, Keeps.of_below hb (Nat.le_refl _), KeepM.of_below hb⟩
  | cons c post => exact cDelete_some hp ho hc hn h0 (h1 c (by simp)) (fun d hd => h1 d (by simp [hd]))
theorem MapTo.refl {w : World} {base b : Nat} {F : FM} (h : FilesAt w base b F) : MapTo w w base b F := ⟨h, Below.refl _ _, (SameD.refl w).c, Keeps.refl _ _, fun _ _ _ => rfl⟩
theorem MapTo.trans {w w' w'' : World} {base b : Nat} {F F' : FM} (h : MapTo w w' base b F) (g : MapTo w' w'' base b F') : MapTo w w'' base b F' :=
  ⟨g.at_, h.bel.trans g.bel, h.c.trans g.c, h.keeps.trans g.keeps, fun k hk hn => (g.others k (Nat.lt_of_lt_of_le hk h.keeps.size) hn).trans (h.others k hk hn)⟩
theorem MapTo.below {w w' w'' : World} {base b : Nat} {F : FM} (h : MapTo w w' base b F) (g : Below w'.heap.size w' w'') (hb : base ≤ w'.heap.size) : MapTo w w'' base b F :=
  ⟨h.at_.same (SameD.of_below g), h.bel.trans (g.mono hb), h.c.trans (SameC.of_below g), h.keeps.trans (Keeps.of_below g (Nat.le_refl _)), fun k hk hn => (g.block k (Nat.lt_of_lt_of_le hk h.keeps.size)).trans (h.others k hk hn)⟩
set_option maxHeartbeats 3200000 in
theorem Sync_any {w : World} {base d : Nat} {lasts now : FM} {pre post : List Chg} (h : DiskAt w base d lasts now (pre ++ post)) (f : List UInt8) (hf : f.length ≤ 64) (hbw : base ≤ w.heap.size) (hcs : (pre ++ post).length ≤ 1000)
    (hn : nameB f = true) (h0 : ∀ c ∈ pre, (c.file == f) = false) (h1 : ∀ c ∈ post, (c.file == f) = true) (hok : madeOk f (pre ++ post) lasts) :
    Calls Tryz.prog 41 #[.pointer (some ⟨d, 0, none⟩), .string (text f)] w fun e w' => e = .returned (.int .i64 0) ∧ DiskTo w w' base d (made f (pre ++ post) lasts) now pre := by
  obtain ⟨cs, hce⟩ : ∃ cs, pre ++ post = cs := ⟨_, rfl⟩
  rw [hce] at h hcs hok ⊢
  have HCE := Lib.hid hce
  have H := Lib.hid h
  clear h hce
  have hb0 : Below w.heap.size w (w.alloc (.cells #[.string (text f)] 9)) := (Below.refl w.heap.size w).alloc (Nat.le_refl _) _
  have HD0 := Lib.hid (H.out.same (SameD.of_below hb0))
  have HBX := Lib.hid (Blk.new w 9 [.string (text f)])
  have HB0 := Lib.hid hb0
  clear hb0
  go_enter Tryz.func41, Tryz.ntmps41
  go_wp2_with fail
  refine (stopped_any HD0.out).mono ?_
  rintro e w1 ⟨rfl, rfl⟩
  have a0 : (w.alloc (.cells #[.string (text f)] 9)).cell? ⟨w.heap.size, 0, none⟩ = some (.string (text f)) := HBX.out.cell 0
  go_wp2_with fail
  refine (Name_any f _ (by omega)).mono ?_
  rintro e w2 ⟨rfl, nn, rfl⟩
  rw [hn]
  have HD2 := Lib.hid (HD0.out.same (SameD.of_below ((Below.refl _ _).drewN nn)))
  have hbx2 : Blk ((w.alloc (.cells #[.string (text f)] 9)).drewN nn) w.heap.size 9 [.string (text f)] := HBX.out.drewN nn
  have HB2 := Lib.hid (HB0.out.drewN nn)
  have hz2 : ((w.alloc (.cells #[.string (text f)] 9)).drewN nn).heap.size = w.heap.size + 1 := by simp [World.drewN]
  generalize (w.alloc (.cells #[.string (text f)] 9)).drewN nn = W at *
  have HX2 := Lib.hid hbx2
  clear hbx2 a0 HD0 HBX HB0
  obtain ⟨m1, m2, C, cap, xs, g1, g2, g3, g4, g5, g6⟩ := HD2.out.blk
  have HG := Lib.hid g1
  have HF1 := Lib.hid g3
  have HF2 := Lib.hid g4
  have HO := Lib.hid g5
  have HC := Lib.hid g6
  have b3 : W.cell? ⟨d, 3, none⟩ = some (.slice C cs.length cap) := g1.cell 3
  clear g1 g3 g4 g5 g6
  have HI : Hid ((Tryz.prog.info? 106).map (·.size) = some 5) := Lib.hid (by kernel_rfl)
  have HOK := Lib.hid hok
  clear hok
  go_wp2_with fail
  go_loopw [21] (fun i wr => ∃ j : Nat, j ≤ cs.length ∧ i = .int .i64 j ∧ Hid (MapTo W wr base m1 (made f (cs.take j) lasts))) (fun i _ => cs.length - (intOf i).toNat)
  case atStart => exact ⟨0, Nat.zero_le _, rfl, Lib.hid (MapTo.refl HF1.out)⟩
  case round =>
    obtain ⟨j, hj, rfl, HM⟩ := hrel
    by_cases hlt : j < cs.length
    · obtain ⟨g, vs, rfl, hg, hr, hca⟩ := chg_at (HO.out.keeps HM.out.keeps (by simp)) (HC.out.same HM.out.c) hlt
      have HS1 := Lib.hid (made_take (f := f) hlt lasts)
      have HK := Lib.hid (madeOk_at hlt lasts HOK.out)
      have HXr := Lib.hid (HX2.out.keeps HM.out.keeps (by simp))
      have HGr := Lib.hid (HG.out.keeps HM.out.keeps (by simp))
      have hbr : base ≤ wr.heap.size := by have := HM.out.keeps.size; omega
      generalize cs[j] = ch at *
      cases ch with
      | wr fc i m =>
        obtain ⟨p, q, r, A, c, rfl, h1, h2, h3, h4, h5, h6⟩ := hca
        have B1 := Lib.hid h1
        have B2 := Lib.hid h2
        have B3 := Lib.hid h3
        have B4 := Lib.hid h6
        clear h1 h2 h3 h6
        have HGR := Lib.hid hr
        have HL : Hid ((Tryz.prog.info? 106).map (·.size) = some ([.string (text fc), .func (.func 82) #[] #[.pointer (some ⟨p, 0, none⟩), .pointer (some ⟨q, 0, none⟩), .pointer (some ⟨r, 0, none⟩)], .int .i64 i, .slice A m.length c, .bool true] : List Value).length) := Lib.hid HI.out
        have HZ := Lib.hid (Blk.new wr 106 [.string ⟨#[]⟩, .nilFunc, .int .i64 0, .slice none 0 0, .bool false])
        cases hq : (fc == f)
        all_goals go_wp2_with (first
          | (with_reducible refine wpList_load_mid rfl 106 _ rfl g (j * 5) rfl [.string (text fc), .func (.func 82) #[] #[.pointer (some ⟨p, 0, none⟩), .pointer (some ⟨q, 0, none⟩), .pointer (some ⟨r, 0, none⟩)], .int .i64 i, .slice A m.length c, .bool true] _ HGR.out Tryz.underlying106 rfl HL.out ?_)
          | ((with_reducible refine wpList_store_blk rfl 106 _ _ rfl wr.heap.size [.string (text fc), .func (.func 82) #[] #[.pointer (some ⟨p, 0, none⟩), .pointer (some ⟨q, 0, none⟩), .pointer (some ⟨r, 0, none⟩)], .int .i64 i, .slice A m.length c, .bool true] rfl rfl HZ (by simp) (by simp) HI (by simp [Value.oneCell']) ?_)
             intro w2 H2
             have hbd0 : Below wr.heap.size wr w2 := H2.out.below ((Below.refl wr.heap.size wr).alloc (Nat.le_refl _) _) (Nat.le_refl _)
             have c0 : w2.cell? ⟨wr.heap.size, 0, none⟩ = some (.string (text fc)) := H2.out.blk.cell 0
             have c1 : w2.cell? ⟨wr.heap.size, 1, none⟩ = some (.func (.func 82) #[] #[.pointer (some ⟨p, 0, none⟩), .pointer (some ⟨q, 0, none⟩), .pointer (some ⟨r, 0, none⟩)]) := H2.out.blk.cell 1
             have e0 : w2.cell? ⟨w.heap.size, 0, none⟩ = some (.string (text f)) := (HXr.out.below hbd0 HXr.out.lt).cell 0
             have e1 : w2.cell? ⟨d, 1, none⟩ = some (.map (some m1)) := (HGr.out.below hbd0 HGr.out.lt).cell 1
             have HBD := Lib.hid hbd0
             clear hbd0)
          | fail)
        · have HS' : Hid (made f (cs.take (j + 1)) lasts = made f (cs.take j) lasts) := Lib.hid (by have := HS1.out; simp only [Chg.file, hq] at this; exact this)
          go_roundw
          case rel => exact ⟨j + 1, by omega, by go_num, Lib.hid (by rw [HS'.out]; exact HM.out.below HBD.out hbr)⟩
          case measure => simp [intOf]; omega
        · have HS' := HS1.out
          simp only [Chg.file, hq, if_true] at HS'
          replace HS' := Lib.hid HS'
          refine wp_region_held_drew (S := fun w' => w'.cell? ⟨wr.heap.size, 1, none⟩ = some (.func (.func 82) #[] #[.pointer (some ⟨p, 0, none⟩), .pointer (some ⟨q, 0, none⟩), .pointer (some ⟨r, 0, none⟩)]) ∧ w'.cell? ⟨d, 1, none⟩ = some (.map (some m1))) (by kernel_rfl) ⟨c1, e1⟩ (fun HD => ?_)
          refine wpAnyH_take (i := 0) (oi := ⟨some 29, _, _, _, _, _⟩) (v := (.pointer (some ⟨wr.heap.size, 1, none⟩))) rfl (by kernel_rfl) (by kernel_rfl) (by kernel_rfl) (fun _ _ _ h => h) (Or.inl ⟨by rfl, ?_⟩) HD ?_
          · intro w' hw'
            (go_simp; try with_reducible rfl)
          (try simp only [Act.put, List.setIfInBounds_toArray, List.set_cons_zero, List.set_cons_succ])
          refine wpAnyH_take (i := 1) (oi := ⟨some 30, _, _, _, _, _⟩) (v := (.func (.func 82) #[] #[.pointer (some ⟨p, 0, none⟩), .pointer (some ⟨q, 0, none⟩), .pointer (some ⟨r, 0, none⟩)])) rfl (by kernel_rfl) (by kernel_rfl) (by kernel_rfl) (fun _ _ _ h => h) (Or.inl ⟨by rfl, ?_⟩) HD ?_
          · intro w' hw'
            (go_simp; try with_reducible rfl)
          (try simp only [Act.put, List.setIfInBounds_toArray, List.set_cons_zero, List.set_cons_succ])
          refine wpAnyH_take (i := 2) (oi := ⟨some 31, _, _, _, _, _⟩) (v := (.pointer (some ⟨d, 0, none⟩))) rfl (by kernel_rfl) (by kernel_rfl) (by kernel_rfl) (fun _ _ _ h => h) (Or.inl ⟨by rfl, ?_⟩) HD ?_
          · intro w' hw'
            (go_simp; try with_reducible rfl)
          (try simp only [Act.put, List.setIfInBounds_toArray, List.set_cons_zero, List.set_cons_succ])
          refine wpAnyH_take (i := 3) (oi := ⟨some 32, _, _, _, _, _⟩) (v := (.pointer (some ⟨d, 0, none⟩))) rfl (by kernel_rfl) (by kernel_rfl) (by kernel_rfl) (fun _ _ _ h => h) (Or.inl ⟨by rfl, ?_⟩) HD ?_
          · intro w' hw'
            (go_simp; try with_reducible rfl)
          (try simp only [Act.put, List.setIfInBounds_toArray, List.set_cons_zero, List.set_cons_succ])
          refine wpAnyH_take (i := 4) (oi := ⟨some 33, _, _, _, _, _⟩) (v := (.pointer (some ⟨d, 1, none⟩))) rfl (by kernel_rfl) (by kernel_rfl) (by kernel_rfl) (fun _ _ _ h => h) (Or.inl ⟨by rfl, ?_⟩) HD ?_
          · intro w' hw'
            (go_simp; try with_reducible rfl)
          (try simp only [Act.put, List.setIfInBounds_toArray, List.set_cons_zero, List.set_cons_succ])
          refine wpAnyH_take (i := 5) (oi := ⟨some 34, _, _, _, _, _⟩) (v := (.map (some m1))) rfl (by kernel_rfl) (by kernel_rfl) (by kernel_rfl) (fun _ _ _ h => h) (Or.inl ⟨by rfl, ?_⟩) HD ?_
          · intro w' hw'
            (go_simp; try with_reducible rfl)
          (try simp only [Act.put, List.setIfInBounds_toArray, List.set_cons_zero, List.set_cons_succ])
          refine wpAnyH_ready (rs := [6]) (by kernel_rfl) (by simp) ?_
          refine AllReadyH.cons (o := ⟨some 35, _, _, _, _, _⟩) rfl (fun K hK => ?_) AllReadyH.nil
          go_simp
          have hbd := HBD.out.drew
          go_at_call 82
          obtain ⟨k1, k2, k3, k4, k5, k6⟩ := HK.out hq
          refine (doWr_any (HM.out.at_.same (SameD.of_below hbd)) (B1.out.same (SameC.of_below hbd) (by decide)) (B2.out.same (SameC.of_below hbd) (by decide)) (B3.out.same (SameC.of_below hbd) (by decide)) (B4.out.same (SameC.of_below hbd)) (by unfold maxLen; omega) k2 k3 k4 k5 k6 (Nat.le_trans hbr hbd.size)).mono ?_
          rintro e w3 ⟨rfl, hM3⟩
          have HM3 := Lib.hid ((HM.out.below hbd hbr).trans hM3)
          refine hK.out _ _ ⟨?_, ?_⟩ (fun HD => ?_)
          · exact (((Blk.drew H2.out.blk).keeps hM3.keeps (by simp)).cell 1)
          · exact ((((HGr.out.below HBD.out HGr.out.lt).drew).keeps hM3.keeps (by simp)).cell 1)
          clear hK K HD hM3
          (try simp only [Act.put, List.setIfInBounds_toArray, List.set_cons_zero, List.set_cons_succ])
          refine wpAnyH_done (by kernel_rfl) ?_ _
          go_wp2_with fail
          go_roundw
          case rel => exact ⟨j + 1, by omega, by go_num, Lib.hid (by rw [HS'.out]; exact HM3.out)⟩
          case measure => simp [intOf]; omega
      | rm fc =>
        obtain ⟨p, rfl, h1⟩ := hca
        have B1 := Lib.hid h1
        clear h1
        have HGR := Lib.hid hr
        have HL : Hid ((Tryz.prog.info? 106).map (·.size) = some ([.string (text fc), .func (.func 77) #[] #[.pointer (some ⟨p, 0, none⟩)], .int .i64 0, .slice none 0 0, .bool false] : List Value).length) := Lib.hid HI.out
        have HZ := Lib.hid (Blk.new wr 106 [.string ⟨#[]⟩, .nilFunc, .int .i64 0, .slice none 0 0, .bool false])
        cases hq : (fc == f)
        all_goals go_wp2_with (first
          | (with_reducible refine wpList_load_mid rfl 106 _ rfl g (j * 5) rfl [.string (text fc), .func (.func 77) #[] #[.pointer (some ⟨p, 0, none⟩)], .int .i64 0, .slice none 0 0, .bool false] _ HGR.out Tryz.underlying106 rfl HL.out ?_)
          | ((with_reducible refine wpList_store_blk rfl 106 _ _ rfl wr.heap.size [.string (text fc), .func (.func 77) #[] #[.pointer (some ⟨p, 0, none⟩)], .int .i64 0, .slice none 0 0, .bool false] rfl rfl HZ (by simp) (by simp) HI (by simp [Value.oneCell']) ?_)
             intro w2 H2
             have hbd0 : Below wr.heap.size wr w2 := H2.out.below ((Below.refl wr.heap.size wr).alloc (Nat.le_refl _) _) (Nat.le_refl _)
             have c0 : w2.cell? ⟨wr.heap.size, 0, none⟩ = some (.string (text fc)) := H2.out.blk.cell 0
             have c1 : w2.cell? ⟨wr.heap.size, 1, none⟩ = some (.func (.func 77) #[] #[.pointer (some ⟨p, 0, none⟩)]) := H2.out.blk.cell 1
             have e0 : w2.cell? ⟨w.heap.size, 0, none⟩ = some (.string (text f)) := (HXr.out.below hbd0 HXr.out.lt).cell 0
             have e1 : w2.cell? ⟨d, 1, none⟩ = some (.map (some m1)) := (HGr.out.below hbd0 HGr.out.lt).cell 1
             have HBD := Lib.hid hbd0
             clear hbd0)
          | fail)
        · have HS' : Hid (made f (cs.take (j + 1)) lasts = made f (cs.take j) lasts) := Lib.hid (by have := HS1.out; simp only [Chg.file, hq] at this; exact this)
          go_roundw
          case rel => exact ⟨j + 1, by omega, by go_num, Lib.hid (by rw [HS'.out]; exact HM.out.below HBD.out hbr)⟩
          case measure => simp [intOf]; omega
        · have HS' := HS1.out
          simp only [Chg.file, hq, if_true] at HS'
          replace HS' := Lib.hid HS'
          refine wp_region_held_drew (S := fun w' => w'.cell? ⟨wr.heap.size, 1, none⟩ = some (.func (.func 77) #[] #[.pointer (some ⟨p, 0, none⟩)]) ∧ w'.cell? ⟨d, 1, none⟩ = some (.map (some m1))) (by kernel_rfl) ⟨c1, e1⟩ (fun HD => ?_)
          refine wpAnyH_take (i := 0) (oi := ⟨some 29, _, _, _, _, _⟩) (v := (.pointer (some ⟨wr.heap.size, 1, none⟩))) rfl (by kernel_rfl) (by kernel_rfl) (by kernel_rfl) (fun _ _ _ h => h) (Or.inl ⟨by rfl, ?_⟩) HD ?_
          · intro w' hw'
            (go_simp; try with_reducible rfl)
          (try simp only [Act.put, List.setIfInBounds_toArray, List.set_cons_zero, List.set_cons_succ])
          refine wpAnyH_take (i := 1) (oi := ⟨some 30, _, _, _, _, _⟩) (v := (.func (.func 77) #[] #[.pointer (some ⟨p, 0, none⟩)])) rfl (by kernel_rfl) (by kernel_rfl) (by kernel_rfl) (fun _ _ _ h => h) (Or.inl ⟨by rfl, ?_⟩) HD ?_
          · intro w' hw'
            (go_simp; try with_reducible rfl)
          (try simp only [Act.put, List.setIfInBounds_toArray, List.set_cons_zero, List.set_cons_succ])
          refine wpAnyH_take (i := 2) (oi := ⟨some 31, _, _, _, _, _⟩) (v := (.pointer (some ⟨d, 0, none⟩))) rfl (by kernel_rfl) (by kernel_rfl) (by kernel_rfl) (fun _ _ _ h => h) (Or.inl ⟨by rfl, ?_⟩) HD ?_
          · intro w' hw'
            (go_simp; try with_reducible rfl)
          (try simp only [Act.put, List.setIfInBounds_toArray, List.set_cons_zero, List.set_cons_succ])
          refine wpAnyH_take (i := 3) (oi := ⟨some 32, _, _, _, _, _⟩) (v := (.pointer (some ⟨d, 0, none⟩))) rfl (by kernel_rfl) (by kernel_rfl) (by kernel_rfl) (fun _ _ _ h => h) (Or.inl ⟨by rfl, ?_⟩) HD ?_
          · intro w' hw'
            (go_simp; try with_reducible rfl)
          (try simp only [Act.put, List.setIfInBounds_toArray, List.set_cons_zero, List.set_cons_succ])
          refine wpAnyH_take (i := 4) (oi := ⟨some 33, _, _, _, _, _⟩) (v := (.pointer (some ⟨d, 1, none⟩))) rfl (by kernel_rfl) (by kernel_rfl) (by kernel_rfl) (fun _ _ _ h => h) (Or.inl ⟨by rfl, ?_⟩) HD ?_
          · intro w' hw'
            (go_simp; try with_reducible rfl)
          (try simp only [Act.put, List.setIfInBounds_toArray, List.set_cons_zero, List.set_cons_succ])
          refine wpAnyH_take (i := 5) (oi := ⟨some 34, _, _, _, _, _⟩) (v := (.map (some m1))) rfl (by kernel_rfl) (by kernel_rfl) (by kernel_rfl) (fun _ _ _ h => h) (Or.inl ⟨by rfl, ?_⟩) HD ?_
          · intro w' hw'
            (go_simp; try with_reducible rfl)
          (try simp only [Act.put, List.setIfInBounds_toArray, List.set_cons_zero, List.set_cons_succ])
          refine wpAnyH_ready (rs := [6]) (by kernel_rfl) (by simp) ?_
          refine AllReadyH.cons (o := ⟨some 35, _, _, _, _, _⟩) rfl (fun K hK => ?_) AllReadyH.nil
          go_simp
          have hbd := HBD.out.drew
          go_at_call 77
          have k1 : fc.length ≤ 64 := HK.out hq
          refine (doRm_any (HM.out.at_.same (SameD.of_below hbd)) (B1.out.same (SameC.of_below hbd) (by decide)) (by unfold maxLen; omega)).mono ?_
          rintro e w3 ⟨rfl, hM3⟩
          have HM3 := Lib.hid ((HM.out.below hbd hbr).trans hM3)
          refine hK.out _ _ ⟨?_, ?_⟩ (fun HD => ?_)
          · exact (((Blk.drew H2.out.blk).keeps hM3.keeps (by simp)).cell 1)
          · exact ((((HGr.out.below HBD.out HGr.out.lt).drew).keeps hM3.keeps (by simp)).cell 1)
          clear hK K HD hM3
          (try simp only [Act.put, List.setIfInBounds_toArray, List.set_cons_zero, List.set_cons_succ])
          refine wpAnyH_done (by kernel_rfl) ?_ _
          go_wp2_with fail
          go_roundw
          case rel => exact ⟨j + 1, by omega, by go_num, Lib.hid (by rw [HS'.out]; exact HM3.out)⟩
          case measure => simp [intOf]; omega
    · obtain rfl : j = cs.length := by omega
      rw [List.take_length] at HM
      have hbr : base ≤ wr.heap.size := by have := HM.out.keeps.size; omega
      have HXr := Lib.hid (HX2.out.keeps HM.out.keeps (by simp))
      have HGr := Lib.hid (HG.out.keeps HM.out.keeps (by simp))
      have HOr := Lib.hid (HO.out.keeps HM.out.keeps (by simp))
      have HCr := Lib.hid (HC.out.same HM.out.c)
      have HFr := Lib.hid (HF2.out.other HM.out.c (HM.out.others m2 HF2.out.lt (fun e => g2 e.symm)))
      have HBr : Hid (Below base w wr) := Lib.hid ((HB2.out.mono hbw).trans HM.out.bel)
      have HKr : Hid (Keeps [80, 106] w wr) := Lib.hid ((Keeps.of_below HB2.out (Nat.le_refl _)).trans (HM.out.keeps.more (by simp)))
      have q3 : wr.cell? ⟨d, 3, none⟩ = some (.slice C cs.length cap) := HGr.out.cell 3
      have hge := H.out.ge
      clear b3
      go_wp2_with fail
      refine (cDelete_any HXr.out HOr.out HCr.out hcs hbr HCE.out h0 h1).mono ?_
      rintro e w2 ⟨rfl, hd1, hd2, hd3, hd4⟩
      have HO3 := Lib.hid hd1
      have HB3 := Lib.hid (HBr.out.trans hd2)
      have HK3 := Lib.hid hd3
      have HM3 := Lib.hid hd4
      have HG3 := Lib.hid (HGr.out.keeps hd3 (by decide))
      clear hd1 hd2 hd3 hd4 q3
      have f3 : w2.frozen? ⟨d, 3, none⟩ = false := HG3.out.frozen 3
      have q3 : w2.cell? ⟨d, 3, none⟩ = some (.slice C cs.length cap) := HG3.out.cell 3
      go_wp2_with fail
      have K3 : Keeps [80, 106] wr (w2.setCell ⟨d, 3, none⟩ (.slice C pre.length cap)) := (HK3.out.more (by simp)).trans (Keeps.set_ HG3.out.typ (by simp) _)
      have M3 : KeepM wr (w2.setCell ⟨d, 3, none⟩ (.slice C pre.length cap)) := HM3.out.trans (KeepM.set HG3.out.typ _)
      have hcp := HCr.out
      rw [← HCE.out] at hcp
      have HT : Hid (DiskTo w (w2.setCell ⟨d, 3, none⟩ (.slice C pre.length cap)) base d (made f cs lasts) now pre) := Lib.hid ⟨⟨hge, m1, m2, C, cap, xs.take (pre.length * 5), by have := HG3.out.set_ 3 (.slice C pre.length cap); simpa using this, g2, HM.out.at_.keep (SameC.of_keeps K3) M3, HFr.out.keep (SameC.of_keeps K3) M3, HO3.out.keeps (Keeps.set_ (i := 3) (ts := [80]) HG3.out.typ (by simp) (.slice C pre.length cap)) (by decide), hcp.pre.same (SameC.of_keeps K3)⟩, HB3.out.setCell hge _, HKr.out.trans K3⟩
      clear K3 M3 hcp
      refine (step_any HT.out.at_).mono ?_
      rintro e w6 ⟨rfl, rfl⟩
      go_wp2_with fail
      go_ret
      exact ⟨rfl, HT.out⟩
end Go.Proofs.YtkdmfjpfanmgmaaGreatDoor
