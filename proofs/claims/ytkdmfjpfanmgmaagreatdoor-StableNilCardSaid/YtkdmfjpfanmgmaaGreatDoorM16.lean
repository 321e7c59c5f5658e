/- Joined by mkmerge.py from the proof's texts Disk2, Disk3. Conditions: each theorem's own hypotheses. -/
import Derived.Test.YtkdmfjpfanmgmaaGreatDoorM10
import Derived.Test.YtkdmfjpfanmgmaaGreatDoorM15
import Derived.Test.YtkdmfjpfanmgmaaGreatDoorM08
namespace Go.Proofs.YtkdmfjpfanmgmaaGreatDoor
open Go.RowKit Le Go.Maps
set_option maxRecDepth 100000
set_option linter.unusedSimpArgs false
set_option linter.unusedVariables false
/-- A box: a variable of one cell that is captured. -/
def Box (w : World) (base g : Nat) (t : TypeId) (v : Value) : Prop := base ≤ g ∧ Blk w g t [v]
/-- A change's cells. -/
def ChgAt (w : World) (base : Nat) (vs : List Value) : Chg → Prop
  | .wr f i b => ∃ p q r A c, vs = [.string (text f), .func (.func 82) #[] #[.pointer (some ⟨p, 0, none⟩), .pointer (some ⟨q, 0, none⟩), .pointer (some ⟨r, 0, none⟩)], .int .i64 i, .slice A b.length c, .bool true] ∧
      Box w base p 9 (.string (text f)) ∧ Box w base q 3 (.int .i64 i) ∧ Box w base r 72 (.slice A b.length c) ∧ b.length ≤ c ∧ c ≤ maxLen ∧ BytesN w base A b
  | .rm f => ∃ p, vs = [.string (text f), .func (.func 77) #[] #[.pointer (some ⟨p, 0, none⟩)], .int .i64 0, .slice none 0 0, .bool false] ∧ Box w base p 9 (.string (text f))
theorem Box.same {w w' : World} {base g : Nat} {t : TypeId} {v : Value} (h : Box w base g t v) (hs : SameC w w') (ht : [5, 9, 3, 72].contains t = true) : Box w' base g t v :=
  ⟨h.1, hs.2 g _ _ _ h.2 ht⟩
theorem ChgAt.same {w w' : World} {base : Nat} {vs : List Value} {c : Chg} (h : ChgAt w base vs c) (hs : SameC w w') : ChgAt w' base vs c := by
  cases c with
  | wr f i b =>
    obtain ⟨p, q, r, A, c, e, h1, h2, h3, h4, h5, h6⟩ := h
    exact ⟨p, q, r, A, c, e, h1.same hs (by decide), h2.same hs (by decide), h3.same hs (by decide), h4, h5, h6.same hs⟩
  | rm f =>
    obtain ⟨p, e, h1⟩ := h
    exact ⟨p, e, h1.same hs (by decide)⟩
theorem ChgAt.len {w : World} {base : Nat} {vs : List Value} {c : Chg} (h : ChgAt w base vs c) : vs.length = 5 := by
  cases c with
  | wr f i b => obtain ⟨p, q, r, A, c, rfl, _⟩ := h; rfl
  | rm f => obtain ⟨p, rfl, _⟩ := h; rfl
/-- Changes, one behind the other. -/
def ChgsAt (w : World) (base : Nat) : List Value → List Chg → Prop
  | xs, [] => xs = []
  | xs, c :: cs => ∃ v r, xs = v ++ r ∧ ChgAt w base v c ∧ ChgsAt w base r cs
theorem ChgsAt.same {w w' : World} {base : Nat} (hs : SameC w w') : ∀ {cs : List Chg} {xs : List Value}, ChgsAt w base xs cs → ChgsAt w' base xs cs
  | [], _, h => h
  | c :: cs, _, ⟨v, r, e, h1, h2⟩ => ⟨v, r, e, h1.same hs, ChgsAt.same hs h2⟩
/-- A disk. -/
structure DiskAt (w : World) (base d : Nat) (lasts now : FM) (cs : List Chg) : Prop where
  ge : base ≤ d
  blk : ∃ m1 m2 C cap xs, Blk w d 80 [.int .i64 4194304, .map (some m1), .map (some m2), .slice C cs.length cap, .bool false, .bool false, .int .i64 0] ∧ m1 ≠ m2 ∧ FilesAt w base m1 lasts ∧ FilesAt w base m2 now ∧
    w.ownsRow base 106 5 (.slice C cs.length cap) cs.length xs ∧ ChgsAt w base xs cs
theorem ownsRow_same {w w' : World} {base n : Nat} {v : Value} {xs : List Value} (h : w.ownsRow base 106 5 v n xs) (hs : SameD w w') : w'.ownsRow base 106 5 v n xs := by
  refine ⟨h.1, ?_⟩
  rcases h.2 with hn | ⟨g, cap, cur, e, hb, hg, rest⟩
  · exact .inl hn
  · exact .inr ⟨g, cap, cur, e, hb, hs.2 g _ hg (by simp only [isD]; decide), rest⟩
theorem DiskAt.same {w w' : World} {base d : Nat} {lasts now : FM} {cs : List Chg} (h : DiskAt w base d lasts now cs) (hs : SameD w w') : DiskAt w' base d lasts now cs := by
  obtain ⟨m1, m2, C, cap, xs, h1, h2, h3, h4, h5, h6⟩ := h.blk
  exact ⟨h.ge, m1, m2, C, cap, xs, hs.2 d _ h1 (by simp only [isD]; decide), h2, h3.same hs, h4.same hs, ownsRow_same h5 hs, h6.same hs.c⟩
/-- What a call on a disk leaves. -/
structure DiskTo (w w' : World) (base d : Nat) (lasts now : FM) (cs : List Chg) : Prop where
  at_ : DiskAt w' base d lasts now cs
  bel : Below base w w'
  keeps : Keeps [80, 106] w w'
section
variable {w : World} {base d : Nat} {lasts now : FM} {cs : List Chg}
set_option maxHeartbeats 800000 in
theorem stopped_any (h : DiskAt w base d lasts now cs) : Calls Tryz.prog 75 #[.pointer (some ⟨d, 0, none⟩)] w fun e w' => e = .returned (.int .i64 0) ∧ w = w' := by
  obtain ⟨m1, m2, C, cap, xs, h1, _⟩ := h.blk
  have a4 : w.cell? ⟨d, 4, none⟩ = some (.bool false) := h1.cell 4
  clear h1 h
  go_enter Tryz.func75, Tryz.ntmps75
  go_wp2
  go_ret
  exact ⟨rfl, rfl⟩
set_option maxHeartbeats 800000 in
theorem Down_any (h : DiskAt w base d lasts now cs) : Calls Tryz.prog 12 #[.pointer (some ⟨d, 0, none⟩)] w fun e w' => e = .returned (.bool false) ∧ w = w' := by
  obtain ⟨m1, m2, C, cap, xs, h1, _⟩ := h.blk
  have a4 : w.cell? ⟨d, 4, none⟩ = some (.bool false) := h1.cell 4
  clear h1 h
  go_enter Tryz.func12, Tryz.ntmps12
  go_wp2
  go_ret
  exact ⟨rfl, rfl⟩
set_option maxHeartbeats 800000 in
theorem step_any (h : DiskAt w base d lasts now cs) : Calls Tryz.prog 80 #[.pointer (some ⟨d, 0, none⟩)] w fun e w' => e = .returned (.tuple #[]) ∧ w = w' := by
  obtain ⟨m1, m2, C, cap, xs, h1, _⟩ := h.blk
  have a5 : w.cell? ⟨d, 5, none⟩ = some (.bool false) := h1.cell 5
  clear h1 h
  go_enter Tryz.func80, Tryz.ntmps80
  go_wp2
  go_end0
  exact ⟨rfl, rfl⟩
end
set_option maxHeartbeats 800000 in
theorem dNew_any (w : World) : Calls Tryz.prog 44 #[.int .i64 4194304] w fun e w' => ∃ d, e = .returned (.tuple #[.pointer (some ⟨d, 0, none⟩), .int .i64 0]) ∧ DiskAt w' w.heap.size d [] [] [] ∧ Below w.heap.size w w' := by
  have hmm := @run_makeMap Tryz.prog
  go_enter Tryz.func44, Tryz.ntmps44
  go_wp2_with fail
  have hB := Blk.new ((w.alloc (.map #[] 0)).alloc (.map #[] 0)) 80 [.int .i64 4194304, .map (some w.heap.size), .map (some (w.heap.size + 1)), .slice none 0 0, .bool false, .bool false, .int .i64 0]
  have hF1 : FilesAt (((w.alloc (.map #[] 0)).alloc (.map #[] 0)).alloc (.cells #[.int .i64 4194304, .map (some w.heap.size), .map (some (w.heap.size + 1)), .slice none 0 0, .bool false, .bool false, .int .i64 0] 80)) w.heap.size w.heap.size [] :=
    (FilesAt.made w (Nat.le_refl _)).same ((SameD.of_below ((Below.refl _ _).alloc (Nat.le_refl _) _)).trans (SameD.of_below ((Below.refl _ _).alloc (Nat.le_refl _) _)))
  have hF2 : FilesAt (((w.alloc (.map #[] 0)).alloc (.map #[] 0)).alloc (.cells #[.int .i64 4194304, .map (some w.heap.size), .map (some (w.heap.size + 1)), .slice none 0 0, .bool false, .bool false, .int .i64 0] 80)) w.heap.size (w.heap.size + 1) [] := by
    have := (FilesAt.made (w.alloc (.map #[] 0)) (base := w.heap.size) (by simp)).same (SameD.of_below ((Below.refl _ _).alloc (Nat.le_refl _) (.cells #[.int .i64 4194304, .map (some w.heap.size), .map (some (w.heap.size + 1)), .slice none 0 0, .bool false, .bool false, .int .i64 0] 80)))
    simpa using this
  have hbel : Below w.heap.size w (((w.alloc (.map #[] 0)).alloc (.map #[] 0)).alloc (.cells #[.int .i64 4194304, .map (some w.heap.size), .map (some (w.heap.size + 1)), .slice none 0 0, .bool false, .bool false, .int .i64 0] 80)) := (by repeat (first | with_reducible exact (Below.refl w.heap.size w) | (with_reducible refine Below.setCell ?_ (by dsimp only; (first | omega | (simp; done) | (simp; omega))) _) | (with_reducible refine Below.alloc ?_ (by (first | omega | (simp; done) | (simp; omega))) _) | with_reducible refine Below.drew ?_))
  go_ret2
  refine ⟨w.heap.size + 1 + 1, rfl, ⟨by omega, w.heap.size, w.heap.size + 1, none, 0, [], by simpa using hB, by omega, hF1, hF2, World.ownsRow_nil _ _ _ _, rfl⟩, hbel⟩
theorem BytesN.of_made {w0 w : World} {A : Option Addr} {n c : Nat} {l : List UInt8} (h : Made w0 w 5 A n c l) : BytesN w w0.heap.size A l := by
  have hl := h.len
  refine ⟨by rw [hl]; exact h.reads, fun ad e hn => ?_⟩
  subst e
  rcases h.own.2 with ⟨h1, _⟩ | ⟨g, cap, cur, h1, h2, h3, _⟩
  · cases h1
  · injection h1 with h1
    injection h1 with h1
    subst h1
    exact ⟨h2, _, by simp, cur, h3⟩
theorem BytesN.nil (w : World) (base : Nat) : BytesN w base none [] := ⟨⟨rfl, fun h => absurd h (by simp)⟩, fun ad e => by cases e⟩
theorem BytesN.mono {w : World} {base base' : Nat} {A : Option Addr} {l : List UInt8} (h : BytesN w base A l) (hb : base' ≤ base) : BytesN w base' A l := ⟨h.1, fun ad e hn => (h.2 ad e hn).mono hb (fun _ h => h)⟩
/-- What slices.Clone of bytes gives. -/
def CloneEnd (w : World) (l : List UInt8) (e : Ending) (w' : World) : Prop := ∃ A c, e = .returned (.slice A l.length c) ∧ l.length ≤ c ∧ c ≤ maxLen ∧ BytesN w' w.heap.size A l ∧ Below w.heap.size w w'
set_option maxHeartbeats 800000 in
theorem cloneB_any (A : Option Addr) (c : Nat) (l : List UInt8) (w : World) (hb : Reads w w.heap.size A l.length (u8s l)) (hk : l.length ≤ 1099511627776) :
    Calls Tryz.prog 74 #[.slice A l.length c] w (CloneEnd w l) := by
  cases A with
  | none =>
    have h0 : l = [] := by
      rcases Nat.eq_zero_or_pos l.length with h | h
      · exact List.eq_nil_of_length_eq_zero h
      · obtain ⟨ad, e, _⟩ := hb.2 h
        cases e
    subst h0
    have kn : ∀ w, (binOp .eql 72 (.slice none 0 c) (.slice none 0 0)).run Tryz.prog w = .ok (.bool true) w := fun w => Lib.run_eql_slice_nil w _ _ _ _ _ _ _ Tryz.underlying72
    go_enter Tryz.func74, Tryz.ntmps74
    go_wp2
    go_ret
    exact ⟨none, 0, rfl, Nat.le_refl _, by simp [maxLen], BytesN.nil _ _, Below.refl _ _⟩
  | some ad =>
    refine (clone_any ad l.length c l w hb hk).mono ?_
    rintro e w' ⟨A', c', rfl, hm⟩
    have := own_cap hm.own
    exact ⟨A', c', rfl, this.1, by unfold maxLen; omega, BytesN.of_made hm, hm.below⟩
/-- What Read gives. -/
def ReadEnd (w : World) (x : Option (List UInt8)) (e : Ending) (w' : World) : Prop :=
  Below w.heap.size w w' ∧ match x with
  | none => e = .returned (.tuple #[.slice none 0 0, .int .i64 122])
  | some l => ∃ A c, e = .returned (.tuple #[.slice A l.length c, .int .i64 0]) ∧ l.length ≤ c ∧ c ≤ maxLen ∧ BytesN w' w.heap.size A l
set_option maxHeartbeats 1600000 in
theorem Read_any {w : World} {base d : Nat} {lasts now : FM} {cs : List Chg} (h : DiskAt w base d lasts now cs) (k : List UInt8) (hk : k.length ≤ maxLen) (hl : ∀ l, now.get k = some l → l.length ≤ 1099511627776) :
    Calls Tryz.prog 38 #[.pointer (some ⟨d, 0, none⟩), .string (text k)] w (ReadEnd w (now.get k)) := by
  obtain ⟨m1, m2, C, cap, xs, h1, _, _, h4, _⟩ := h.blk
  have a2 : w.cell? ⟨d, 2, none⟩ = some (.map (some m2)) := h1.cell 2
  obtain ⟨v, hrun, hf⟩ := h4.look_ok hk
  clear h1 h h4
  cases hg : now.get k with
  | none =>
    rw [hg] at hrun hf
    simp only [Found] at hf
    subst hf
    simp only [Option.isSome_none] at hrun
    go_enter Tryz.func38, Tryz.ntmps38
    go_wp2_with fail
    go_ret2
    exact ⟨Below.refl _ _, rfl⟩
  | some l =>
    rw [hg] at hrun hf
    obtain ⟨A, c, rfl, h2, h3, h5⟩ := hf
    simp only [Option.isSome_some] at hrun
    have hll := hl l hg
    have HB := Lib.hid h5.1
    clear h5 hl hg
    go_enter Tryz.func38, Tryz.ntmps38
    go_wp2_with fail
    refine (cloneB_any A c l w HB.out hll).mono ?_
    rintro e w1 ⟨A', c', rfl, h6, h7, h8, h9⟩
    have H8 := Lib.hid h8
    clear h8
    go_wp2_with fail
    go_ret2
    exact ⟨h9, A', c', rfl, h6, h7, H8.out⟩
end Go.Proofs.YtkdmfjpfanmgmaaGreatDoor
namespace Go.Proofs.YtkdmfjpfanmgmaaGreatDoor
open Go.RowKit Le Go.Maps
set_option maxRecDepth 100000
set_option linter.unusedSimpArgs false
set_option linter.unusedVariables false
/-- copy onto a place within a block that is known whole. -/
theorem wpList_copy_at {P : Program} {w : World} {ops : Array Oper} {rest : List Oper} {o : Oper} {a : Act} {Q : Exit → Act → World → Prop} (hgd : o.guard = none) (d s : Operand) (dT sT : TypeId)
    (ho : o.op = .call { callee := .builtin .copy, args := #[d, s], argTypes := #[dT, sT] }) (elem : TypeId) (hu : P.underlying dT = some (.slice elem)) (hsz : (P.info? elem).map (·.size) = some 1)
    (g off dLen dCap : Nat) (sp : Option Addr) (sLen sCap : Nat) (hd : a.eval d = .slice (some ⟨g, off, none⟩) dLen dCap) (hs : a.eval s = .slice sp sLen sCap)
    (t : TypeId) (cur : List Value) (hg : Blk w g t cur) (B : Nat) (xs : List Value) (hr : Reads w B sp sLen xs) (h1 : ∀ v ∈ xs, v.oneCell' = true) (hle : sLen ≤ dLen) (hcur : off + sLen ≤ cur.length)
    (B0 : Nat) (w0 : World) (hb : Below B0 w0 w) (hBg : B0 ≤ g)
    (h : ∀ w', Hid (Blk w' g t (cur.take off ++ (xs ++ cur.drop (off + sLen)))) → Below B0 w0 w' → w'.heap.size = w.heap.size → (∀ k, k ≠ g → w'.heap[k]? = w.heap[k]?) → wpList P ops Q rest (a.put o.dst (goInt sLen)) w') : wpList P ops Q (o :: rest) a w := by
  have hl := hr.1
  by_cases h0 : sLen = 0
  · subst h0
    obtain rfl : xs = [] := List.eq_nil_of_length_eq_zero hl
    refine wpList_copy_nothing hgd d s dT sT ho elem hu hsz _ sp dLen dCap 0 sCap hd hs (by simp) ?_
    exact h w (show _ = _ by simpa [Blk] using hg) hb rfl (fun _ _ => rfl)
  · obtain ⟨ad, rfl, _, hc⟩ := hr.2 (by omega)
    have hn : xs.length = Nat.min sLen dLen := by rw [hl]; exact (Nat.min_eq_left hle).symm
    refine wpList_copy_own hgd d s dT sT ho elem hu hsz g off dLen dCap ad sLen sCap hd hs cur.toArray t hg xs hn hc (by simp; omega) h1 ?_
    have e : (cur.toArray.toList.take off ++ (xs ++ cur.toArray.toList.drop (off + xs.length))).toArray = (cur.take off ++ (xs ++ cur.drop (off + sLen))).toArray := by simp [hl]
    rw [e, hl]
    exact h _ (show _ = _ from setRow_heap w g _ _ t _ hg) (below_setRow hb hBg _) (by simp [World.setRow]) (fun k hk => setRow_other w g k _ hk)
theorem laidB_len (l : List UInt8) (i : Nat) (m : List UInt8) (hi : i ≤ l.length) : (laidB l i m).length = max l.length (i + m.length) := by
  simp [laidB, List.length_take]
  omega
set_option maxHeartbeats 1600000 in
theorem dlaid_any (A : Option Addr) (c : Nat) (l : List UInt8) (i : Nat) (A' : Option Addr) (c' : Nat) (m : List UInt8) (w : World) (h1 : Reads w w.heap.size A l.length (u8s l)) (h2 : Reads w w.heap.size A' m.length (u8s m)) (hi : i ≤ l.length) (hm : 0 < m.length) (hl : l.length ≤ 1048576) (hml : m.length ≤ 1048576) :
    Calls Tryz.prog 83 #[.slice A l.length c, .int .i64 i, .slice A' m.length c'] w (CloneEnd w (laidB l i m)) := by
  obtain ⟨i0, hi0, hz0, hz1, hz2⟩ := info_parts info_u8
  have HL := Lib.hid (laidB_len l i m hi)
  have H1 := Lib.hid h1
  have H2 := Lib.hid h2
  clear h1 h2
  have hne : ¬ m = [] := fun e => by rw [e] at hm; simp at hm
  by_cases hh : (l.length : Int) < (i : Int) + (m.length : Int)
  · have hN : i + m.length ≤ 2097152 := by omega
    go_enter Tryz.func83, Tryz.ntmps83
    go_wp2_with (first
      | (refine wpList_make_blk w rfl _ _ 72 rfl 5 i0 (.int .u8 0) Tryz.underlying72 hi0 hz0 hz1 rfl .i64 .i64 _ _ (i + m.length) rfl rfl (by omega) (by omega) (by rw [hz2]; omega) (by unfold maxLen; omega) ?_
         intro w1 G1 hb1 hz1'
         have H1' := Lib.hid (H1.out.below hb1)
         have H2' := Lib.hid (H2.out.below hb1))
      | (with_reducible refine wpList_copy_front rfl (.tmp 16) (.tmp 17) 72 72 rfl 5 Tryz.underlying72 (by kernel_rfl) _ _ _ _ _ _ rfl rfl 5 _ G1.out w.heap.size (u8s l) H1'.out (u8s_one l) (by omega) (by first | (simp; done) | (simp; omega)) w.heap.size w hb1 (Nat.le_refl _) ?_
         intro w2 G2 hb2 hz2' hf2
         have H2'' := Lib.hid (show Reads w2 w.heap.size A' m.length (u8s m) from ⟨H2'.out.1, fun hn => by
           obtain ⟨ad, e, hb, hc⟩ := H2'.out.2 hn
           exact ⟨ad, e, hb, fun j u hu => by rw [World.cell?_of_block (w := w1) (w' := w2) (by rw [block_of_add]; exact hf2 _ (by omega))]; exact hc j u hu⟩⟩))
      | (refine wpList_copy_at rfl (.tmp 21) (.tmp 22) 72 72 rfl 5 Tryz.underlying72 (by kernel_rfl) _ _ _ _ _ _ _ rfl rfl 5 _ G2.out w.heap.size (u8s m) H2''.out (u8s_one m) (by omega) (by first | (simp; done) | (simp; omega)) w.heap.size w hb2 (Nat.le_refl _) ?_
         intro w3 G3 hb3 hz3 hf3))
    go_ret
    have HG : Hid (Blk w3 w.heap.size 5 (u8s (laidB l i m))) := Lib.hid (by
      have h := G3.out
      have e : ((u8s l ++ (List.replicate (i + m.length) (Value.int .u8 0)).drop l.length).take i ++ (u8s m ++ (u8s l ++ (List.replicate (i + m.length) (Value.int .u8 0)).drop l.length).drop (i + m.length))) = u8s (laidB l i m) := by
        unfold laidB
        rw [List.take_append_of_le_length (by simpa using hi)]
        rw [List.drop_eq_nil_of_le (by simp; omega), List.drop_eq_nil_of_le (show l.length ≤ i + m.length by omega)]; simp [u8s, List.map_take]
      rwa [e] at h)
    have hlen : (laidB l i m).length = i + m.length := by have := HL.out; omega
    refine ⟨some ⟨w.heap.size, 0, none⟩, i + m.length, by rw [hlen]; rfl, by omega, by unfold maxLen; omega, ?_, hb3⟩
    refine ⟨?_, fun ad e hn => ?_⟩
    · have := Reads.of_blk HG.out
      rwa [u8s_length] at this
    · injection e with e
      subst e
      exact ⟨Nat.le_refl _, _, by simp, _, HG.out⟩
  · have hN : l.length ≤ 2097152 := by omega
    have hil : i < l.length := by omega
    have hil' : ¬ l.length = i := by omega
    have hil2 : i ≠ l.length := by omega
    go_enter Tryz.func83, Tryz.ntmps83
    go_wp2_with (first
      | (refine wpList_make_blk w rfl _ _ 72 rfl 5 i0 (.int .u8 0) Tryz.underlying72 hi0 hz0 hz1 rfl .i64 .i64 _ _ (l.length) rfl rfl (by omega) (by omega) (by rw [hz2]; omega) (by unfold maxLen; omega) ?_
         intro w1 G1 hb1 hz1'
         have H1' := Lib.hid (H1.out.below hb1)
         have H2' := Lib.hid (H2.out.below hb1))
      | (with_reducible refine wpList_copy_front rfl (.tmp 16) (.tmp 17) 72 72 rfl 5 Tryz.underlying72 (by kernel_rfl) _ _ _ _ _ _ rfl rfl 5 _ G1.out w.heap.size (u8s l) H1'.out (u8s_one l) (by omega) (by first | (simp; done) | (simp; omega)) w.heap.size w hb1 (Nat.le_refl _) ?_
         intro w2 G2 hb2 hz2' hf2
         have H2'' := Lib.hid (show Reads w2 w.heap.size A' m.length (u8s m) from ⟨H2'.out.1, fun hn => by
           obtain ⟨ad, e, hb, hc⟩ := H2'.out.2 hn
           exact ⟨ad, e, hb, fun j u hu => by rw [World.cell?_of_block (w := w1) (w' := w2) (by rw [block_of_add]; exact hf2 _ (by omega))]; exact hc j u hu⟩⟩))
      | (refine wpList_copy_at rfl (.tmp 21) (.tmp 22) 72 72 rfl 5 Tryz.underlying72 (by kernel_rfl) _ _ _ _ _ _ _ rfl rfl 5 _ G2.out w.heap.size (u8s m) H2''.out (u8s_one m) (by omega) (by first | (simp; done) | (simp; omega)) w.heap.size w hb2 (Nat.le_refl _) ?_
         intro w3 G3 hb3 hz3 hf3))
    go_ret
    have HG : Hid (Blk w3 w.heap.size 5 (u8s (laidB l i m))) := Lib.hid (by
      have h := G3.out
      have e : ((u8s l ++ (List.replicate (l.length) (Value.int .u8 0)).drop l.length).take i ++ (u8s m ++ (u8s l ++ (List.replicate (l.length) (Value.int .u8 0)).drop l.length).drop (i + m.length))) = u8s (laidB l i m) := by
        unfold laidB
        rw [List.take_append_of_le_length (by simpa using hi)]
        simp [u8s, List.map_take, List.map_drop]
      rwa [e] at h)
    have hlen : (laidB l i m).length = l.length := by have := HL.out; omega
    refine ⟨some ⟨w.heap.size, 0, none⟩, l.length, by rw [hlen]; rfl, by omega, by unfold maxLen; omega, ?_, hb3⟩
    refine ⟨?_, fun ad e hn => ?_⟩
    · have := Reads.of_blk HG.out
      rwa [u8s_length] at this
    · injection e with e
      subst e
      exact ⟨Nat.le_refl _, _, by simp, _, HG.out⟩
end Go.Proofs.YtkdmfjpfanmgmaaGreatDoor
